/-
  A part of the proof that the law RollStorm returns true for every input; five variables of Go's library start as the text lays them (the card ties them); conditions: none beyond the statement's own. (part 3 of 6)
-/
import Derived.Test.YtoffnnjbplgnaaaGreatDoorChecked
import Derived.KernelRfl
import Derived.RangeFuncIn
import Derived.Laws.Externs
import Derived.RecoverIn
import Derived.Test.YtoffnnjbplgnaaaGreatDoorNib
set_option linter.unusedSimpArgs false
set_option linter.unusedVariables false
set_option maxHeartbeats 16000000
set_option maxRecDepth 100000
namespace Go.Abs
open Go Go.RowKit
def bV(ts:List (Nat×I)):List (Nat×I)→Prop
 | []=>True
 |(k,v)::r=>cj ts k=v∧bV ts r
def b7(os:List (Nat×aj)):List (Nat×aj)→Prop
 | []=>True
 |(k,v)::r=>aD os k=some v∧b7 os r
def b6(p:Nat→Bool):List (Nat×I)→Prop
 | []=>True
 |(_,v)::r=>v.only p=true∧b6 p r
theorem xD{ts:List (Nat×I)} : ∀ {ts':List (Nat×I)},bV ts ts'→∀ k,cj ts' k=.dc∨cj ts' k=cj ts k
 | [],_,k=>.inl rfl
 |(j,v)::r,h,k=>by
  simp only[bV] at h;simp only[cj];split
  ·rename_i hk;subst hk;exact .inr h.1.symm
  ·exact xD h.2 k
theorem FD{os:List (Nat×aj)} : ∀ {os':List (Nat×aj)},b7 os os'→∀ k,aD os' k=none∨aD os' k=aD os k
 | [],_,k=>.inl rfl
 |(j,v)::r,h,k=>by
  simp only[b7] at h;simp only[aD];split
  ·rename_i hk;subst hk;exact .inr h.1.symm
  ·exact FD h.2 k
theorem CV{p:Nat→Bool} : ∀ {ts:List (Nat×I)},b6 p ts→∀ k,(cj ts k).only p=true
 | [],_,k=>by simp[cj,I.only]
 |(j,v)::r,h,k=>by
  simp only[b6] at h;simp only[cj];split
  ·exact h.1
  ·exact CV h.2 k
theorem CU{p:Nat→Bool} : ∀ {os:List (Nat×aj)},bI p os→∀ k x,aD os k=some x→x.only p=true
 | [],_,k,x,hx=>by simp[aD] at hx
 |(j,v)::r,h,k,x,hx=>by
  simp only[bI] at h;simp only[aD] at hx;split at hx
  ·simp only[v6] at hx;subst hx;exact h.1
  ·exact CU h.2 k x hx
theorem bx.cQ{ts ts':List (Nat×I)}{os os':List (Nat×aj)}(h1:bV ts ts')(h2:b7 os os')(h3:b6 (aC os') ts')(h4:bI (aC os') os'):bx (aw ts os) (aw ts' os'):=by
 rintro c a w ⟨D,E,hs⟩;have hp:∀ n,aC os' n=true→(if aC os' n then E n else none)=E n:=fun n hn=>by simp[hn]
 refine ⟨D,fun n=>if aC os' n then E n else none,hs.sz,hs.er,fun t =>?_,hs.dn,hs.cO,hs.cS,fun n =>?_,fun n m e e' b h1 h2 h3 h4 =>?_,fun n e hn =>?_,hs.eN,hs.cE,hs.eV,hs.fy⟩
 ·have:=xD h1 t;rcases this with h | h
  ·simp only[aw];rw[h];simp[aR]
  ·refine aR.dO (p:=aC os') hp (CV h3 t) ?_;have:=hs.dK t;simp only[aw] at *;rw[h];exact this
 ·have ho:=hs.bD n;simp only[aw] at *;rcases FD h2 n with h | h
  ·rw[h];simp[c6,aC,h]
  ·rw[h];by_cases hin:aD os n=none
   ·rw[hin];simp[c6,aC,h,hin]
   ·have aq:(if aC os' n then E n else none)=E n:=hp n (by simp[aC,h];cases hh:aD os n <;>simp_all);cases hx:aD os n with
    |none=>exact absurd hx hin
    |some x =>
     have hon:=CU h4 n x (h.trans hx);rw[hx] at ho;cases x with
     |box x =>
      obtain ⟨b,cs,T,k1,k2,k3,k4,k5⟩:=ho;exact ⟨b,cs,T,aq.trans k1,k2,k3,af.dO hp _ _ (by simpa[aj.only] using hon) k4,k5⟩
     |bF T sz es =>
      obtain ⟨aB,k1,k2,k3⟩:=ho;refine ⟨aB,aq.trans k1,k2,?_⟩;cases aB with
      |none=>exact k3
      |some bc =>
       obtain ⟨b,cap⟩:=bc;obtain ⟨cs,pre,rest,q1,q2,q3,q4,q5⟩:=k3;exact ⟨cs,pre,rest,q1,q2,q3,aA.dO hp _ _ (by simpa[aj.only] using hon) q4,q5⟩
     |dW T xs =>
      obtain ⟨aB,k1,k2,k3⟩:=ho;exact ⟨aB,aq.trans k1,k2,k3⟩
     |dm x =>
      obtain ⟨b,k1,k2⟩:=ho;exact ⟨b,aq.trans k1,k2⟩
     |cn ks vs =>
      obtain ⟨b,es,ck,k1,k2,k3,k4,k5,k6,k7⟩:=ho;simp only[aj.only,Z7] at hon;exact ⟨b,es,ck,aq.trans k1,k2,k3,k4,ao.dO hp _ _ hon.1 k5,ao.dO hp _ _ hon.2 k6,k7⟩
     |it ks vs left cur =>
      obtain ⟨r,b,es,ck,ea,se,la,k1,k2,k3,k4,k5,k6,k7⟩:=ho;simp only[aj.only,Z7] at hon;exact ⟨r,b,es,ck,ea,se,la,aq.trans k1,k2,k3,k4,ao.dO hp _ _ hon.1 k5,ao.dO hp _ _ hon.2 k6,k7⟩
 ·refine hs.cD n m e e' b ?_ ?_ h3 h4
  ·split at h1
   ·exact h1
   ·cases h1
  ·split at h2
   ·exact h2
   ·cases h2
 ·by_cases hi:aC os' n=true
  ·simp only[hi,if_true];exact hs.dG n e hn
  ·simp only[hi];exact .inl rfl
def bH:Nat→List I→List (Nat×I)
 |_,[]=>[]
 |k,a::aS9=>(k,a)::bH (k+1) aS9
theorem Cn:∀ (aS9:List I) (k t:Nat),cj (bH k aS9) t=if t<k then .dc else (aS9[t-k]?).getD .dc
 | [],k,t=>by simp[bH,cj]
 |a::aS9,k,t=>by
  simp only[bH,cj,Cn aS9 (k+1) t];by_cases h:t=k
  ·subst h;simp
  ·rw[if_neg h];by_cases h2:t<k
   ·rw[if_pos (by omega),if_pos h2]
   ·rw[if_neg (by omega),if_neg h2,show t-k=(t-(k+1))+1 from by omega];simp
theorem tO(args:List I)(os:List (Nat×aj)):bx (nO args os) (aw (bH 0 args) os):=by
 rintro c a w ⟨D,E,hs⟩;refine ⟨D,E,hs.sz,hs.er,fun t =>?_,hs.dn,hs.cO,hs.cS,hs.bD,hs.cD,hs.dG,hs.eN,hs.cE,hs.eV,hs.fy⟩;have:=hs.dK t;simp only[aw,Cn,nO,Nat.not_lt_zero,if_false,Nat.sub_zero] at *;cases h:args[t]? with
 |none=>simp[aR]
 |some x=>simpa[zy9,h] using this
theorem Zw(args:List I):bx (nN args) (aw (bH 0 args) []):=tO args []
theorem wc(ts:List (Nat×I))(os:List (Nat×aj))(d:Nat)(v:I):(aw ts os).put d v=aw ((d,v)::ts) os:=rfl
theorem Ct(ts:List (Nat×I))(os:List (Nat×aj))(d:Nat)(v:I):(aw ts os).aP (some d) v=aw ((d,v)::ts) os:=rfl
theorem WC(A:ae)(v:I):A.aP none v=A:=rfl
theorem sO(ts:List (Nat×I))(os:List (Nat×aj))(d:Nat)(x:aj):(aw ts os).aQ d x=aw ts ((d,x)::os):=rfl
theorem WD(ts:List (Nat×I))(os:List (Nat×aj))(k:Nat):(aw ts os).t k=cj ts k:=rfl
theorem WB(ts:List (Nat×I))(os:List (Nat×aj))(k:Nat):(aw ts os).o k=aD os k:=rfl
theorem bX(j:Nat)(v:I)(r:List (Nat×I))(k:Nat):cj ((j,v)::r) k=if k=j then v else cj r k:=rfl
theorem dR(j:Nat)(v:aj)(r:List (Nat×aj))(k:Nat):aD ((j,v)::r) k=if k=j then some v else aD r k:=rfl
theorem Wr(k:Nat):aD [] k=none:=rfl
theorem MB(A:ae)(k:Nat):ah A (.t k)=A.t k:=rfl
theorem MA(A:ae)(x:I):ah A (.c x)=x:=rfl
noncomputable def cK(d:Option Nat)(rest:List au)(A:ae)(v:I):bZ:=al rest (A.aP d v)
theorem V0(d:Option Nat)(rest:List au)(A:ae)(v:I):cK d rest A v=al rest (A.aP d v):=rfl
theorem HK(v:I)(k:I→bZ):cq (some v) k=k v:=rfl
theorem G1(A:ae):al [] A=.done A:=rfl
noncomputable def bm(A:ae)(d:Option Nat)(op:bt)(rest:List au):bZ:=aX A d op rest (al rest)
noncomputable def gB(x:I)(b:Bool)(d:Option Nat)(op:bt)(rest:List au)(A:ae):bZ :=
 match x with
 | .bool b'=>if b'=b then bm A d op rest else al rest (A.aP d .undef)
 | .undef=>al rest (A.aP d .undef)
 |_=>.fail
theorem aZ.guard{P:Program}{Y:Value→List I→List (Nat×aj)→b9→Prop}{dr:Bool}{K:ae→Prop}{x b:Bool}{d:Option Nat}{op:bt}{rest:List au}{A:ae}(h1:x=b→aZ P Y dr K (bm A d op rest))(h2:x = !b→aZ P Y dr K (al rest (A.aP d .undef))):aZ P Y dr K (gB (.bool x) b d op rest A):=by
 unfold gB;by_cases h:x=b
 ·simp only[if_pos h];exact h1 h
 ·simp only[if_neg h];exact h2 (by cases x <;>cases b <;>simp_all)
def I.dh:I→Option (List I)
 | .agg fs=>some fs
 |_=>none
def od(p:List Nat):Option I→Option I
 |some f=>f.at p
 |none=>none
def lh(i:Nat)(p:List Nat):Option (List I)→Option I
 |some fs=>od p fs[i]?
 |none=>none
theorem pP(c:I):c.at []=some c:=by cases c <;>rfl
theorem Hh(c:I)(i:Nat)(p:List Nat):c.at (i::p)=lh i p c.dh:=by
 cases c <;>first | rfl | (rename_i fs;simp only[I.at,lh,I.dh,od])
def qX(fs:List I)(i:Nat)(p:List Nat)(v:I):Option I→I
 |some f=>.agg (fs.set i (f.dI p v))
 |none=>.agg fs
def po(c:I)(i:Nat)(p:List Nat)(v:I):Option (List I)→I
 |some fs=>qX fs i p v fs[i]?
 |none=>c
theorem fx(c v:I):c.dI [] v=v:=by cases c <;>rfl
theorem xi(c:I)(i:Nat)(p:List Nat)(v:I):c.dI (i::p) v=po c i p v c.dh:=by
 cases c <;>first | rfl | (rename_i fs;simp only[I.dI,po,I.dh];cases fs[i]? <;>rfl)
def dN(p:List Nat):Option aj→Option I
 |some (.box c)=>c.at p
 |_=>none
def fL(A:ae):I→Option I
 | .ref x=>some x
 | .ptr n p=>dN p (A.o n)
 |_=>none
theorem jR(A:ae)(x:I):bT A x=fL A x:=by
 cases x <;>first | rfl | (rename_i n p;simp only[bT,fL];cases A.o n with | none=>rfl | some y=>cases y <;>rfl)
def ml(s:Option Nat)(x:I):Option I:=if bN s x=true then some x else none
def fS(s:Option Nat):Option I→Option I
 |some x=>ml s x
 |none=>none
open Classical in
noncomputable def fI(fs:List I)(f off:Nat)(y:I):Option I:=if f<fs.length∧I.sizes (fs.take f)=off then some y else none
noncomputable def p9(n:Nat)(p:List Nat)(f off:Nat):Option (List I)→Option I
 |some fs=>fI fs f off (.ptr n (p++[f]))
 |none=>none
noncomputable def p8(fs:List I)(f off:Nat):Option I→Option I
 |some v=>fI fs f off (.ref v)
 |none=>none
noncomputable def r0(f off:Nat):Option (List I)→Option I
 |some fs=>p8 fs f off fs[f]?
 |none=>none
def ev:Option I→Option (List I)
 |some x=>x.dh
 |none=>none
noncomputable def ma(A:ae)(f off:Nat):I→Option I
 | .ref c=>r0 f off c.dh
 | .ptr n p=>p9 n p f off (ev (dN p (A.o n)))
 |_=>none
theorem Yc(A:ae)(f off:Nat)(x:ay):aY A (.fa f off x)=ma A f off (ah A x):=by
 simp only[aY];generalize ah A x=y;cases y with
 |ref c =>
  cases c <;>simp only[ma,I.dh,r0]
  rename_i fs;cases h:fs[f]? with
  |none=>simp[p8]
  |some v =>
   have hl:f<fs.length:=(zz6.1 h).1;simp only[p8,fI,hl,true_and]

 |ptr n p =>
  simp only[ma,jR,fL];cases dN p (A.o n) with
  |none=>simp[ev,p9]
  |some c =>
   cases c <;>simp only[ev,I.dh,p9]
   simp only[fI]

 |_=>simp only[ma]
noncomputable def r4(f off:Nat)(s:Option Nat):Option (List I)→Option I
 |some fs=>match fs[f]? with
  |some v=>(fI fs f off v).bind (ml s)
  |none=>none
 |none=>none
theorem Yd(A:ae)(f off:Nat)(s:Option Nat)(x:ay):aY A (.fl f off s x)=r4 f off s (ah A x).dh:=by
 simp only[aY];generalize ah A x=y;cases y <;>simp only[r4,I.dh]
 rename_i fs;cases h:fs[f]? with
 |none=>rfl
 |some v =>
  have hl:f<fs.length:=(zz6.1 h).1;simp only[fI,hl,true_and];by_cases h1:I.sizes (fs.take f)=off <;>by_cases h2:bN s v=true <;>simp[h1,h2,ml]
open Classical in
noncomputable def hG(k:Int)(n:Nat)(y:Option I):Option I:=if 0≤k∧k<n then y else none
noncomputable def iv(n esz:Nat)(fs:List I)(y:Option I):Option I:=if gz n esz fs=true then y else none
noncomputable def oG(n esz:Nat)(k:Int):Option (List I)→Option I
 |some fs=>iv n esz fs ((fs[k.toNat]?).map .ref)
 |none=>none
noncomputable def mU(n esz m:Nat)(p:List Nat)(k:Int):Option (List I)→Option I
 |some fs=>iv n esz fs (some (.ptr m (p++[k.toNat])))
 |none=>none
noncomputable def gf(A:ae)(n esz:Nat)(k:Int):I→Option I
 | .ref c=>hG k n (oG n esz k c.dh)
 | .ptr m p=>hG k n (mU n esz m p k (ev (dN p (A.o m))))
 |_=>none
noncomputable def qg(A:ae)(n esz:Nat)(x:I):I→Option I
 | .int _ k=>gf A n esz k x
 |_=>none
theorem Ye(A:ae)(n esz:Nat)(x i:ay):aY A (.ia n esz x i)=qg A n esz (ah A x) (ah A i):=by
 simp only[aY];generalize ah A x=y;generalize ah A i=z;cases z <;>simp only[qg]
 rename_i kk k;cases y with
 |ref c =>
  simp only[gf,hG];split
  ·cases c <;>simp only[I.dh,oG,iv]
  ·rfl
 |ptr m p =>
  simp only[gf,hG,jR,fL];split
  ·cases dN p (A.o m) with
   |none=>simp[ev,mU]
   |some c=>cases c <;>simp only[ev,I.dh,mU,iv]
  ·rfl
 |_=>simp only[gf];split <;>rfl
open Classical in
noncomputable def mW(m:Nat)(p:List Nat)(sz lo l esz:Nat)(k:Int):Option (List I)→Option I
 |some _=>if sz=esz∧0≤k∧k<l then some (.ptr m (p++[lo+k.toNat])) else none
 |none=>none
open Classical in
noncomputable def ji(A:ae)(esz:Nat)(k:Int):I→Option I
 | .slice sz es=>if sz=esz∧0≤k∧k<es.length then (es[k.toNat]?).map .ref else none
 | .own m l=>match A.o m with
  |some (.bF _ sz es)=>if l=es.length∧sz=esz∧0≤k∧k<es.length then (es[k.toNat]?).map .ref else none
  |_=>none
 | .view m p sz lo l=>mW m p sz lo l esz k (ev (dN p (A.o m)))
 |_=>none
noncomputable def qj(A:ae)(esz:Nat)(x:I):I→Option I
 | .int _ k=>ji A esz k x
 |_=>none
theorem Yf(A:ae)(esz:Nat)(x i:ay):aY A (.is esz x i)=qj A esz (ah A x) (ah A i):=by
 simp only[aY];generalize ah A x=y;generalize ah A i=z;cases z <;>simp only[qj]
 cases y <;>simp only[ji]
 ·split <;>simp_all
 ·rename_i m p sz lo l;simp only[jR,fL];cases dN p (A.o m) with
  |none=>rfl
  |some c=>cases c <;>simp only[ev,I.dh,mW]
noncomputable def mX(n esz:Nat)(s:Option Nat)(k:Int):Option (List I)→Option I
 |some fs=>hG k n (iv n esz fs (fS s fs[k.toNat]?))
 |none=>none
noncomputable def qm(n esz:Nat)(s:Option Nat)(x:I):I→Option I
 | .int _ k=>mX n esz s k x.dh
 |_=>none
theorem Yg(A:ae)(n esz:Nat)(s:Option Nat)(x i:ay):aY A (.ix n esz s x i)=qm n esz s (ah A x) (ah A i):=by
 simp only[aY];generalize ah A x=y;generalize ah A i=z;cases z <;>simp only[qm]
 rename_i kk k;cases y <;>simp only[I.dh,mX]
 case agg fs =>
  simp only[hG,iv];split
  ·split
   ·cases fs[k.toNat]? <;>rfl
   ·rfl
  ·rfl
 all_goals (split <;>rfl)
def j0(A:ae):I→Option I
 | .slice _ es=>some (.int .i64 es.length)
 | .nils _=>some (.int .i64 0)
 | .c0 _=>some (.int .i64 0)
 | .own m l=>match A.o m with | some (.bF _ _ es)=>if l=es.length then some (.int .i64 es.length) else none | _=>none
 | .view _ _ _ _ k=>some (.int .i64 k)
 |_=>none
theorem Yi(A:ae)(x:ay):aY A (.len x)=j0 A (ah A x):=by
 simp only[aY];generalize ah A x=y;cases y <;>rfl
open Classical in
noncomputable def rl(n esz:Nat)(fs:List I)(y:I):Option I:=if gz n esz fs=true∧n≤maxLen∧n≠0 then some y else none
noncomputable def rm(n esz m:Nat)(p:List Nat):Option (List I)→Option I
 |some fs=>rl n esz fs (.view m p esz 0 n)
 |none=>none
noncomputable def FL(n esz:Nat):Option (List I)→Option I
 |some fs=>rl n esz fs (.slice esz fs)
 |none=>none
noncomputable def nR(A:ae)(n esz:Nat):I→Option I
 | .ptr m p=>rm n esz m p (ev (dN p (A.o m)))
 | .ref c=>FL n esz c.dh
 |_=>none
theorem Yj(A:ae)(n esz:Nat)(x:ay):aY A (.va n esz x)=nR A n esz (ah A x):=by
 simp only[aY];generalize ah A x=y;cases y with
 |ptr m p =>
  simp only[nR,jR,fL];cases dN p (A.o m) with
  |none=>simp[ev,rm]
  |some c=>cases c <;>simp only[ev,I.dh,rm,rl] <;>(split <;>simp_all)
 |ref c=>cases c <;>simp only[nR,I.dh,FL,rl] <;>(split <;>simp_all)
 |_=>simp only[nR]
theorem Yh(A:ae)(s:Option Nat)(x:ay):aY A (.ld s x)=fS s (fL A (ah A x)):=by
 simp only[aY,jR];cases fL A (ah A x) <;>simp only[fS,ml]
noncomputable def qE(A:ae)(d:Option Nat)(a b:ay)(rest:List au):I→bZ
 | .bool t=>al rest (A.aP d (if t then ah A a else ah A b))
 |_=>.fail
noncomputable def rj(op:UnOp)(x:I):Option I:=match op,x with
  | .not,.bool b=>some (.bool !b)
  | .neg,.int k n=>some (.int k (k.wrap (0-n)))
  | .xor,.int k n=>some (.int k (oo k n))
  |_,_=>none
def vh(i:Nat):I→Option I
 | .tuple fs=>fs[i]?
 |_=>none
def uV(k:IntKind):I→Option I
 | .int _ n=>some (.int k (k.wrap n))
 |_=>none
noncomputable def uw(A:ae)(d:Nat)(z:I)(rest:List au):Option aj→bZ
 |none=>al rest ((A.aQ d (.box z)).put d (.ptr d []))
 |some _=>.fail
noncomputable def rL(A:ae)(d:Nat)(z:I)(rest:List au)(v:Bool):bZ:=if v=true then al rest ((A.aQ d (.box z)).put d (.ptr d [])) else .fail
noncomputable def rK(A:ae)(d:Nat)(z:I)(rest:List au):Option aj→bZ
 |none=>rL A d z rest z.cC
 |some _=>.fail
open Classical in
noncomputable def eb(A:ae)(s:Option Nat)(n:Nat)(p:List Nat)(b v:I)(rest:List au):Option I→bZ
 |some old=>if wC s v old then al rest (A.aQ n (.box (b.dI p v))) else .fail
 |none=>.fail
noncomputable def tN(A:ae)(s:Option Nat)(n:Nat)(p:List Nat)(v:I)(rest:List au):Option aj→bZ
 |some (.box b)=>eb A s n p b v rest (b.at p)
 |_=>.fail
noncomputable def tM(A:ae)(s:Option Nat)(v:I)(rest:List au):I→bZ
 | .ptr n p=>tN A s n p v rest (A.o n)
 |_=>.fail
noncomputable def pT(A:ae)(d:Option Nat)(args:List I)(rest:List au):I→bZ
 | .func f caps=>.call (kE f) (hE f args caps) (bJ true A (hE f args caps)) (bJ false A (hE f args caps)) d rest A
 | .raw v=>.lu v args d rest A
 |_=>.fail
section
variable (d:Option Nat) (rest:List au) (A:ae)
theorem GK(op:bt):al (⟨d,op,none⟩::rest) A=bm A d op rest:=rfl
theorem GL(op:bt)(t:Nat)(b:Bool):al (⟨d,op,some (t,b)⟩::rest) A=gB (A.t t) b d op rest A:=rfl
theorem UP(op:bt):gB (.bool true) true d op rest A=bm A d op rest:=by simp[gB]
theorem UM(op:bt):gB (.bool false) false d op rest A=bm A d op rest:=by simp[gB]
theorem UO(op:bt):gB (.bool true) false d op rest A=al rest (A.aP d .undef):=by simp[gB]
theorem UN(op:bt):gB (.bool false) true d op rest A=al rest (A.aP d .undef):=by simp[gB]
theorem UQ(op:bt)(b:Bool):gB .undef b d op rest A=al rest (A.aP d .undef):=rfl
theorem Xs(x:ay):bm A d (.mv x) rest=al rest (A.aP d (ah A x)):=rfl
theorem Xw(c a b:ay):bm A d (.pick c a b) rest=qE A d a b rest (ah A c):=by
 simp only[bm,aX,aY];cases ah A c <;>simp only[cq,qE]
theorem WX(op:BinOp)(x y:ay):bm A d (.bin op x y) rest=cq (bG op (ah A x) (ah A y)) (cK d rest A):=rfl
theorem Xc(ty:cm)(neg:Bool)(x y:ay):bm A d (.eqv ty neg x y) rest=cq ((bW ty (ah A x) (ah A y)).map fun b=>.bool (if neg then !b else b)) (cK d rest A):=rfl
theorem XB(op:UnOp)(x:ay):bm A d (.un op x) rest=cq (rj op (ah A x)) (cK d rest A):=rfl
theorem Xa(k:IntKind)(x:ay):bm A d (.conv k x) rest=cq (uV k (ah A x)) (cK d rest A):=by
 simp only[bm,aX,aY];cases ah A x <;>rfl
theorem Xj(s:Option Nat)(x:ay):bm A d (.ld s x) rest=cq (fS s (fL A (ah A x))) (cK d rest A):=by rw[←Yh];rfl
theorem Xe(f off:Nat)(x:ay):bm A d (.fa f off x) rest=cq (ma A f off (ah A x)) (cK d rest A):=by rw[←Yc];rfl
theorem Xf(f off:Nat)(s:Option Nat)(x:ay):bm A d (.fl f off s x) rest=cq (r4 f off s (ah A x).dh) (cK d rest A):=by rw[←Yd];rfl
theorem Xg(n esz:Nat)(x i:ay):bm A d (.ia n esz x i) rest=cq (qg A n esz (ah A x) (ah A i)) (cK d rest A):=by rw[←Ye];rfl
theorem Xh(esz:Nat)(x i:ay):bm A d (.is esz x i) rest=cq (qj A esz (ah A x) (ah A i)) (cK d rest A):=by rw[←Yf];rfl
theorem Xi(n esz:Nat)(s:Option Nat)(x i:ay):bm A d (.ix n esz s x i) rest=cq (qm n esz s (ah A x) (ah A i)) (cK d rest A):=by rw[←Yg];rfl
theorem Xk(x:ay):bm A d (.len x) rest=cq (j0 A (ah A x)) (cK d rest A):=by rw[←Yi];rfl
theorem XC(n esz:Nat)(x:ay):bm A d (.va n esz x) rest=cq (nR A n esz (ah A x)) (cK d rest A):=by rw[←Yj];rfl
theorem WY(zs:List I)(ps:List (Nat×ay)):bm A d (.bld zs ps) rest=cq ((eT zs (ps.map fun p=>(p.1,ah A p.2))).map .agg) (cK d rest A):=rfl
theorem Xd(x:ay)(i:Nat):bm A d (.ext x i) rest=cq (vh i (ah A x)) (cK d rest A):=by
 simp only[bm,aX,aY];cases ah A x <;>rfl
theorem Xn(f:FuncId)(caps:List ay):bm A d (.mk f caps) rest=cq (if ((caps.map (ah A)).all fun y=>y.cC)=true then some (.func f (caps.map (ah A))) else none) (cK d rest A):=rfl
theorem WU(d:Nat)(z:I):bm A (some d) (.alloc z) rest=uw A d z rest (A.o d):=by
 simp only[bm,aX];cases A.o d <;>rfl
theorem WZ(d:Nat)(x:ay):bm A (some d) (.box x) rest=rK A d (ah A x) rest (A.o d):=by
 simp only[bm,aX];cases A.o d <;>simp only[rK,rL]
theorem XA(s:Option Nat)(x v:ay):bm A none (.aV s x v) rest=tM A s (ah A v) rest (ah A x):=by
 simp only[bm,aX];cases ah A x <;>simp only[tM]
 rename_i n p;cases A.o n with
 |none=>rfl
 |some y =>
  cases y <;>simp only[tN]
  rename_i b;cases b.at p <;>simp only[eb]
theorem W6(f:FuncId)(args:List ay):bm A d (.call f args) rest=.call f (args.map (ah A)) (bJ true A (args.map (ah A))) (bJ false A (args.map (ah A))) d rest A:=rfl
theorem W7(x:ay)(args:List ay):bm A d (.fq x args) rest=pT A d (args.map (ah A)) rest (ah A x):=by
 simp only[bm,aX];cases ah A x <;>rfl
end
end Go.Abs
namespace Go.Abs
open Go Go.RowKit
mutual
/-- Closed,and as a result is told: no nil slice but as the empty one. -/
def I.done:I→Bool
 | .agg fs=>I.iP fs
 | .slice _ es=>I.cv es
 | .ref x=>x.bC
 | .func f caps=>decide (f<1000000)&&I.iP caps
 | .iface _ v=>v.bC
 | .da ks vs=>I.cv ks&&I.cv vs
 | .bool _ | .int _ _ | .ak _ | .nilp | .di | .cU | .any | .raw _=>true
 |_=>false
def I.iP:List I→Bool
 | []=>true
 |x::xs=>x.done&&I.iP xs
end
mutual
theorem u3:∀ x:I,x.done=true→x.bC=true
 | .agg fs,h=>by simp only[I.done,I.bC] at *;exact u4 fs h
 | .slice _ es,h=>by simpa only[I.done,I.bC] using h
 | .ref x,h=>by simpa only[I.done,I.bC] using h
 | .func _ caps,h=>by simp only[I.done,I.bC,Z7] at *;exact u4 caps h.2
 | .iface _ v,h=>by simpa only[I.done,I.bC] using h
 | .bool _,_ | .int _ _,_ | .ak _,_ | .nilp,_ | .di,_ | .cU,_ | .any,_ | .raw _,_=>by simp[I.bC]
 | .da _ _,h=>by simpa only[I.done,I.bC] using h
 | .nils _,h | .c0 _,h | .ptr _ _,h | .own _ _,h | .view _ _ _ _ _,h | .mref _,h | .c8 _,h | .undef,h | .dc,h | .tuple _,h=>by simp[I.done] at h
theorem u4:∀ xs:List I,I.iP xs=true→I.cv xs=true
 | [],_=>rfl
 |x::xs,h=>by
  simp only[I.iP,I.cv,Z7] at *;exact ⟨u3 x h.1,u4 xs h.2⟩
end
mutual
theorem A5(aE:Bool)(A:ae):∀ x:I,x.done=true→bf aE A x=some x
 | .agg fs,h=>by simp only[I.done,bf] at *;rw[vr aE A fs h];rfl
 | .slice _ es,h=>by simp only[I.done] at h;simp[bf,h]
 | .ref x,h=>by simp only[I.done] at h;simp[bf,h]
 | .func _ caps,h=>by simp only[I.done,bf,Z7,decide_eq_true_eq] at *;rw[if_pos h.1,vr aE A caps h.2];rfl
 | .iface _ v,h=>by simp only[I.done] at h;simp[bf,h]
 | .bool _,_ | .int _ _,_ | .ak _,_ | .nilp,_ | .di,_ | .cU,_ | .any,_ | .raw _,_=>by simp[bf]
 | .da _ _,h=>by simp only[I.done] at h;simp[bf,h]
 | .nils _,h | .c0 _,h | .ptr _ _,h | .own _ _,h | .view _ _ _ _ _,h | .mref _,h | .c8 _,h | .undef,h | .dc,h | .tuple _,h=>by simp[I.done] at h
theorem vr(aE:Bool)(A:ae):∀ xs:List I,I.iP xs=true→bJ aE A xs=some xs
 | [],_=>by simp[bJ]
 |x::xs,h=>by
  simp only[I.iP,Z7] at h;simp only[bJ,A5 aE A x h.1,vr aE A xs h.2]
end
theorem Mh{x:I}(h:x.done=true):x.cC=true:=by cases x <;>simp_all[I.done,I.cC]
class Enc (α:Type) where
 enc:α→I
 sz:Nat
 aL:bP
 gC:Bool
 done:∀ x,(enc x).done=true
 size:∀ x,(enc x).size=sz
 iI:∀ x,(enc x).aL=aL
 agg:∀ x,(enc x).isAgg=gC
open Enc (enc)
instance:Enc Int where
 enc n:=.int .i64 n
 sz:=1
 aL:=.one
 gC:=false
 done _:=rfl
 size _:=by simp[I.size]
 iI _:=by simp[I.aL]
 agg _:=rfl
instance:Enc Bool where
 enc b:=.bool b
 sz:=1
 aL:=.one
 gC:=false
 done _:=rfl
 size _:=by simp[I.size]
 iI _:=by simp[I.aL]
 agg _:=rfl
theorem pW{α:Type}[Enc α](l:List α):I.cv (l.map enc)=true:=by
 induction l with
 |nil=>rfl
 |cons x l ih=>simp only[zz1,I.cv,u3 _ (Enc.done x),ih,Bool.and_self]
theorem Mi{α:Type}[Enc α](l:List α):I.iP (l.map enc)=true:=by
 induction l with
 |nil=>rfl
 |cons x l ih=>simp only[zz1,I.iP,Enc.done x,ih,Bool.and_self]
theorem Zi{α:Type}[Enc α](l:List α):I.sizes (l.map enc)=l.length*Enc.sz α:=by
 rw[I.gF (sz:=Enc.sz α) _ (by simp only[zx4];rintro x ⟨y,_,rfl⟩;exact Enc.size y)];simp
theorem xn{α:Type}[Enc α](l:List α):I.cJ (l.map enc)=List.replicate l.length (Enc.aL α):=by
 induction l with
 |nil=>rfl
 |cons x l ih=>simp only[zz1,I.cJ,Enc.iI x,ih,zx7,List.replicate_succ]
instance {α:Type} [Enc α]:Enc (List α) where
 enc l:=.slice (Enc.sz α) (l.map enc)
 sz:=1
 aL:=.one
 gC:=false
 done l:=by simp only[I.done];exact pW l
 size _:=by simp[I.size]
 iI _:=by simp[I.aL]
 agg _:=rfl
structure ef (n:Nat) (α:Type) where
 l:List α
 h:l.length=n
instance {n:Nat} {α:Type} [Enc α]:Enc (ef n α) where
 enc x:=.agg (x.l.map enc)
 sz:=n*Enc.sz α
 aL:=.eE (List.replicate n (Enc.aL α))
 gC:=true
 done x:=by simp only[I.done];exact Mi x.l
 size x:=by simp only[I.size,Zi,x.h]
 iI x:=by simp only[I.aL,xn,x.h]
 agg _:=rfl
section
variable {α:Type} [Enc α]
theorem jg(aE:Bool)(A:ae)(x:α):bf aE A (enc x)=some (enc x):=A5 aE A _ (Enc.done x)
theorem kz(x:α):(enc x).bC=true:=u3 _ (Enc.done x)
theorem bu(p:Nat→Bool)(x:α):(enc x).only p=true:=mq p _ (kz x)
theorem eQ(x:α):(enc x).cC=true:=Mh (Enc.done x)
theorem AH(x:α):bN none (enc x) = !(Enc.gC α):=by simp[bN,Enc.agg]
theorem gy(n:Nat)(x:α):bN (some n) (enc x)=(Enc.gC α&&Enc.sz α==n):=by simp[bN,Enc.agg,Enc.size]
theorem jT(x:α):(enc x).size=Enc.sz α:=Enc.size x
theorem ed(x:α):(enc x).aL=Enc.aL α:=Enc.iI x
theorem pX(n:Int):(enc n:I)=.int .i64 n:=rfl
theorem Mo(n:Bool):(enc n:I)=.bool n:=rfl
theorem gM(l:List α):(enc l:I)=.slice (Enc.sz α) (l.map enc):=rfl
theorem Mt:Enc.sz Int=1:=rfl
theorem Ms(n:Nat):Enc.sz (ef n α)=n*Enc.sz α:=rfl
theorem AL:Enc.sz (List α)=1:=rfl
theorem Mp:Enc.gC (List α)=false:=rfl
theorem vf(n esz:Nat)(l:List α)(h:l.length=n)(h2:Enc.sz α=esz):gz n esz (l.map enc)=true:=by
 simp only[gz,Z9,h,BEq.rfl,Bool.true_and,zx8,zx4];rintro x ⟨y,_,rfl⟩;simp[Enc.size,h2]
theorem GW(l:List α):∀ x∈l.map (enc (α:=α)),x.size=Enc.sz α:=by
 simp only[zx4];rintro x ⟨y,_,rfl⟩;exact Enc.size y
end
theorem dX(n:Int)(h1:-9223372036854775808≤n)(h2:n≤9223372036854775807):IntKind.i64.wrap n=n:=IntWalk.i64_in n ⟨h1,h2⟩
theorem aS.mk{P:Program}{f:FuncId}{fn:Func}{x:bj}{rs:List bB}{args:List I}{r:I}(hf:P.funcs[f]?=some fn)(hcall:dZ P f=true)(hc:(fn.body.bind (dY P fn.ntmps))=some x)
  (hrs:gv P fn.results.toList=some rs) (hn:args.length≤fn.ntmps) (h:∀ (w:World) (D:aH) (E:aN),U ⟨P,w,D,fn.ntmps,bU E,E,fO,none,none⟩ x (kc rs r) (aw (bH 0 args) [])):aS P f args r:=by
 obtain ⟨body,hb,hc'⟩:=zw6.1 hc;exact aS.s7 hf hb hcall hc' hrs hn (fun w D E=>(h w D E).sub (Zw args))
end Go.Abs
namespace Go.Abs.C
open Go Go.Abs
abbrev o(a:Nat)(x:bt):au:=⟨some a,x,none⟩
abbrev cw(a:Nat)(x:bt)(k:Nat):au:=⟨some a,x,some (k,true)⟩
abbrev on(a:Nat)(x:bt)(k:Nat):au:=⟨some a,x,some (k,false)⟩
abbrev p(x:bt):au:=⟨none,x,none⟩
abbrev aW(n:Int):ay:=.c (.int .i64 n)
abbrev T:ay:=.c (.bool true)
abbrev bl:ay:=.c (.bool false)
abbrev m(a b:Nat):au:=⟨some a,.mv (.t b),none⟩
abbrev dH(a b k:Nat):au:=⟨some a,.mv (.t b),some (k,true)⟩
abbrev fH(a b k:Nat):au:=⟨some a,.mv (.t b),some (k,false)⟩
abbrev bA(a:Nat)(n:Int):au:=⟨some a,.mv (.c (.int .i64 n)),none⟩
abbrev l(a b:Nat):au:=⟨some a,.ld none (.t b),none⟩
abbrev hZ(a b k:Nat):au:=⟨some a,.ld none (.t b),some (k,true)⟩
abbrev gi(a b k:Nat):au:=⟨some a,.ld none (.t b),some (k,false)⟩
abbrev av(a s b:Nat):au:=⟨some a,.ld (some s) (.t b),none⟩
abbrev f(a b c d:Nat):au:=⟨some a,.fa b c (.t d),none⟩
abbrev ew(a b c d k:Nat):au:=⟨some a,.fa b c (.t d),some (k,true)⟩
abbrev fn(a b c d k:Nat):au:=⟨some a,.fa b c (.t d),some (k,false)⟩
abbrev ad(a b:Nat)(n:Int):au:=⟨some a,.bin .add (.t b) (.c (.int .i64 n)),none⟩
abbrev lt(a b c:Nat):au:=⟨some a,.bin .lss (.t b) (.t c),none⟩
abbrev and(a b c:Nat):au:=⟨some a,.pick (.t b) (.t c) (.c (.bool false)),none⟩
abbrev or(a b c:Nat):au:=⟨some a,.pick (.t b) (.c (.bool true)) (.t c),none⟩
abbrev no(a b:Nat):au:=⟨some a,.un .not (.t b),none⟩
abbrev b(a c:Nat):au:=⟨some a,.box (.t c),none⟩
abbrev s(x y:bj):bj:=.seq x y
abbrev r(g:List au):bj:=.bY none g
abbrev cg(P:Program)(f:Func)(c:bj):Prop:=f.body.bind (dY P f.ntmps)=some c
abbrev b8(P:Program)(f:Func)(r:List bB):Prop:=gv P f.results.toList=some r
abbrev bO(P:Program)(n:FuncId):Prop:=dZ P n=true
theorem e{α:Type}{a b:α}(h:a=b):a=b:=h
end Go.Abs.C
namespace Go.Proofs.YtoffnnjbplgnaaaGreatDoor
open Go Go.Abs Go.Abs.C
def S2:=[o 6 (.mv bl)]
def S3:=[o 24 (.call 14 []),m 7 24]
def Te:=[o 8 (.alloc (.agg [.agg [.ak ⟨#[]⟩,.ak ⟨#[]⟩],.agg [.ak ⟨#[]⟩,.ak ⟨#[]⟩]]))]
def Tq:=[o 9 (.mv (.c (.nils 8)))]
def TA:=[bA 10 0]
def TD:=[bA 11 0]
def TE:=[m 25 11,m 26 0,o 27 (.len (.t 26)),o 28 (.bin .leq (.t 25) (.t 27)),m 29 28,dH 30 11 29,cw 31 (.bin .leq (.t 30) (aW 12)) 29,and 32 29 31]
def TF:=[m 35 2,o 36 (.call 28 [.t 35,(aW 2)]),o 37 (.bin .add (aW 5) (.t 36)),m 38 1,o 39 (.bld [.int .i64 0,.agg [.int .i64 0,.int .i64 0,.int .i64 0,.int .i64 0,.int .i64 0],.nils 1] [(0,(.t 37)),(2,(.t 38))]),o 12 (.alloc (.agg [.int .i64 0,.agg [.int .i64 0,.int .i64 0,.int .i64 0,.int .i64 0,.int .i64 0],.nils 1])),p (.aV (some 7) (.t 12) (.t 39))]
def TG:=[m 40 11,m 41 0,o 42 (.len (.t 41)),lt 43 40 42,m 44 43,dH 45 11 44,cw 46 (.bin .lss (.t 45) (aW 12)) 44,and 47 44 46]
def TH:=[m 48 0,m 49 11,o 50 (.is 7 (.t 48) (.t 49)),av 51 7 50,p (.aV (some 7) (.t 12) (.t 51))]
def S4:=[f 52 0 0 12,l 53 52,o 54 (.call 28 [.t 53,(aW 7)])]
def S5:=[o 126 (.bin .eql (.t 54) (aW 4)),m 125 126]
def S6:=[av 127 4 8,o 128 (.call 20 [.t 127]),p (.aV (some 4) (.t 8) (.t 128))]
def S7:=[m 129 9,o 130 (.len (.t 129)),m 10 130]
def S8:=[o 132 (.bin .eql (.t 54) (aW 5)),m 131 132]
def S9:=[o 133 (.bin .eql (.t 54) (aW 6)),m 131 133]
def Ta:=[av 134 4 8,f 135 2 6 12,l 136 135,o 137 (.call 22 [.t 134,.t 136]),o 13 (.alloc (.agg [.agg [.ak ⟨#[]⟩,.ak ⟨#[]⟩],.agg [.ak ⟨#[]⟩,.ak ⟨#[]⟩]])),p (.aV (some 4) (.t 13) (.t 137))]
def Tb:=[f 138 0 0 12,l 139 138,o 140 (.call 28 [.t 139,(aW 7)]),o 141 (.bin .eql (.t 140) (aW 6))]
def Tc:=[av 142 4 13,f 143 2 6 12,l 144 143,o 145 (.len (.t 144)),o 146 (.bin .rem (.t 145) (aW 2)),o 147 (.bin .eql (.t 146) (aW 0)),o 148 (.call 24 [.t 142,.t 147]),p (.aV (some 4) (.t 13) (.t 148))]
def Td:=[av 150 4 13,o 151 (.call 18 [.t 150]),m 149 151,o 152 (.ext (.t 149) 0),o 153 (.ext (.t 149) 1),o 14 (.alloc (.agg [.agg [.ak ⟨#[]⟩,.ak ⟨#[]⟩],.agg [.ak ⟨#[]⟩,.ak ⟨#[]⟩]])),p (.aV (some 4) (.t 14) (.t 152)),m 15 153]
def Tf:=[m 154 15,o 155 (.len (.t 154)),m 16 155]
def Tg:=[m 156 16,m 157 10,lt 158 156 157,m 159 158,fH 160 16 159,fH 161 9 159,on 162 (.len (.t 161)) 159,on 163 (.bin .gtr (.t 160) (.t 162)) 159,or 164 159 163,m 165 164,on 166 (.ld (some 4) (.t 14)) 165,fH 167 15 165,on 168 (.call 37 [.t 166,.t 167]) 165,on 169 (.bin .neq (.t 168) (aW 0)) 165,or 170 165 169,m 171 170,fn 172 0 0 14 171,fn 173 1 1 172 171,gi 174 173 171,on 175 (.bin .neq (.t 174) (.c (.ak ⟨#[]⟩))) 171,or 176 171 175,m 177 176,fn 178 1 2 14 177,fn 179 1 1 178 177,gi 180 179 177,on 181 (.bin .neq (.t 180) (.c (.ak ⟨#[]⟩))) 177,or 182 177 181,m 183 182,fn 184 0 0 14 183,on 185 (.ld (some 2) (.t 184)) 183,fn 186 1 2 14 183,on 187 (.ld (some 2) (.t 186)) 183,on 188 (.eqv (.aV [.s,.s]) true (.t 185) (.t 187)) 183,or 189 183 188]
def Th:=[o 6 (.mv bl)]
def Ti:=[m 190 15,m 191 9,m 192 16,m 193 16,o 194 (.sl 8 (.t 191) none (some (.t 192)) (some (.t 193))),o 195 (.call 17 [.t 190,.t 194]),m 17 195]
def Tj:=[m 196 17,no 197 196]
def Tk:=[o 6 (.mv bl)]
def Tl:=[av 198 4 14,p (.aV (some 4) (.t 8) (.t 198))]
def Tm:=[o 199 (.bs0 8),m 200 15,o 201 (.dM 50 8 72 (.agg [.agg [.int .i64 0,.int .i64 0],.int .i64 0,.int .i64 0,.int .i64 0,.agg [.int .i64 0,.int .i64 0],.ak ⟨#[]⟩]) (.t 199) (.t 200)),m 9 201]
def Tn:=[m 202 16,m 10 202]
def Tp:=[o 55 (.jF 66 5),m 18 55]
def Tr:=[bA 19 0]
def Ts:=[m 56 19,m 57 9,o 58 (.len (.t 57)),lt 59 56 58]
def Tt:=[m 62 18,m 63 9,m 64 19,o 65 (.is 8 (.t 63) (.t 64)),f 66 0 0 65,f 67 0 0 66,l 68 67,o 69 (.bld [.int .i64 0,.int .i64 0,.int .i64 0,.int .i64 0,.int .i64 0] [(0,(.t 68)),(1,(aW 5)),(2,(aW 0)),(3,(aW 0)),(4,(aW 0))]),o 70 (.bs 66 5 [.t 69]),o 71 (.dM 66 5 40 (.agg [.int .i64 0,.int .i64 0,.int .i64 0,.int .i64 0,.int .i64 0]) (.t 62) (.t 70)),m 18 71]
def Tu:=[m 60 19,ad 61 60 1,m 19 61]
def vA:=[m 72 18,f 73 1 1 12,o 74 (.ia 5 1 (.t 73) (aW 0)),l 75 74,f 76 1 1 12,o 77 (.ia 5 1 (.t 76) (aW 1)),l 78 77,o 79 (.call 28 [.t 78,(aW 5)]),o 80 (.bin .add (aW 1) (.t 79)),f 81 1 1 12,o 82 (.ia 5 1 (.t 81) (aW 2)),l 83 82,f 84 1 1 12,o 85 (.ia 5 1 (.t 84) (aW 3)),l 86 85,f 87 1 1 12,o 88 (.ia 5 1 (.t 87) (aW 4)),l 89 88,o 90 (.bld [.int .i64 0,.int .i64 0,.int .i64 0,.int .i64 0,.int .i64 0] [(0,(.t 75)),(1,(.t 80)),(2,(.t 83)),(3,(.t 86)),(4,(.t 89))]),o 91 (.bs 66 5 [.t 90]),o 92 (.dM 66 5 40 (.agg [.int .i64 0,.int .i64 0,.int .i64 0,.int .i64 0,.int .i64 0]) (.t 72) (.t 91)),o 93 (.call 26 [.t 92,(aW 14)]),m 20 93]
def LU:=some [[],[],[1],[2],[],[4],[5],[6],[7],[],[9],[10],[],[12],[13],[],[15],[16],[3,8,11,14,17],[18],[0,19,7],[20,20],[21,21,0,1,2,3,4,5,6,7,8,9,10,11,12,13,14,15,16,17,18,19,20,21]]
def Tv:=[av 95 4 8,m 96 9,m 97 20,m 98 20,o 99 (.len (.t 98)),o 100 (.bin .sub (.t 99) (aW 1)),o 101 (.is 8 (.t 97) (.t 100)),av 102 8 101,o 103 (.call 35 [.t 95,.t 96,.t 102]),m 94 103,o 104 (.ext (.t 94) 0),o 105 (.ext (.t 94) 1),o 106 (.ext (.t 94) 2),o 21 (.alloc (.agg [.agg [.ak ⟨#[]⟩,.ak ⟨#[]⟩],.agg [.ak ⟨#[]⟩,.ak ⟨#[]⟩]])),p (.aV (some 4) (.t 21) (.t 104)),m 22 105,m 23 106]
def LV:=some [[],[],[],[],[3],[4],[2,5],[6],[0,1,7],[8],[9],[9],[9],[],[13,10,8,0,1,2,3,4,5,6,7,8,9,10,13],[11,14,0,1,2,3,4,5,6,7,8,9,10,11,13,14],[12,15,0,1,2,3,4,5,6,7,8,9,10,11,12,13,14,15]]
def Tw:=[m 107 23,o 108 (.bin .neq (.t 107) (aW 0)),m 109 108,fH 110 22 109,on 111 (.len (.t 110)) 109,fH 112 9 109,on 113 (.len (.t 112)) 109,on 114 (.bin .add (.t 113) (aW 1)) 109,on 115 (.bin .neq (.t 111) (.t 114)) 109,or 116 109 115,m 117 116,on 118 (.ld (some 4) (.t 21)) 117,fH 119 22 117,on 120 (.call 37 [.t 118,.t 119]) 117,on 121 (.bin .neq (.t 120) (aW 0)) 117,or 122 117 121]
def Tx:=[o 6 (.mv bl)]
def Ty:=[av 123 4 21,p (.aV (some 4) (.t 8) (.t 123))]
def Tz:=[m 124 22,m 9 124]
def TB:=[m 33 11,ad 34 33 1,m 11 34]
def TC:=[m 203 7,m 6 203]
def zL:bj:=(s (r S2) (s (r S3) (s (r Te) (s (r Tq) (s (r TA) (s (s (r TD) (.block 0 (.loop (s (s (r TE) (.cond (.t 32) .skip (.exit 0))) (s (.block 1 (s (r TF) (s (s (r TG) (.cond (.t 47) (r TH) .skip)) (s (r S4) (.block 2 (s (r S5) (.cond (.t 125) (s (r S6) (r S7)) (s (s (r S8) (.cond (.t 131) .skip (r S9))) (.cond (.t 131) (s (r Ta) (s (s (r Tb) (.cond (.t 141) (r Tc) .skip)) (s (r Td) (s (r Tf) (s (s (r Tg) (.cond (.t 189) (s (r Th) .ret) .skip)) (s (r Ti) (s (s (r Tj) (.cond (.t 197) (s (r Tk) .ret) .skip)) (s (r Tl) (s (r Tm) (r Tn)))))))))) (s (r Tp) (s (s (r Tr) (.block 3 (.loop (s (s (r Ts) (.cond (.t 59) .skip (.exit 3))) (s (.block 4 (r Tt)) (r Tu)))))) (s (.bY LU vA) (s (.bY LV Tv) (s (s (r Tw) (.cond (.t 122) (s (r Tx) .ret) .skip)) (s (r Ty) (r Tz)))))))))))))))) (r TB)))))) (s (r TC) .ret)))))))
def D7:List bB:=[.tmp 6]
theorem JV:cg Tryz.prog Tryz.f8 zL:=e (by kernel_rfl)
theorem Lb:b8 Tryz.prog Tryz.f8 D7:=e (by kernel_rfl)
theorem IQ:bO Tryz.prog 8:=e (by kernel_rfl)
def Oz:=[o 0 (.mv bl)]
def OA:=[o 21 (.bld [.int .i64 0,.int .i64 0] [(0,(aW 2))]),o 22 (.bld [.agg [.int .i64 0,.int .i64 0],.int .i64 0,.int .i64 0,.int .i64 0,.agg [.int .i64 0,.int .i64 0],.ak ⟨#[]⟩] [(0,(.t 21)),(1,(aW 5)),(2,(aW 10)),(3,(aW 12)),(5,(.c (.ak ⟨#[97]⟩)))]),o 1 (.alloc (.agg [.agg [.int .i64 0,.int .i64 0],.int .i64 0,.int .i64 0,.int .i64 0,.agg [.int .i64 0,.int .i64 0],.ak ⟨#[]⟩])),p (.aV (some 8) (.t 1) (.t 22))]
def OD:=[av 24 8 1,o 25 (.call 29 [(aW 1),.t 24]),m 23 25,o 26 (.ext (.t 23) 0),o 27 (.ext (.t 23) 1),o 28 (.ext (.t 23) 2),m 2 26,m 3 27,m 4 28]
def OE:=[m 30 2,o 31 (.call 31 [(aW 1),.t 30]),m 29 31,o 32 (.ext (.t 29) 0),o 33 (.ext (.t 29) 1),o 34 (.ext (.t 29) 2),o 5 (.alloc (.agg [.agg [.int .i64 0,.int .i64 0],.int .i64 0,.int .i64 0,.int .i64 0,.agg [.int .i64 0,.int .i64 0],.ak ⟨#[]⟩])),p (.aV (some 8) (.t 5) (.t 32)),m 6 33,m 7 34]
def OF:=[o 36 (.bld [.agg [.ak ⟨#[]⟩,.ak ⟨#[]⟩],.agg [.ak ⟨#[]⟩,.ak ⟨#[]⟩]] []),av 37 8 1,o 38 (.call 35 [.t 36,(.c (.nils 8)),.t 37]),m 35 38,o 39 (.ext (.t 35) 0),o 40 (.ext (.t 35) 1),o 41 (.ext (.t 35) 2),o 8 (.alloc (.agg [.agg [.ak ⟨#[]⟩,.ak ⟨#[]⟩],.agg [.ak ⟨#[]⟩,.ak ⟨#[]⟩]])),p (.aV (some 4) (.t 8) (.t 39)),m 9 40,m 10 41]
def OG:=[av 43 4 8,o 44 (.call 22 [.t 43,(.c (.nils 1))]),o 45 (.call 18 [.t 44]),m 42 45,o 46 (.ext (.t 42) 0),o 47 (.ext (.t 42) 1),o 11 (.alloc (.agg [.agg [.ak ⟨#[]⟩,.ak ⟨#[]⟩],.agg [.ak ⟨#[]⟩,.ak ⟨#[]⟩]])),p (.aV (some 4) (.t 11) (.t 46)),m 12 47]
def OH:=[av 49 4 8,f 50 0 0 8,f 51 1 1 50,l 52 51,o 53 (.lenT (.t 52)),o 54 (.bs 3 1 [.t 53,(aW 0),(aW 0)]),o 55 (.call 22 [.t 49,.t 54]),o 56 (.call 18 [.t 55]),m 48 56,o 57 (.ext (.t 48) 0),o 58 (.ext (.t 48) 1),o 13 (.alloc (.agg [.agg [.ak ⟨#[]⟩,.ak ⟨#[]⟩],.agg [.ak ⟨#[]⟩,.ak ⟨#[]⟩]])),p (.aV (some 4) (.t 13) (.t 57)),m 14 58]
def OI:=[av 60 4 8,f 61 0 0 8,f 62 1 1 61,l 63 62,o 64 (.lenT (.t 63)),o 65 (.bs 3 1 [.t 64,(aW 1),(aW 3)]),o 66 (.call 22 [.t 60,.t 65]),o 67 (.call 18 [.t 66]),m 59 67,o 68 (.ext (.t 59) 0),o 69 (.ext (.t 59) 1),o 15 (.alloc (.agg [.agg [.ak ⟨#[]⟩,.ak ⟨#[]⟩],.agg [.ak ⟨#[]⟩,.ak ⟨#[]⟩]])),p (.aV (some 4) (.t 15) (.t 68)),m 16 69]
def OJ:=[av 71 4 8,o 72 (.call 20 [.t 71]),o 73 (.call 24 [.t 72,bl]),o 74 (.call 18 [.t 73]),m 70 74,o 75 (.ext (.t 70) 0),o 76 (.ext (.t 70) 1),o 17 (.alloc (.agg [.agg [.ak ⟨#[]⟩,.ak ⟨#[]⟩],.agg [.ak ⟨#[]⟩,.ak ⟨#[]⟩]])),p (.aV (some 4) (.t 17) (.t 75)),m 18 76]
def OK:=[m 77 4,o 78 (.bin .eql (.t 77) (aW 0)),m 79 78,dH 80 7 79,cw 81 (.bin .eql (.t 80) (aW 0)) 79,and 82 79 81,m 83 82,dH 84 10 83,cw 85 (.bin .eql (.t 84) (aW 0)) 83,and 86 83 85,m 87 86,dH 88 9 87,cw 89 (.len (.t 88)) 87,cw 90 (.bin .eql (.t 89) (aW 1)) 87,and 91 87 90,m 19 91]
def OB:=[m 92 2,o 93 (.lenT (.t 92)),o 94 (.bin .gtr (.t 93) (aW 18)),m 95 94,dH 96 2 95,dH 97 2 95,cw 98 (.lenT (.t 97)) 95,cw 99 (.bin .sub (.t 98) (aW 18)) 95,cw 100 (.prim (.ss true false) [.t 96,.t 99]) 95,cw 101 (.bin .eql (.t 100) (.c (.ak ⟨#[50,32,48,32,53,32,49,48,32,49,50,32,48,32,48,32,97,10]⟩))) 95,and 102 95 101,m 20 102]
def OC:=[m 103 19,m 104 103,dH 105 20 104,and 106 104 105,m 107 106,cw 108 (.ld (some 8) (.t 5)) 107,cw 109 (.ld (some 8) (.t 1)) 107,cw 110 (.eqv (.aV [(.aV [(.i .i64),(.i .i64)]),(.i .i64),(.i .i64),(.i .i64),(.aV [(.i .i64),(.i .i64)]),.s]) false (.t 108) (.t 109)) 107,and 111 107 110,m 112 111,dH 113 6 112,dH 114 3 112,cw 115 (.bin .eql (.t 113) (.t 114)) 112,and 116 112 115,m 117 116,ew 118 0 0 8 117,ew 119 1 1 118 117,hZ 120 119 117,dH 121 2 117,cw 122 (.bin .eql (.t 120) (.t 121)) 117,and 123 117 122,m 124 123,ew 125 1 2 8 124,cw 126 (.ld (some 2) (.t 125)) 124,cw 127 (.bld [.ak ⟨#[]⟩,.ak ⟨#[]⟩] []) 124,cw 128 (.eqv (.aV [.s,.s]) false (.t 126) (.t 127)) 124,and 129 124 128,m 130 129,dH 131 12 130,cw 132 (.len (.t 131)) 130,cw 133 (.bin .eql (.t 132) (aW 0)) 130,and 134 130 133,m 135 134,dH 136 14 135,cw 137 (.len (.t 136)) 135,cw 138 (.bin .eql (.t 137) (aW 1)) 135,and 139 135 138,m 140 139,dH 141 16 140,cw 142 (.len (.t 141)) 140,cw 143 (.bin .eql (.t 142) (aW 0)) 140,and 144 140 143,m 145 144,dH 146 18 145,cw 147 (.len (.t 146)) 145,cw 148 (.bin .eql (.t 147) (aW 1)) 145,and 149 145 148,m 150 149,ew 151 0 0 17 150,ew 152 0 0 151 150,hZ 153 152 150,dH 154 2 150,cw 155 (.bin .eql (.t 153) (.t 154)) 150,and 156 150 155,m 157 156,ew 158 1 2 17 157,ew 159 0 0 158 157,hZ 160 159 157,dH 161 2 157,cw 162 (.bin .eql (.t 160) (.t 161)) 157,and 163 157 162,m 0 163]
def zi:bj:=(s (r Oz) (s (r OA) (s (r OD) (s (r OE) (s (r OF) (s (r OG) (s (r OH) (s (r OI) (s (r OJ) (s (r OK) (s (r OB) (s (r OC) .ret))))))))))))
def Dy:List bB:=[.tmp 0]
theorem Jr:cg Tryz.prog Tryz.f14 zi:=e (by kernel_rfl)
theorem KG:b8 Tryz.prog Tryz.f14 Dy:=e (by kernel_rfl)
theorem Ig:bO Tryz.prog 14:=e (by kernel_rfl)
def OV:=[o 2 (.mv (.c (.nils 8))),o 3 (.mv (.c (.ak ⟨#[]⟩)))]
def OW:=[o 4 (.alloc (.nils 8))]
def OY:=[o 5 (.alloc (.int .i64 0)),o 6 (.alloc (.int .i64 0)),p (.aV none (.t 5) (aW 1)),p (.aV none (.t 6) (aW 0))]
def OZ:=[m 11 0,o 12 (.call 69 [.t 11])]
def O0:=[m 7 13]
def O1:=[l 15 5,m 16 7,o 17 (.call 70 [.t 15,.t 16]),m 14 17,o 18 (.ext (.t 14) 0),o 19 (.ext (.t 14) 1),o 20 (.ext (.t 14) 2),o 8 (.alloc (.agg [.agg [.int .i64 0,.int .i64 0],.int .i64 0,.int .i64 0,.int .i64 0,.agg [.int .i64 0,.int .i64 0],.ak ⟨#[]⟩])),p (.aV (some 8) (.t 8) (.t 18)),m 9 19,m 10 20]
def O2:=[m 21 10,no 22 21,m 23 22,gi 24 4 23,on 25 (.ld (some 8) (.t 8)) 23,on 26 (.call 71 [.t 24,.t 25]) 23,on 27 (.un .not (.t 26)) 23,or 28 23 27]
def O3:=[l 29 4,av 30 8 8,o 31 (.bs 50 8 [.t 30]),o 32 (.dM 50 8 72 (.agg [.agg [.int .i64 0,.int .i64 0],.int .i64 0,.int .i64 0,.int .i64 0,.agg [.int .i64 0,.int .i64 0],.ak ⟨#[]⟩]) (.t 29) (.t 31)),p (.aV none (.t 4) (.t 32))]
def O4:=[m 33 9,p (.aV none (.t 5) (.t 33))]
def O5:=[l 34 6,m 35 7,o 36 (.lenT (.t 35)),o 37 (.bin .add (.t 34) (.t 36)),p (.aV none (.t 6) (.t 37))]
def OX:=[l 38 4,m 39 0,l 40 6,o 41 (.prim (.ss false true) [.t 39,.t 40]),m 2 38,m 3 41]
def LC:=some [[],[],[],[1,2],[0,0],[3,4,0,1,2,3,4]]
def zk:bj:=(s (r OV) (s (r OW) (s (r OY) (s (s (r OZ) (.block 0 (.nB (.t 12) [13] (r O0) (.block 1 (s (r O1) (s (s (r O2) (.cond (.t 28) (.exit 0) .skip)) (s (r O3) (s (r O4) (r O5))))))))) (s (.bY LC OX) .ret)))))
def DA:List bB:=[.tmp 2,.tmp 3]
theorem Jt:cg Tryz.prog Tryz.f15 zk:=e (by kernel_rfl)
theorem KI:b8 Tryz.prog Tryz.f15 DA:=e (by kernel_rfl)
theorem Ij:bO Tryz.prog 15:=e (by kernel_rfl)
def PB:=[o 4 (.mv bl)]
def PC:=[m 7 0,o 8 (.len (.t 7)),m 9 1,o 10 (.len (.t 9)),o 11 (.bin .eql (.t 8) (.t 10)),m 5 11]
def PD:=[bA 6 0]
def PE:=[m 12 6,m 13 0,o 14 (.len (.t 13)),lt 15 12 14,m 16 15,dH 17 5 16,and 18 16 17]
def PF:=[m 21 0,m 22 6,o 23 (.is 8 (.t 21) (.t 22)),av 24 8 23,m 25 1,m 26 6,o 27 (.is 8 (.t 25) (.t 26)),av 28 8 27,o 29 (.eqv (.aV [(.aV [(.i .i64),(.i .i64)]),(.i .i64),(.i .i64),(.i .i64),(.aV [(.i .i64),(.i .i64)]),.s]) false (.t 24) (.t 28)),m 5 29]
def LF:=some [[],[],[0,1],[2],[],[],[4,5],[6],[3,7],[8,0,1,2,3,4,5,6,7,8]]
def PG:=[m 19 6,ad 20 19 1,m 6 20]
def PH:=[m 30 5,m 4 30]
def zp:bj:=(s (r PB) (s (r PC) (s (s (r PD) (.block 0 (.loop (s (s (r PE) (.cond (.t 18) .skip (.exit 0))) (s (.block 1 (.bY LF PF)) (r PG)))))) (s (r PH) .ret))))
def DG:List bB:=[.tmp 4]
theorem Jy:cg Tryz.prog Tryz.f17 zp:=e (by kernel_rfl)
theorem KN:b8 Tryz.prog Tryz.f17 DG:=e (by kernel_rfl)
theorem Ir:bO Tryz.prog 17:=e (by kernel_rfl)
def Qg:=[b 1 0,o 2 (.alloc (.agg [.agg [.ak ⟨#[]⟩,.ak ⟨#[]⟩],.agg [.ak ⟨#[]⟩,.ak ⟨#[]⟩]])),o 3 (.mv (.c (.nils 8)))]
def Qh:=[f 10 0 0 1,av 11 2 10,o 12 (.call 73 [.t 11]),o 13 (.call 15 [.t 12]),m 9 13,o 14 (.ext (.t 9) 0),o 15 (.ext (.t 9) 1),m 4 14,m 5 15]
def Qi:=[f 17 1 2 1,av 18 2 17,o 19 (.call 73 [.t 18]),o 20 (.call 15 [.t 19]),m 16 20,o 21 (.ext (.t 16) 0),o 22 (.ext (.t 16) 1),m 6 21,m 7 22]
def Qj:=[m 23 6,o 24 (.len (.t 23)),m 25 4,o 26 (.len (.t 25)),o 27 (.bin .gtr (.t 24) (.t 26))]
def Qk:=[m 28 6,m 29 7,m 4 28,m 5 29]
def Ql:=[m 30 5,o 31 (.call 74 [.t 30]),o 32 (.bld [.ak ⟨#[]⟩,.ak ⟨#[]⟩] [(0,(.t 31))]),o 8 (.alloc (.agg [.ak ⟨#[]⟩,.ak ⟨#[]⟩])),p (.aV (some 2) (.t 8) (.t 32))]
def Qm:=[av 33 2 8,av 34 2 8,o 35 (.bld [.agg [.ak ⟨#[]⟩,.ak ⟨#[]⟩],.agg [.ak ⟨#[]⟩,.ak ⟨#[]⟩]] [(0,(.t 33)),(1,(.t 34))]),m 36 4,p (.aV (some 4) (.t 2) (.t 35)),m 3 36]
def zr:bj:=(s (r Qg) (s (r Qh) (s (s (r Qi) (s (r Qj) (.cond (.t 27) (r Qk) .skip))) (s (r Ql) (s (r Qm) .ret)))))
def DJ:List bB:=[.cell 2 (some 4),.tmp 3]
theorem JB:cg Tryz.prog Tryz.f18 zr:=e (by kernel_rfl)
theorem KQ:b8 Tryz.prog Tryz.f18 DJ:=e (by kernel_rfl)
theorem It:bO Tryz.prog 18:=e (by kernel_rfl)
def Qn:=[b 1 0,o 2 (.alloc (.agg [.agg [.ak ⟨#[]⟩,.ak ⟨#[]⟩],.agg [.ak ⟨#[]⟩,.ak ⟨#[]⟩]]))]
def Qo:=[f 4 0 0 1,av 5 2 4,o 6 (.call 73 [.t 5]),o 7 (.bld [.ak ⟨#[]⟩,.ak ⟨#[]⟩] [(0,(.t 6))]),o 3 (.alloc (.agg [.ak ⟨#[]⟩,.ak ⟨#[]⟩])),p (.aV (some 2) (.t 3) (.t 7))]
def Qp:=[av 8 2 3,av 9 2 3,o 10 (.bld [.agg [.ak ⟨#[]⟩,.ak ⟨#[]⟩],.agg [.ak ⟨#[]⟩,.ak ⟨#[]⟩]] [(0,(.t 8)),(1,(.t 9))]),p (.aV (some 4) (.t 2) (.t 10))]
def c20:bj:=(s (r Qn) (s (r Qo) (s (r Qp) .ret)))
def DL:List bB:=[.cell 2 (some 4)]
theorem JD:cg Tryz.prog Tryz.f20 c20:=e (by kernel_rfl)
theorem KS:b8 Tryz.prog Tryz.f20 DL:=e (by kernel_rfl)
theorem Iv:bO Tryz.prog 20:=e (by kernel_rfl)
def Qq:=[b 2 0,o 4 (.alloc (.agg [.agg [.ak ⟨#[]⟩,.ak ⟨#[]⟩],.agg [.ak ⟨#[]⟩,.ak ⟨#[]⟩]]))]
def Qr:=[f 5 0 0 2,av 6 2 5,m 7 1,o 8 (.call 75 [.t 6,.t 7,(aW 0)]),f 9 1 2 2,av 10 2 9,m 11 1,o 12 (.call 75 [.t 10,.t 11,(aW 3)]),o 13 (.bld [.agg [.ak ⟨#[]⟩,.ak ⟨#[]⟩],.agg [.ak ⟨#[]⟩,.ak ⟨#[]⟩]] [(0,(.t 8)),(1,(.t 12))]),p (.aV (some 4) (.t 4) (.t 13))]
def LG:=some [[],[0],[],[1,2],[],[4],[],[5,6,3],[3,7],[8,7,0,1,2,3,4,5,6,7,8]]
def zu:bj:=(s (r Qq) (s (.bY LG Qr) .ret))
def DM:List bB:=[.cell 4 (some 4)]
theorem JE:cg Tryz.prog Tryz.f22 zu:=e (by kernel_rfl)
theorem KT:b8 Tryz.prog Tryz.f22 DM:=e (by kernel_rfl)
theorem Iw:bO Tryz.prog 22:=e (by kernel_rfl)
def Qs:=[b 2 0,o 4 (.alloc (.agg [.agg [.ak ⟨#[]⟩,.ak ⟨#[]⟩],.agg [.ak ⟨#[]⟩,.ak ⟨#[]⟩]]))]
def Qt:=[m 5 1]
def Qu:=[o 6 (.bld [.ak ⟨#[]⟩,.ak ⟨#[]⟩] []),f 7 1 2 2,p (.aV (some 2) (.t 7) (.t 6))]
def Qv:=[o 8 (.bld [.ak ⟨#[]⟩,.ak ⟨#[]⟩] []),f 9 0 0 2,p (.aV (some 2) (.t 9) (.t 8))]
def Qw:=[av 10 4 2,p (.aV (some 4) (.t 4) (.t 10))]
def zw:bj:=(s (r Qs) (s (s (r Qt) (.cond (.t 5) (r Qu) (r Qv))) (s (r Qw) .ret)))
def DN:List bB:=[.cell 4 (some 4)]
theorem JF:cg Tryz.prog Tryz.f24 zw:=e (by kernel_rfl)
theorem KU:b8 Tryz.prog Tryz.f24 DN:=e (by kernel_rfl)
theorem Iy:bO Tryz.prog 24:=e (by kernel_rfl)
def Qx:=[o 4 (.mv (.c (.nils 8)))]
def Qy:=[o 5 (.mv (.c (.nils 8)))]
def Qz:=[bA 6 0]
def QA:=[m 7 6,m 8 0,o 9 (.len (.t 8)),lt 10 7 9,m 11 10,dH 12 6 11,dH 13 1 11,cw 14 (.bin .lss (.t 12) (.t 13)) 11,and 15 11 14]
def QB:=[m 18 5,m 19 5,m 20 0,m 21 6,o 22 (.is 5 (.t 20) (.t 21)),av 23 5 22,o 24 (.call 78 [.t 19,.t 23]),o 25 (.bs 50 8 [.t 24]),o 26 (.dM 50 8 72 (.agg [.agg [.int .i64 0,.int .i64 0],.int .i64 0,.int .i64 0,.int .i64 0,.agg [.int .i64 0,.int .i64 0],.ak ⟨#[]⟩]) (.t 18) (.t 25)),m 5 26]
def QC:=[m 16 6,ad 17 16 1,m 6 17]
def QD:=[m 27 5,m 4 27]
def zx:bj:=(s (r Qx) (s (r Qy) (s (s (r Qz) (.block 0 (.loop (s (s (r QA) (.cond (.t 15) .skip (.exit 0))) (s (.block 1 (r QB)) (r QC)))))) (s (r QD) .ret))))
def DO:List bB:=[.tmp 4]
theorem JG:cg Tryz.prog Tryz.f26 zx:=e (by kernel_rfl)
theorem KV:b8 Tryz.prog Tryz.f26 DO:=e (by kernel_rfl)
theorem Iz:bO Tryz.prog 26:=e (by kernel_rfl)
def QE:=[bA 4 0]
def QF:=[m 5 0,m 6 1,o 7 (.bin .rem (.t 5) (.t 6)),m 8 1,o 9 (.bin .add (.t 7) (.t 8)),m 10 1,o 11 (.bin .rem (.t 9) (.t 10)),m 4 11]
def zy:bj:=(s (r QE) (s (r QF) .ret))
def DP:List bB:=[.tmp 4]
theorem JH:cg Tryz.prog Tryz.f28 zy:=e (by kernel_rfl)
theorem KW:b8 Tryz.prog Tryz.f28 DP:=e (by kernel_rfl)
theorem IA:bO Tryz.prog 28:=e (by kernel_rfl)
def QG:=[b 3 1,o 4 (.mv (.c (.ak ⟨#[]⟩))),bA 5 0,bA 6 0]
def QH:=[m 10 0,o 11 (.call 79 [.t 10]),no 12 11,m 9 12]
def QI:=[o 4 (.mv (.c (.ak ⟨#[]⟩))),bA 5 0,bA 6 1]
def QJ:=[av 14 8 3,o 15 (.call 80 [.t 14]),no 16 15,m 13 16]
def QK:=[o 4 (.mv (.c (.ak ⟨#[]⟩))),bA 5 0,bA 6 80]
def QL:=[m 18 0,av 19 8 3,o 20 (.call 81 [.t 18,.t 19]),m 17 20,o 21 (.ext (.t 17) 0),o 22 (.ext (.t 17) 1),m 7 21,m 8 22]
def QM:=[m 23 7,m 24 8,m 4 23,m 5 24,bA 6 0]
def zA:bj:=(s (r QG) (s (.block 0 (s (r QH) (.cond (.t 9) (s (r QI) .ret) (s (r QJ) (.cond (.t 13) (s (r QK) .ret) .skip))))) (s (r QL) (s (r QM) .ret))))
def DQ:List bB:=[.tmp 4,.tmp 5,.tmp 6]
theorem JI:cg Tryz.prog Tryz.f29 zA:=e (by kernel_rfl)
theorem KX:b8 Tryz.prog Tryz.f29 DQ:=e (by kernel_rfl)
theorem IB:bO Tryz.prog 29:=e (by kernel_rfl)
def QN:=[o 4 (.alloc (.agg [.agg [.int .i64 0,.int .i64 0],.int .i64 0,.int .i64 0,.int .i64 0,.agg [.int .i64 0,.int .i64 0],.ak ⟨#[]⟩])),bA 5 0,bA 6 0]
def QO:=[m 10 0,o 11 (.call 79 [.t 10]),no 12 11]
def QP:=[o 13 (.bld [.agg [.int .i64 0,.int .i64 0],.int .i64 0,.int .i64 0,.int .i64 0,.agg [.int .i64 0,.int .i64 0],.ak ⟨#[]⟩] []),p (.aV (some 8) (.t 4) (.t 13)),bA 5 0,bA 6 1]
def QR:=[m 15 0,m 16 1,o 17 (.call 70 [.t 15,.t 16]),m 14 17,o 18 (.ext (.t 14) 0),o 19 (.ext (.t 14) 1),o 20 (.ext (.t 14) 2),o 7 (.alloc (.agg [.agg [.int .i64 0,.int .i64 0],.int .i64 0,.int .i64 0,.int .i64 0,.agg [.int .i64 0,.int .i64 0],.ak ⟨#[]⟩])),p (.aV (some 8) (.t 7) (.t 18)),m 8 19,m 9 20]
def QS:=[m 21 9,no 22 21]
def QT:=[o 23 (.bld [.agg [.int .i64 0,.int .i64 0],.int .i64 0,.int .i64 0,.int .i64 0,.agg [.int .i64 0,.int .i64 0],.ak ⟨#[]⟩] []),p (.aV (some 8) (.t 4) (.t 23)),bA 5 0,bA 6 87]
def QU:=[av 24 8 7,m 25 8,p (.aV (some 8) (.t 4) (.t 24)),m 5 25,bA 6 0]
def zB:bj:=(s (r QN) (s (s (r QO) (.cond (.t 12) (s (r QP) .ret) .skip)) (s (r QR) (s (s (r QS) (.cond (.t 22) (s (r QT) .ret) .skip)) (s (r QU) .ret)))))
def DR:List bB:=[.cell 4 (some 8),.tmp 5,.tmp 6]
theorem JJ:cg Tryz.prog Tryz.f31 zB:=e (by kernel_rfl)
theorem KY:b8 Tryz.prog Tryz.f31 DR:=e (by kernel_rfl)
theorem IC:bO Tryz.prog 31:=e (by kernel_rfl)
def QV:=[b 1 0,bA 2 0]
def QW:=[f 3 0 0 1,av 4 2 3,o 5 (.call 85 [.t 4]),no 6 5,m 7 6,fn 8 1 2 1 7,gi 9 8 7,on 10 (.call 82 [.t 9,(aW 0),(aW 40)]) 7,on 11 (.un .not (.t 10)) 7,or 12 7 11,m 13 12,fn 14 2 3 1 13,gi 15 14 13,on 16 (.call 82 [.t 15,(aW 0),(aW 100000)]) 13,on 17 (.un .not (.t 16)) 13,or 18 13 17,m 19 18,fn 20 3 4 1 19,gi 21 20 19,on 22 (.call 82 [.t 21,(aW 0),(aW 100000)]) 19,on 23 (.un .not (.t 22)) 19,or 24 19 23,m 25 24,fn 26 5 7 1 25,gi 27 26 25,on 28 (.call 86 [.t 27]) 25,on 29 (.un .not (.t 28)) 25,or 30 25 29]
def QX:=[bA 2 80]
def QY:=[f 31 1 2 1,l 32 31,o 33 (.bin .eql (.t 32) (aW 0))]
def QZ:=[f 34 2 3 1,l 35 34,o 36 (.bin .neq (.t 35) (aW 0)),m 37 36,fn 38 5 7 1 37,gi 39 38 37,on 40 (.bin .neq (.t 39) (.c (.ak ⟨#[]⟩))) 37,or 41 37 40,m 42 41,fn 43 4 5 1 42,on 44 (.ld (some 2) (.t 43)) 42,on 45 (.call 85 [.t 44]) 42,on 46 (.un .not (.t 45)) 42,or 47 42 46,m 48 47,fn 49 4 5 1 48,fn 50 0 0 49 48,gi 51 50 48,fn 52 0 0 1 48,fn 53 0 0 52 48,gi 54 53 48,on 55 (.bin .neq (.t 51) (.t 54)) 48,or 56 48 55,m 57 56,fn 58 4 5 1 57,fn 59 1 1 58 57,gi 60 59 57,fn 61 0 0 1 57,fn 62 1 1 61 57,gi 63 62 57,on 64 (.bin .geq (.t 60) (.t 63)) 57,or 65 57 64]
def Q0:=[bA 2 80]
def Q1:=[bA 2 0]
def Q2:=[f 66 4 5 1,av 67 2 66,o 68 (.bld [.int .i64 0,.int .i64 0] []),o 69 (.eqv (.aV [(.i .i64),(.i .i64)]) true (.t 67) (.t 68))]
def Q3:=[bA 2 80]
def Q4:=[bA 2 0]
def zC:bj:=(s (r QV) (s (s (r QW) (.cond (.t 30) (s (r QX) .ret) .skip)) (s (s (r QY) (.cond (.t 33) (s (s (r QZ) (.cond (.t 65) (s (r Q0) .ret) .skip)) (s (r Q1) .ret)) .skip)) (s (s (r Q2) (.cond (.t 69) (s (r Q3) .ret) .skip)) (s (r Q4) .ret)))))
def DS:List bB:=[.tmp 2]
theorem JK:cg Tryz.prog Tryz.f34 zC:=e (by kernel_rfl)
theorem KZ:b8 Tryz.prog Tryz.f34 DS:=e (by kernel_rfl)
theorem ID:bO Tryz.prog 34:=e (by kernel_rfl)
def Q5:=[b 3 0,b 5 2,o 6 (.alloc (.agg [.agg [.ak ⟨#[]⟩,.ak ⟨#[]⟩],.agg [.ak ⟨#[]⟩,.ak ⟨#[]⟩]])),o 7 (.mv (.c (.nils 8))),bA 8 0]
def Q6:=[av 9 4 3,m 10 1,o 11 (.call 87 [.t 9,.t 10]),no 12 11]
def Q7:=[o 13 (.bld [.agg [.ak ⟨#[]⟩,.ak ⟨#[]⟩],.agg [.ak ⟨#[]⟩,.ak ⟨#[]⟩]] []),p (.aV (some 4) (.t 6) (.t 13)),o 7 (.mv (.c (.nils 8))),bA 8 84]
def Q8:=[av 14 4 3,m 15 1,av 16 8 5,o 17 (.call 88 [.t 14,.t 15,.t 16]),o 18 (.ext (.t 17) 0),o 19 (.ext (.t 17) 1),o 20 (.ext (.t 17) 2),p (.aV (some 4) (.t 6) (.t 18)),m 7 19,m 8 20]
def zD:bj:=(s (r Q5) (s (s (r Q6) (.cond (.t 12) (s (r Q7) .ret) .skip)) (s (r Q8) .ret)))
def DT:List bB:=[.cell 6 (some 4),.tmp 7,.tmp 8]
theorem JL:cg Tryz.prog Tryz.f35 zD:=e (by kernel_rfl)
theorem K0:b8 Tryz.prog Tryz.f35 DT:=e (by kernel_rfl)
theorem IE:bO Tryz.prog 35:=e (by kernel_rfl)
def Q9:=[b 2 0,bA 4 0]
def Ra:=[av 5 4 2,m 6 1,o 7 (.call 87 [.t 5,.t 6]),no 8 7]
def Rb:=[bA 4 84]
def Rc:=[bA 4 0]
def c37:bj:=(s (r Q9) (s (s (r Ra) (.cond (.t 8) (s (r Rb) .ret) .skip)) (s (r Rc) .ret)))
def DU:List bB:=[.tmp 4]
theorem JM:cg Tryz.prog Tryz.f37 c37:=e (by kernel_rfl)
theorem K1:b8 Tryz.prog Tryz.f37 DU:=e (by kernel_rfl)
theorem IF:bO Tryz.prog 37:=e (by kernel_rfl)
def Re:=[b 2 0,b 3 1,o 4 (.alloc (.agg [.nils 8])),bA 5 0]
def Rf:=[av 9 1 2,o 10 (.call 92 [.t 9]),no 11 10,m 8 11]
def Rk:=[o 12 (.bld [.nils 8] []),p (.aV (some 1) (.t 4) (.t 12)),bA 5 81]
def Rl:=[av 14 8 3,o 15 (.call 80 [.t 14]),no 16 15,m 13 16]
def Rm:=[o 17 (.bld [.nils 8] []),p (.aV (some 1) (.t 4) (.t 17)),bA 5 80]
def Rn:=[av 19 1 2,f 20 0 0 3,av 21 2 20,o 22 (.call 94 [.t 19,.t 21]),m 18 22,o 23 (.ext (.t 18) 0),o 24 (.ext (.t 18) 1),m 6 23,m 7 24]
def Ro:=[m 26 7,m 27 26,ew 28 0 0 2 27,hZ 29 28 27,dH 30 6 27,cw 31 (.is 8 (.t 29) (.t 30)) 27,cw 32 (.ld (some 8) (.t 31)) 27,cw 33 (.ld (some 8) (.t 3)) 27,cw 34 (.eqv (.aV [(.aV [(.i .i64),(.i .i64)]),(.i .i64),(.i .i64),(.i .i64),(.aV [(.i .i64),(.i .i64)]),.s]) false (.t 32) (.t 33)) 27,and 35 27 34,m 25 35]
def LJ:=some [[],[0],[1],[2,1],[1],[3,4,1],[5,1],[1],[6,7,1],[1,8],[9,1]]
def Rp:=[f 36 0 0 2,l 37 36,o 38 (.call 93 [.t 37]),o 39 (.bld [.nils 8] [(0,(.t 38))]),p (.aV (some 1) (.t 4) (.t 39)),bA 5 0]
def Rq:=[m 41 7,m 40 41]
def Rr:=[o 42 (.bld [.nils 8] []),p (.aV (some 1) (.t 4) (.t 42)),bA 5 82]
def Rg:=[f 44 0 0 2,l 45 44,o 46 (.call 100 [.t 45]),f 47 0 0 3,f 48 0 0 47,l 49 48,o 50 (.ix 6 1 none (.t 46) (.t 49)),f 51 0 0 3,f 52 1 1 51,l 53 52,lt 54 50 53,m 43 54]
def LH:=some [[],[0],[1],[],[3],[4],[2,5],[],[7],[8],[6,9],[10,2]]
def Rh:=[o 55 (.bld [.nils 8] []),p (.aV (some 1) (.t 4) (.t 55)),bA 5 83]
def Ri:=[f 57 0 0 2,l 58 57,o 59 (.len (.t 58)),o 60 (.bin .eql (.t 59) (aW 60)),m 56 60]
def Rj:=[o 61 (.bld [.nils 8] []),p (.aV (some 1) (.t 4) (.t 61)),bA 5 2]
def vu:=[f 62 0 0 2,l 63 62,o 64 (.call 93 [.t 63]),m 65 6,av 66 8 3,o 67 (.bs 50 8 [.t 66]),o 68 (.call 101 [.t 64,.t 65,.t 67]),o 69 (.bld [.nils 8] [(0,(.t 68))]),p (.aV (some 1) (.t 4) (.t 69)),bA 5 0]
def LI:=some [[],[0],[1],[],[],[4],[2,3,5,2],[6],[7,6,0,1,2,3,4,5,6,7],[8,0,1,2,3,4,5,6,7,8]]
def zE:bj:=(s (r Re) (s (.block 0 (s (r Rf) (.cond (.t 8) (s (r Rk) .ret) (s (r Rl) (.cond (.t 13) (s (r Rm) .ret) .skip))))) (s (r Rn) (s (.block 1 (s (.bY LJ Ro) (.cond (.t 25) (s (r Rp) .ret) (s (r Rq) (.cond (.t 40) (s (r Rr) .ret) (s (.bY LH Rg) (.cond (.t 43) (s (r Rh) .ret) (s (r Ri) (.cond (.t 56) (s (r Rj) .ret) .skip))))))))) (s (.bY LI vu) .ret)))))
def DV:List bB:=[.cell 4 (some 1),.tmp 5]
theorem JN:cg Tryz.prog Tryz.f44 zE:=e (by kernel_rfl)
theorem K2:b8 Tryz.prog Tryz.f44 DV:=e (by kernel_rfl)
theorem IG:bO Tryz.prog 44:=e (by kernel_rfl)
def Rs:=[b 1 0,o 2 (.mv (.c (.di)))]
def Rt:=[o 3 (.mk 122 [.t 1]),m 2 3]
def zF:bj:=(s (r Rs) (s (r Rt) .ret))
def DW:List bB:=[.tmp 2]
theorem JO:cg Tryz.prog Tryz.f69 zF:=e (by kernel_rfl)
theorem K3:b8 Tryz.prog Tryz.f69 DW:=e (by kernel_rfl)
theorem IH:bO Tryz.prog 69:=e (by kernel_rfl)
def Bv:=[o 4 (.alloc (.agg [.agg [.int .i64 0,.int .i64 0],.int .i64 0,.int .i64 0,.int .i64 0,.agg [.int .i64 0,.int .i64 0],.ak ⟨#[]⟩])),o 5 (.alloc (.int .i64 0)),o 6 (.alloc (.bool false))]
def Ru:=[m 15 1,o 16 (.call 125 [.t 15,(.c (.ak ⟨#[10]⟩))]),m 14 16,o 17 (.ext (.t 14) 0),o 18 (.ext (.t 14) 1),m 7 17,m 8 18]
def RA:=[m 19 8,no 20 19]
def By:=[o 21 (.bld [] []),o 22 (.prim (.mi 176) [.t 21]),p (.prim .kM [.t 22])]
def RB:=[bA 9 0]
def RC:=[o 10 (.alloc (.agg [.int .i64 0,.int .i64 0,.int .i64 0,.int .i64 0,.int .i64 0,.int .i64 0,.int .i64 0]))]
def Bz:=[m 24 7,o 25 (.call 126 [.t 24]),m 23 25,o 26 (.ext (.t 23) 0),o 27 (.ext (.t 23) 1),m 9 26,m 7 27]
def RD:=[bA 28 0]
def RE:=[o 29 (.bin .lss (.t 28) (aW 7))]
def RF:=[m 30 28,m 11 30]
def Bw:=[m 32 11,m 33 7,o 34 (.call 126 [.t 33]),m 31 34,o 35 (.ext (.t 31) 0),o 36 (.ext (.t 31) 1),o 37 (.ia 7 1 (.t 10) (.t 32)),p (.aV none (.t 37) (.t 35)),m 7 36]
def Rv:=[ad 38 28 1,m 28 38]
def Rw:=[o 39 (.ia 7 1 (.t 10) (aW 0)),l 40 39,o 41 (.ia 7 1 (.t 10) (aW 1)),l 42 41,o 43 (.bld [.int .i64 0,.int .i64 0] [(0,(.t 40)),(1,(.t 42))]),o 44 (.ia 7 1 (.t 10) (aW 2)),l 45 44,o 46 (.ia 7 1 (.t 10) (aW 3)),l 47 46,o 48 (.ia 7 1 (.t 10) (aW 4)),l 49 48,o 50 (.ia 7 1 (.t 10) (aW 5)),l 51 50,o 52 (.ia 7 1 (.t 10) (aW 6)),l 53 52,o 54 (.bld [.int .i64 0,.int .i64 0] [(0,(.t 51)),(1,(.t 53))]),m 55 7,o 56 (.bld [.agg [.int .i64 0,.int .i64 0],.int .i64 0,.int .i64 0,.int .i64 0,.agg [.int .i64 0,.int .i64 0],.ak ⟨#[]⟩] [(0,(.t 43)),(1,(.t 45)),(2,(.t 47)),(3,(.t 49)),(4,(.t 54)),(5,(.t 55))]),p (.aV (some 8) (.t 4) (.t 56))]
def Rx:=[av 57 8 4,o 58 (.call 80 [.t 57]),no 59 58]
def Bx:=[o 60 (.bld [] []),o 61 (.prim (.mi 176) [.t 60]),p (.prim .kM [.t 61])]
def Ry:=[m 63 0,av 64 8 4,o 65 (.call 81 [.t 63,.t 64]),m 62 65,o 66 (.ext (.t 62) 0),o 67 (.ext (.t 62) 1),m 12 66,p (.aV none (.t 5) (.t 67))]
def Rz:=[m 68 12,m 69 1,o 70 (.bin .neq (.t 68) (.t 69)),m 71 70,fH 72 9 71,gi 73 5 71,on 74 (.bin .neq (.t 72) (.t 73)) 71,or 75 71 74]
def vv:=[o 76 (.bld [] []),o 77 (.prim (.mi 176) [.t 76]),p (.prim .kM [.t 77])]
def vx:=[av 78 8 4,l 79 5,p (.aV (some 8) (.t 4) (.t 78)),p (.aV none (.t 5) (.t 79)),p (.aV none (.t 6) T)]
def LK:=some [[],[],[0,0],[1,2,0,1,2],[3,0,1,2,3]] -- DRAW BAD
def tk:List bB:=[.cell 4 (some 8),.cell 5 none,.cell 6 none]
theorem K4:b8 Tryz.prog Tryz.f70 tk:=e (by kernel_rfl)
theorem II:bO Tryz.prog 70:=e (by kernel_rfl)
def RG:=[b 3 1,o 4 (.mv bl)]
def RH:=[m 5 0,o 6 (.len (.t 5)),o 7 (.bin .lss (.t 6) (aW 60)),m 8 7,dH 9 0 8,cw 10 (.call 100 [.t 9]) 8,ew 11 0 0 3 8,ew 12 0 0 11 8,hZ 13 12 8,cw 14 (.ix 6 1 none (.t 10) (.t 13)) 8,ew 15 0 0 3 8,ew 16 1 1 15 8,hZ 17 16 8,cw 18 (.bin .eql (.t 14) (.t 17)) 8,and 19 8 18,m 4 19]
def LL:=some [[],[0],[1],[2],[3],[4,3,3],[3],[6,3],[7,3],[5,8,3],[3],[10,3],[11,3],[9,12,3],[3,13],[14,5,0,1,2,3,4,5,6,7,8,9,10,11,12,13,14]]
def zG:bj:=(s (r RG) (s (.bY LL RH) .ret))
def DX:List bB:=[.tmp 4]
theorem JP:cg Tryz.prog Tryz.f71 zG:=e (by kernel_rfl)
theorem K5:b8 Tryz.prog Tryz.f71 DX:=e (by kernel_rfl)
theorem IJ:bO Tryz.prog 71:=e (by kernel_rfl)
def RI:=[b 1 0,o 2 (.mv (.c (.ak ⟨#[]⟩)))]
def RJ:=[f 3 0 0 1,l 4 3,f 5 1 1 1,l 6 5,o 7 (.bin .add (.t 4) (.t 6)),m 2 7]
def zH:bj:=(s (r RI) (s (r RJ) .ret))
def DY:List bB:=[.tmp 2]
theorem JQ:cg Tryz.prog Tryz.f73 zH:=e (by kernel_rfl)
theorem K6:b8 Tryz.prog Tryz.f73 DY:=e (by kernel_rfl)
theorem IK:bO Tryz.prog 73:=e (by kernel_rfl)
def RL:=[o 2 (.mv (.c (.ak ⟨#[]⟩)))]
def RM:=[m 3 0,o 4 (.call 127 [.t 3]),m 2 4]
def zI:bj:=(s (r RL) (s (r RM) .ret))
def DZ:List bB:=[.tmp 2]
theorem JR:cg Tryz.prog Tryz.f74 zI:=e (by kernel_rfl)
theorem K7:b8 Tryz.prog Tryz.f74 DZ:=e (by kernel_rfl)
theorem IL:bO Tryz.prog 74:=e (by kernel_rfl)
def RN:=[b 3 0,o 6 (.alloc (.agg [.ak ⟨#[]⟩,.ak ⟨#[]⟩]))]
def lC:=[f 9 1 1 3,l 10 9,m 11 1,m 12 2,f 13 1 1 3,l 14 13,o 15 (.lenT (.t 14)),ad 16 15 1,o 17 (.call 121 [.t 11,.t 12,.t 16]),o 18 (.prim (.ss false true) [.t 10,.t 17]),o 19 (.eO (.t 18)),m 7 19]
def LM:=some [[],[0],[],[],[],[4],[5],[6],[2,3,7],[1,8],[9],[10,8,0,1,2,3,4,5,6,7,8,9,10]]
def RO:=[m 20 1,m 21 2,ad 22 21 1,o 23 (.call 121 [.t 20,.t 22,(aW 2)]),o 24 (.bin .eql (.t 23) (aW 1)),m 25 24,dH 26 7 25,cw 27 (.len (.t 26)) 25,cw 28 (.bin .gtr (.t 27) (aW 0)) 25,and 29 25 28]
def RP:=[m 30 7,m 31 1,m 32 2,ad 33 32 2,m 34 7,o 35 (.len (.t 34)),o 36 (.call 121 [.t 31,.t 33,.t 35]),o 37 (.is 1 (.t 30) (.t 36)),p (.aV none (.t 37) (.c (.int .u8 63)))]
def RQ:=[f 38 0 0 3,l 39 38,o 40 (.lenT (.t 39)),m 41 7,o 42 (.len (.t 41)),o 43 (.bin .add (.t 40) (.t 42)),o 44 (.jG 5 1 (.int .u8 0) (.t 43)),m 8 44]
def RS:=[m 45 8,f 46 0 0 3,l 47 46,o 48 (.gx 1 (.t 45) (.t 47))]
def RT:=[m 49 8,f 50 0 0 3,l 51 50,o 52 (.lenT (.t 51)),o 53 (.sl 1 (.t 49) (some (.t 52)) none none),m 54 7,o 55 (.gx 1 (.t 53) (.t 54))]
def RU:=[m 56 8,o 57 (.b2s (.t 56)),o 58 (.bld [.ak ⟨#[]⟩,.ak ⟨#[]⟩] [(0,(.t 57))]),p (.aV (some 2) (.t 6) (.t 58))]
def c75:bj:=(s (r RN) (s (.bY LM lC) (s (s (r RO) (.cond (.t 29) (r RP) .skip)) (s (r RQ) (s (r RS) (s (r RT) (s (r RU) .ret)))))))
def D0:List bB:=[.cell 6 (some 2)]
theorem JS:cg Tryz.prog Tryz.f75 c75:=e (by kernel_rfl)
theorem K8:b8 Tryz.prog Tryz.f75 D0:=e (by kernel_rfl)
theorem IM:bO Tryz.prog 75:=e (by kernel_rfl)
def RV:=[b 3 1,o 4 (.alloc (.agg [.agg [.int .i64 0,.int .i64 0],.int .i64 0,.int .i64 0,.int .i64 0,.agg [.int .i64 0,.int .i64 0],.ak ⟨#[]⟩]))]
def RW:=[o 8 (.ia 5 1 (.t 3) (aW 0)),l 9 8,o 10 (.call 28 [.t 9,(aW 3)]),m 5 10]
def RZ:=[m 11 5,m 12 0,o 13 (.call 102 [.t 12]),m 14 5,o 15 (.ix 6 1 none (.t 13) (.t 14)),o 16 (.bld [.int .i64 0,.int .i64 0] [(0,(.t 11)),(1,(.t 15))]),o 17 (.ia 5 1 (.t 3) (aW 1)),l 18 17,o 19 (.call 28 [.t 18,(aW 6)]),o 20 (.ia 5 1 (.t 3) (aW 2)),l 21 20,o 22 (.call 28 [.t 21,(aW 50)]),o 23 (.ia 5 1 (.t 3) (aW 3)),l 24 23,o 25 (.call 28 [.t 24,(aW 50)]),o 26 (.bld [.agg [.int .i64 0,.int .i64 0],.int .i64 0,.int .i64 0,.int .i64 0,.agg [.int .i64 0,.int .i64 0],.ak ⟨#[]⟩] [(0,(.t 16)),(1,(.t 19)),(2,(.t 22)),(3,(.t 25))]),o 6 (.alloc (.agg [.agg [.int .i64 0,.int .i64 0],.int .i64 0,.int .i64 0,.int .i64 0,.agg [.int .i64 0,.int .i64 0],.ak ⟨#[]⟩])),p (.aV (some 8) (.t 6) (.t 26))]
def LN:=some [[],[],[1],[],[2,3],[0,4],[],[6],[7,2],[],[9],[10,8],[],[12],[13,11],[5,8,11,14],[],[16,15,14,0,1,2,3,4,5,6,7,8,9,10,11,12,13,14,15,16]]
def R0:=[f 27 1 2 6,l 28 27,o 29 (.bin .eql (.t 28) (aW 0)),m 30 29,ew 31 0 0 6 30,ew 32 1 1 31 30,hZ 33 32 30,cw 34 (.bin .gtr (.t 33) (aW 0)) 30,and 35 30 34]
def R1:=[f 36 2 3 6,p (.aV none (.t 36) (aW 0))]
def R2:=[m 37 5,o 38 (.ia 5 1 (.t 3) (aW 2)),l 39 38,f 40 0 0 6,f 41 1 1 40,l 42 41,o 43 (.call 28 [.t 39,.t 42]),o 44 (.bld [.int .i64 0,.int .i64 0] [(0,(.t 37)),(1,(.t 43))]),f 45 4 5 6,p (.aV (some 2) (.t 45) (.t 44))]
def R3:=[av 46 8 6,p (.aV (some 8) (.t 4) (.t 46))]
def R4:=[f 47 1 2 6,l 48 47,o 49 (.bin .eql (.t 48) (aW 0))]
def R5:=[f 50 1 2 6,p (.aV none (.t 50) (aW 7))]
def R6:=[o 51 (.bs 9 1 [(.c (.ak ⟨#[]⟩)),(.c (.ak ⟨#[97]⟩)),(.c (.ak ⟨#[98,101,97,115,116,32,49,55]⟩)),(.c (.ak ⟨#[48,32,48,32,49,32,48,32,48,32,48]⟩)),(.c (.ak ⟨#[32]⟩)),(.c (.ak ⟨#[97,32,116,101,120,116,32,111,102,32,97,32,108,101,110,103,116,104,32,116,104,97,116,32,116,101,97,114,115,32,105,110,32,105,116,115,32,109,105,100,115,116]⟩))]),m 7 51]
def RX:=[m 52 7,o 53 (.ia 5 1 (.t 3) (aW 4)),l 54 53,o 55 (.call 28 [.t 54,(aW 6)]),o 56 (.is 1 (.t 52) (.t 55)),l 57 56,f 58 5 7 6,p (.aV none (.t 58) (.t 57))]
def RY:=[av 59 8 6,p (.aV (some 8) (.t 4) (.t 59))]
def zJ:bj:=(s (r RV) (s (r RW) (s (.bY LN RZ) (s (s (r R0) (.cond (.t 35) (s (r R1) (s (r R2) (s (r R3) .ret))) .skip)) (s (s (r R4) (.cond (.t 49) (r R5) .skip)) (s (r R6) (s (r RX) (s (r RY) .ret))))))))
def D5:List bB:=[.cell 4 (some 8)]
theorem JT:cg Tryz.prog Tryz.f78 zJ:=e (by kernel_rfl)
theorem K9:b8 Tryz.prog Tryz.f78 D5:=e (by kernel_rfl)
theorem IN:bO Tryz.prog 78:=e (by kernel_rfl)
def R7:=[o 2 (.mv bl)]
def R8:=[m 3 0,o 4 (.call 128 [.t 3,(aW 0),(aW 1000002)]),m 2 4]
def zK:bj:=(s (r R7) (s (r R8) .ret))
def D6:List bB:=[.tmp 2]
theorem JU:cg Tryz.prog Tryz.f79 zK:=e (by kernel_rfl)
theorem La:b8 Tryz.prog Tryz.f79 D6:=e (by kernel_rfl)
theorem IP:bO Tryz.prog 79:=e (by kernel_rfl)
def R9:=[b 1 0,o 2 (.mv bl)]
def Sa:=[f 3 0 0 1,av 4 2 3,o 5 (.call 129 [.t 4]),no 6 5,m 7 6,fn 8 1 2 1 7,gi 9 8 7,on 10 (.call 128 [.t 9,(aW 0),(aW 40)]) 7,on 11 (.un .not (.t 10)) 7,or 12 7 11,m 13 12,fn 14 2 3 1 13,gi 15 14 13,on 16 (.call 105 [.t 15]) 13,on 17 (.un .not (.t 16)) 13,or 18 13 17,m 19 18,fn 20 3 4 1 19,gi 21 20 19,on 22 (.call 105 [.t 21]) 19,on 23 (.un .not (.t 22)) 19,or 24 19 23,m 25 24,fn 26 5 7 1 25,gi 27 26 25,on 28 (.call 130 [.t 27]) 25,on 29 (.un .not (.t 28)) 25,or 30 25 29]
def Sb:=[o 2 (.mv bl)]
def Sc:=[f 31 1 2 1,l 32 31,o 33 (.bin .eql (.t 32) (aW 0))]
def Sd:=[f 34 2 3 1,l 35 34,o 36 (.bin .eql (.t 35) (aW 0)),m 37 36,ew 38 5 7 1 37,hZ 39 38 37,cw 40 (.bin .eql (.t 39) (.c (.ak ⟨#[]⟩))) 37,and 41 37 40,m 42 41,ew 43 4 5 1 42,cw 44 (.ld (some 2) (.t 43)) 42,cw 45 (.call 129 [.t 44]) 42,and 46 42 45,m 47 46,ew 48 4 5 1 47,ew 49 0 0 48 47,hZ 50 49 47,ew 51 0 0 1 47,ew 52 0 0 51 47,hZ 53 52 47,cw 54 (.bin .eql (.t 50) (.t 53)) 47,and 55 47 54,m 56 55,ew 57 4 5 1 56,ew 58 1 1 57 56,hZ 59 58 56,ew 60 0 0 1 56,ew 61 1 1 60 56,hZ 62 61 56,cw 63 (.bin .lss (.t 59) (.t 62)) 56,and 64 56 63,m 2 64]
def Se:=[f 65 4 5 1,av 66 2 65,o 67 (.bld [.int .i64 0,.int .i64 0] []),o 68 (.eqv (.aV [(.i .i64),(.i .i64)]) false (.t 66) (.t 67)),m 2 68]
def c80:bj:=(s (r R9) (s (s (r Sa) (.cond (.t 30) (s (r Sb) .ret) .skip)) (s (s (r Sc) (.cond (.t 33) (s (r Sd) .ret) .skip)) (s (r Se) .ret))))
def D8:List bB:=[.tmp 2]
theorem JW:cg Tryz.prog Tryz.f80 c80:=e (by kernel_rfl)
theorem Lc:b8 Tryz.prog Tryz.f80 D8:=e (by kernel_rfl)
theorem IS:bO Tryz.prog 80:=e (by kernel_rfl)
def Sf:=[b 3 1,o 4 (.mv (.c (.ak ⟨#[]⟩))),bA 5 0]
def Sg:=[av 9 8 3,o 10 (.call 131 [.t 9]),m 6 10]
def Sh:=[m 11 6,o 12 (.eO (.t 11)),o 13 (.len (.t 12)),bA 14 0]
def Si:=[lt 15 14 13]
def Sj:=[o 16 (.is 1 (.t 12) (.t 14)),l 17 16,m 8 17]
def Sk:=[m 18 0,o 19 (.bin .mul (aW 257) (.t 18)),m 20 8,o 21 (.conv .i64 (.t 20)),o 22 (.bin .add (.t 19) (.t 21)),ad 23 22 1,o 24 (.bin .rem (.t 23) (aW 1000003)),m 0 24]
def Sl:=[ad 25 14 1,m 14 25]
def Sm:=[m 26 0,o 27 (.call 132 [.t 26]),o 28 (.bin .add (.t 27) (.c (.ak ⟨#[32]⟩))),m 29 6,o 30 (.bin .add (.t 28) (.t 29)),o 31 (.bin .add (.t 30) (.c (.ak ⟨#[10]⟩))),m 32 0,m 4 31,m 5 32]
def zM:bj:=(s (r Sf) (s (r Sg) (s (s (r Sh) (.block 0 (.loop (s (r Si) (s (.cond (.t 15) .skip (.exit 0)) (s (.block 1 (s (r Sj) (r Sk))) (r Sl))))))) (s (r Sm) .ret))))
def D9:List bB:=[.tmp 4,.tmp 5]
theorem JX:cg Tryz.prog Tryz.f81 zM:=e (by kernel_rfl)
theorem Ld:b8 Tryz.prog Tryz.f81 D9:=e (by kernel_rfl)
theorem IT:bO Tryz.prog 81:=e (by kernel_rfl)
def Sn:=[o 6 (.mv bl)]
def Sp:=[m 7 0,m 8 1,o 9 (.bin .geq (.t 7) (.t 8)),m 10 9,dH 11 0 10,dH 12 2 10,cw 13 (.bin .leq (.t 11) (.t 12)) 10,and 14 10 13,m 6 14]
def zN:bj:=(s (r Sn) (s (r Sp) .ret))
def Ea:List bB:=[.tmp 6]
theorem JY:cg Tryz.prog Tryz.f82 zN:=e (by kernel_rfl)
theorem Le:b8 Tryz.prog Tryz.f82 Ea:=e (by kernel_rfl)
theorem IU:bO Tryz.prog 82:=e (by kernel_rfl)
def Sq:=[b 3 1,o 4 (.mv (.c (.ak ⟨#[]⟩))),bA 5 0]
def Sr:=[av 8 8 3,o 9 (.call 133 [.t 8]),m 6 9]
def St:=[bA 7 0]
def Su:=[m 10 7,m 11 6,o 12 (.lenT (.t 11)),lt 13 10 12]
def Sv:=[m 16 0,o 17 (.bin .mul (aW 257) (.t 16)),m 18 6,m 19 7,o 20 (.prim .ea [.t 18,.t 19]),o 21 (.conv .i64 (.t 20)),o 22 (.bin .add (.t 17) (.t 21)),ad 23 22 1,o 24 (.bin .rem (.t 23) (aW 1000003)),m 0 24]
def Sw:=[m 14 7,ad 15 14 1,m 7 15]
def Sx:=[m 25 0,o 26 (.call 134 [.t 25]),o 27 (.bin .add (.t 26) (.c (.ak ⟨#[32]⟩))),m 28 6,o 29 (.bin .add (.t 27) (.t 28)),o 30 (.bin .add (.t 29) (.c (.ak ⟨#[10]⟩))),m 31 0,m 4 30,m 5 31]
def zO:bj:=(s (r Sq) (s (r Sr) (s (s (r St) (.block 0 (.loop (s (s (r Su) (.cond (.t 13) .skip (.exit 0))) (s (.block 1 (r Sv)) (r Sw)))))) (s (r Sx) .ret))))
def Eb:List bB:=[.tmp 4,.tmp 5]
theorem JZ:cg Tryz.prog Tryz.f83 zO:=e (by kernel_rfl)
theorem Lf:b8 Tryz.prog Tryz.f83 Eb:=e (by kernel_rfl)
theorem IV:bO Tryz.prog 83:=e (by kernel_rfl)
def Sy:=[b 1 0,o 2 (.mv bl)]
def Sz:=[f 3 0 0 1,l 4 3,o 5 (.call 82 [.t 4,(aW 0),(aW 5)]),m 6 5,ew 7 1 1 1 6,hZ 8 7 6,cw 9 (.call 82 [.t 8,(aW 0),(aW 9999)]) 6,and 10 6 9,m 2 10]
def c85:bj:=(s (r Sy) (s (r Sz) .ret))
def Ec:List bB:=[.tmp 2]
theorem J0:cg Tryz.prog Tryz.f85 c85:=e (by kernel_rfl)
theorem Lg:b8 Tryz.prog Tryz.f85 Ec:=e (by kernel_rfl)
theorem IW:bO Tryz.prog 85:=e (by kernel_rfl)
def SA:=[o 2 (.mv bl)]
def SB:=[m 4 0,o 5 (.lenT (.t 4)),o 6 (.bin .gtr (.t 5) (aW 160))]
def SC:=[o 2 (.mv bl)]
def SD:=[bA 3 0]
def SE:=[m 7 3,m 8 0,o 9 (.lenT (.t 8)),lt 10 7 9]
def SF:=[m 13 0,m 14 3,o 15 (.prim .ea [.t 13,.t 14]),o 16 (.bin .lss (.t 15) (.c (.int .u8 32))),m 17 16,fH 18 0 17,fH 19 3 17,on 20 (.prim .ea [.t 18,.t 19]) 17,on 21 (.bin .gtr (.t 20) (.c (.int .u8 126))) 17,or 22 17 21,m 23 22,fH 24 0 23,fH 25 3 23,on 26 (.prim .ea [.t 24,.t 25]) 23,on 27 (.bin .eql (.t 26) (.c (.int .u8 63))) 23,or 28 23 27]
def SG:=[o 2 (.mv bl)]
def SH:=[m 11 3,ad 12 11 1,m 3 12]
def SI:=[o 2 (.mv T)]
def zP:bj:=(s (r SA) (s (s (r SB) (.cond (.t 6) (s (r SC) .ret) .skip)) (s (s (r SD) (.block 0 (.loop (s (s (r SE) (.cond (.t 10) .skip (.exit 0))) (s (.block 1 (s (r SF) (.cond (.t 28) (s (r SG) .ret) .skip))) (r SH)))))) (s (r SI) .ret))))
def Ed:List bB:=[.tmp 2]
theorem J1:cg Tryz.prog Tryz.f86 zP:=e (by kernel_rfl)
theorem Lh:b8 Tryz.prog Tryz.f86 Ed:=e (by kernel_rfl)
theorem IX:bO Tryz.prog 86:=e (by kernel_rfl)
def SJ:=[b 2 0,o 4 (.mv bl)]
def SK:=[m 6 1,o 7 (.call 98 [.t 6]),no 8 7,m 9 8,fn 10 0 0 2 9,on 11 (.ld (some 2) (.t 10)) 9,on 12 (.call 73 [.t 11]) 9,fH 13 1 9,on 14 (.call 135 [.t 13]) 9,on 15 (.bin .neq (.t 12) (.t 14)) 9,or 16 9 15]
def SL:=[o 4 (.mv bl)]
def SM:=[m 17 1,o 18 (.len (.t 17)),ad 19 18 1,bA 20 0]
def SN:=[lt 21 20 19]
def SO:=[m 22 20,m 5 22]
def SP:=[f 23 1 2 2,av 24 2 23,o 25 (.call 73 [.t 24]),m 26 1,m 27 5,o 28 (.sl 8 (.t 26) none (some (.t 27)) none),o 29 (.call 135 [.t 28]),o 30 (.bin .eql (.t 25) (.t 29))]
def LO:=some [[],[0],[1],[],[],[3,4],[5,2],[2,6]]
def SQ:=[o 4 (.mv T)]
def SR:=[ad 31 20 1,m 20 31]
def SS:=[o 4 (.mv bl)]
def zQ:bj:=(s (r SJ) (s (s (r SK) (.cond (.t 16) (s (r SL) .ret) .skip)) (s (s (r SM) (.block 0 (.loop (s (r SN) (s (.cond (.t 21) .skip (.exit 0)) (s (.block 1 (s (r SO) (s (.bY LO SP) (.cond (.t 30) (s (r SQ) .ret) .skip)))) (r SR))))))) (s (r SS) .ret))))
def Ee:List bB:=[.tmp 4]
theorem J2:cg Tryz.prog Tryz.f87 zQ:=e (by kernel_rfl)
theorem Li:b8 Tryz.prog Tryz.f87 Ee:=e (by kernel_rfl)
theorem IY:bO Tryz.prog 87:=e (by kernel_rfl)
def SU:=[b 3 0,b 5 2,o 6 (.alloc (.agg [.agg [.ak ⟨#[]⟩,.ak ⟨#[]⟩],.agg [.ak ⟨#[]⟩,.ak ⟨#[]⟩]])),o 7 (.mv (.c (.nils 8))),bA 8 0]
def SV:=[m 13 1,av 14 8 5,o 15 (.call 136 [.t 13,.t 14])]
def vy:=[av 16 4 3,m 17 1,o 18 (.call 93 [.t 17]),p (.aV (some 4) (.t 6) (.t 16)),m 7 18,bA 8 0]
def LP:=some [[],[],[1],[0,2,0],[2,3,0,1,2,3],[4,0,1,2,3,4]]
def SX:=[m 20 1,o 21 (.call 95 [.t 20]),av 22 8 5,o 23 (.call 44 [.t 21,.t 22]),m 19 23,o 24 (.ext (.t 19) 0),o 25 (.ext (.t 19) 1),o 9 (.alloc (.agg [.nils 8])),p (.aV (some 1) (.t 9) (.t 24)),m 10 25]
def LQ:=some [[],[0],[],[1,2,1],[3],[4],[4],[],[7,5,3,0,1,2,3,4,5,7],[6,8,0,1,2,3,4,5,6,7,8]]
def SY:=[m 26 10,o 27 (.bin .neq (.t 26) (aW 0))]
def SZ:=[o 28 (.bld [.agg [.ak ⟨#[]⟩,.ak ⟨#[]⟩],.agg [.ak ⟨#[]⟩,.ak ⟨#[]⟩]] []),m 29 10,p (.aV (some 4) (.t 6) (.t 28)),o 7 (.mv (.c (.nils 8))),m 8 29]
def S0:=[m 31 1,o 32 (.call 137 [.t 31]),av 33 8 5,o 34 (.call 81 [.t 32,.t 33]),m 30 34,o 35 (.ext (.t 30) 0),o 36 (.ext (.t 30) 1),m 11 35,m 12 36]
def LR:=some [[],[0],[],[1,2,1],[3],[4],[4],[5,3,0,1,2,3,4,5],[6,7,0,1,2,3,4,5,6,7]]
def S1:=[f 37 0 0 3,f 38 1 1 37,l 39 38,m 40 11,o 41 (.bin .add (.t 39) (.t 40)),f 42 0 0 3,f 43 1 1 42,p (.aV none (.t 43) (.t 41))]
def vz:=[av 44 4 3,m 45 1,o 46 (.call 93 [.t 45]),av 47 8 5,o 48 (.bs 50 8 [.t 47]),o 49 (.dM 50 8 72 (.agg [.agg [.int .i64 0,.int .i64 0],.int .i64 0,.int .i64 0,.int .i64 0,.agg [.int .i64 0,.int .i64 0],.ak ⟨#[]⟩]) (.t 46) (.t 48)),p (.aV (some 4) (.t 6) (.t 44)),m 7 49,bA 8 0]
def LS:=some [[],[],[1],[],[3],[2,4,2],[0,5,0],[5,6,0,1,2,3,4,5,6],[7,0,1,2,3,4,5,6,7]] -- DRAW BAD
def zR:bj:=(s (r SU) (s (s (r SV) (.cond (.t 15) (s (.bY LP vy) .ret) .skip)) (s (s (.bY LQ SX) (s (r SY) (.cond (.t 27) (s (r SZ) .ret) .skip))) (s (.bY LR S0) (s (r S1) (s (.bY LS vz) .ret))))))
def Ef:List bB:=[.cell 6 (some 4),.tmp 7,.tmp 8]
theorem J3:cg Tryz.prog Tryz.f88 zR:=e (by kernel_rfl)
theorem Lj:b8 Tryz.prog Tryz.f88 Ef:=e (by kernel_rfl)
theorem IZ:bO Tryz.prog 88:=e (by kernel_rfl)
def TI:=[o 2 (.mv (.c (.ak ⟨#[]⟩)))]
def TJ:=[o 3 (.mv (.c (.ak ⟨#[]⟩)))]
def TK:=[bA 4 1]
def TL:=[bA 5 0]
def TM:=[m 8 5,m 9 0,o 10 (.len (.t 9)),lt 11 8 10]
def TN:=[m 15 4,m 16 0,m 17 5,o 18 (.is 8 (.t 16) (.t 17)),av 19 8 18,o 20 (.call 83 [.t 15,.t 19]),m 14 20,o 21 (.ext (.t 14) 0),o 22 (.ext (.t 14) 1),m 6 21,m 7 22]
def TO:=[m 23 3,m 24 6,o 25 (.bin .add (.t 23) (.t 24)),m 3 25]
def TP:=[m 26 7,m 4 26]
def TQ:=[m 12 5,ad 13 12 1,m 5 13]
def TR:=[m 27 3,m 2 27]
def zS:bj:=(s (r TI) (s (r TJ) (s (r TK) (s (s (r TL) (.block 0 (.loop (s (s (r TM) (.cond (.t 11) .skip (.exit 0))) (s (.block 1 (s (r TN) (s (r TO) (r TP)))) (r TQ)))))) (s (r TR) .ret)))))
def Eg:List bB:=[.tmp 2]
theorem J4:cg Tryz.prog Tryz.f90 zS:=e (by kernel_rfl)
theorem Lk:b8 Tryz.prog Tryz.f90 Eg:=e (by kernel_rfl)
theorem I0:bO Tryz.prog 90:=e (by kernel_rfl)
def TS:=[b 1 0,o 2 (.mv bl)]
def TT:=[f 6 0 0 1,l 7 6,o 8 (.len (.t 7)),bA 9 0]
def TX:=[lt 10 9 8]
def TY:=[m 11 9,o 12 (.is 8 (.t 7) (.t 9)),av 13 8 12,o 4 (.alloc (.agg [.agg [.int .i64 0,.int .i64 0],.int .i64 0,.int .i64 0,.int .i64 0,.agg [.int .i64 0,.int .i64 0],.ak ⟨#[]⟩])),m 3 11,p (.aV (some 8) (.t 4) (.t 13))]
def TZ:=[av 14 8 4,o 15 (.call 80 [.t 14]),no 16 15]
def T0:=[o 2 (.mv bl)]
def T6:=[o 17 (.bld [.int .i64 0,.int .i64 0] [(0,(.c (.int .i64 (-1))))]),o 5 (.alloc (.agg [.int .i64 0,.int .i64 0])),p (.aV (some 2) (.t 5) (.t 17))]
def T7:=[m 18 3,o 19 (.bin .gtr (.t 18) (aW 0))]
def T8:=[f 20 0 0 1,l 21 20,m 22 3,o 23 (.bin .sub (.t 22) (aW 1)),o 24 (.is 8 (.t 21) (.t 23)),f 25 0 0 24,av 26 2 25,p (.aV (some 2) (.t 5) (.t 26))]
def T9:=[f 27 0 0 4,av 28 2 27,f 29 0 0 5,l 30 29,f 31 1 1 5,l 32 31,ad 33 32 1,o 34 (.bld [.int .i64 0,.int .i64 0] [(0,(.t 30)),(1,(.t 33))]),o 35 (.eqv (.aV [(.i .i64),(.i .i64)]) true (.t 28) (.t 34)),m 36 35,ew 37 0 0 4 36,ew 38 0 0 37 36,hZ 39 38 36,ew 40 0 0 5 36,hZ 41 40 36,cw 42 (.bin .leq (.t 39) (.t 41)) 36,dH 43 42 36,fn 44 0 0 4 43,fn 45 1 1 44 43,gi 46 45 43,on 47 (.bin .neq (.t 46) (aW 0)) 43,cw 48 (.pick (.t 43) T (.t 47)) 36,and 49 36 48]
def TU:=[o 2 (.mv bl)]
def TV:=[ad 50 9 1,m 9 50]
def TW:=[f 51 0 0 1,l 52 51,o 53 (.len (.t 52)),o 54 (.bin .leq (.t 53) (aW 60)),m 2 54]
def zT:bj:=(s (r TS) (s (s (r TT) (.block 0 (.loop (s (r TX) (s (.cond (.t 10) .skip (.exit 0)) (s (.block 1 (s (r TY) (s (s (r TZ) (.cond (.t 16) (s (r T0) .ret) .skip)) (s (r T6) (s (s (r T7) (.cond (.t 19) (r T8) .skip)) (s (r T9) (.cond (.t 49) (s (r TU) .ret) .skip))))))) (r TV))))))) (s (r TW) .ret)))
def Ei:List bB:=[.tmp 2]
theorem J5:cg Tryz.prog Tryz.f92 zT:=e (by kernel_rfl)
theorem Ll:b8 Tryz.prog Tryz.f92 Ei:=e (by kernel_rfl)
theorem I1:bO Tryz.prog 92:=e (by kernel_rfl)
def vB:=[o 2 (.mv (.c (.nils 8)))]
def qd:=[m 3 0,o 4 (.nilS false (.t 3))]
def vC:=[o 2 (.mv (.c (.nils 8)))]
def qe:=[o 5 (.bs0 8),m 6 0,o 7 (.dM 50 8 72 (.agg [.agg [.int .i64 0,.int .i64 0],.int .i64 0,.int .i64 0,.int .i64 0,.agg [.int .i64 0,.int .i64 0],.ak ⟨#[]⟩]) (.t 5) (.t 6)),m 2 7]
def uL:bj:=(s (r vB) (s (s (r qd) (.cond (.t 4) (s (r vC) .ret) .skip)) (s (r qe) .ret)))
def wQ:List bB:=[.tmp 2]
theorem Af:cg Tryz.prog Tryz.f93 uL:=e (by kernel_rfl)
theorem Aq:b8 Tryz.prog Tryz.f93 wQ:=e (by kernel_rfl)
theorem z8:bO Tryz.prog 93:=e (by kernel_rfl)
def Ua:=[b 2 0,b 3 1,bA 4 0,o 5 (.mv bl)]
def Ub:=[f 6 0 0 2,l 7 6,av 8 2 3,o 9 (.call 138 [.t 7,.t 8,(.c (.func 139 []))]),o 10 (.ext (.t 9) 0),o 11 (.ext (.t 9) 1),m 4 10,m 5 11]
def zU:bj:=(s (r Ua) (s (r Ub) .ret))
def Ej:List bB:=[.tmp 4,.tmp 5]
theorem J6:cg Tryz.prog Tryz.f94 zU:=e (by kernel_rfl)
theorem Lm:b8 Tryz.prog Tryz.f94 Ej:=e (by kernel_rfl)
theorem I2:bO Tryz.prog 94:=e (by kernel_rfl)
def Uc:=[o 2 (.alloc (.agg [.nils 8]))]
def Ud:=[m 4 0,o 5 (.call 93 [.t 4]),m 3 5]
def BA:=[m 6 3,o 7 (.call 141 [.t 6,(.c (.func 142 []))])]
def Ue:=[m 8 3,o 9 (.bld [.nils 8] [(0,(.t 8))]),p (.aV (some 1) (.t 2) (.t 9))]
def uM:bj:=(s (r Uc) (s (r Ud) (s (r BA) (s (r Ue) .ret))))
def wR:List bB:=[.cell 2 (some 1)]
theorem Ag:cg Tryz.prog Tryz.f95 uM:=e (by kernel_rfl)
theorem Ar:b8 Tryz.prog Tryz.f95 wR:=e (by kernel_rfl)
theorem Aa:bO Tryz.prog 95:=e (by kernel_rfl)
def Uf:=[o 2 (.mv bl)]
def Ug:=[m 5 0,o 6 (.len (.t 5)),bA 7 0]
def Uh:=[lt 8 7 6]
def Ui:=[m 9 7,o 10 (.is 8 (.t 5) (.t 7)),av 11 8 10,o 4 (.alloc (.agg [.agg [.int .i64 0,.int .i64 0],.int .i64 0,.int .i64 0,.int .i64 0,.agg [.int .i64 0,.int .i64 0],.ak ⟨#[]⟩])),m 3 9,p (.aV (some 8) (.t 4) (.t 11))]
def Uj:=[av 12 8 4,o 13 (.call 80 [.t 12]),no 14 13,m 15 14,fH 16 0 15,fH 17 3 15,on 18 (.sl 8 (.t 16) none (some (.t 17)) none) 15,on 19 (.ld (some 8) (.t 4)) 15,on 20 (.call 71 [.t 18,.t 19]) 15,on 21 (.un .not (.t 20)) 15,or 22 15 21]
def LW:=some [[],[0],[1],[2,1],[3],[3],[4,5,3],[3],[6,7,3,3],[8,3],[3,9]]
def Uk:=[o 2 (.mv bl)]
def Ul:=[ad 23 7 1,m 7 23]
def Um:=[o 2 (.mv T)]
def zV:bj:=(s (r Uf) (s (s (r Ug) (.block 0 (.loop (s (r Uh) (s (.cond (.t 8) .skip (.exit 0)) (s (.block 1 (s (r Ui) (s (.bY LW Uj) (.cond (.t 22) (s (r Uk) .ret) .skip)))) (r Ul))))))) (s (r Um) .ret)))
def Ek:List bB:=[.tmp 2]
theorem J7:cg Tryz.prog Tryz.f98 zV:=e (by kernel_rfl)
theorem Ln:b8 Tryz.prog Tryz.f98 Ek:=e (by kernel_rfl)
theorem I3:bO Tryz.prog 98:=e (by kernel_rfl)
def M5:=[o 2 (.alloc (.agg [.int .i64 0,.int .i64 0,.int .i64 0,.int .i64 0,.int .i64 0,.int .i64 0]))]
def M6:=[o 3 (.alloc (.agg [.int .i64 0,.int .i64 0,.int .i64 0,.int .i64 0,.int .i64 0,.int .i64 0]))]
def M7:=[m 6 0,o 7 (.len (.t 6)),bA 8 0]
def M8:=[lt 9 8 7]
def M9:=[o 10 (.is 8 (.t 6) (.t 8)),av 11 8 10,o 5 (.alloc (.agg [.agg [.int .i64 0,.int .i64 0],.int .i64 0,.int .i64 0,.int .i64 0,.agg [.int .i64 0,.int .i64 0],.ak ⟨#[]⟩])),p (.aV (some 8) (.t 5) (.t 11))]
def Na:=[f 12 0 0 5,f 13 0 0 12,l 14 13,o 15 (.ia 6 1 (.t 3) (.t 14)),l 16 15,ad 17 16 1,o 18 (.ia 6 1 (.t 3) (.t 14)),p (.aV none (.t 18) (.t 17))]
def Nb:=[ad 19 8 1,m 8 19]
def Nc:=[av 20 6 3,p (.aV (some 6) (.t 2) (.t 20))]
def yY:bj:=(s (r M5) (s (r M6) (s (s (r M7) (.block 0 (.loop (s (r M8) (s (.cond (.t 9) .skip (.exit 0)) (s (.block 1 (s (r M9) (r Na))) (r Nb))))))) (s (r Nc) .ret))))
def Dg:List bB:=[.cell 2 (some 6)]
theorem Jd:cg Tryz.prog Tryz.f100 yY:=e (by kernel_rfl)
theorem Kq:b8 Tryz.prog Tryz.f100 Dg:=e (by kernel_rfl)
theorem HV:bO Tryz.prog 100:=e (by kernel_rfl)
def r5:=[o 6 (.mv (.c (.nils 8)))]
def r6:=[m 10 0,m 11 1,o 12 (.sl 8 (.t 10) (some (.t 11)) none none)]
def r7:=[m 13 2,o 14 (.len (.t 13)),m 7 14]
def r8:=[m 15 7,o 16 (.bin .eql (.t 15) (aW 0))]
def Nh:=[m 17 0,m 6 17]
def r9:=[m 18 0,o 19 (.len (.t 18)),m 8 19]
def sa:=[m 20 1,m 21 8,o 22 (.bin .eql (.t 20) (.t 21))]
def qc:=[m 23 0,m 24 2,o 25 (.dM 50 8 72 (.agg [.agg [.int .i64 0,.int .i64 0],.int .i64 0,.int .i64 0,.int .i64 0,.agg [.int .i64 0,.int .i64 0],.ak ⟨#[]⟩]) (.t 23) (.t 24)),m 6 25]
def Bt:=[m 26 8,m 27 7,o 28 (.bin .add (.t 26) (.t 27)),m 29 0,o 30 (.cap (.t 29)),o 31 (.bin .gtr (.t 28) (.t 30))]
def Bu:=[m 32 0,m 33 1,o 34 (.sl 8 (.t 32) none (some (.t 33)) none),m 35 8,m 36 7,o 37 (.bin .add (.t 35) (.t 36)),m 38 1,o 39 (.bin .sub (.t 37) (.t 38)),o 40 (.jM 50 8 72 (.agg [.agg [.int .i64 0,.int .i64 0],.int .i64 0,.int .i64 0,.int .i64 0,.agg [.int .i64 0,.int .i64 0],.ak ⟨#[]⟩]) (.t 34) (.t 39)),m 9 40]
def Bk:=[m 41 9,m 42 1,o 43 (.sl 8 (.t 41) (some (.t 42)) none none),m 44 2,o 45 (.gx 8 (.t 43) (.t 44))]
def Bl:=[m 46 9,m 47 1,m 48 7,o 49 (.bin .add (.t 47) (.t 48)),o 50 (.sl 8 (.t 46) (some (.t 49)) none none),m 51 0,m 52 1,o 53 (.sl 8 (.t 51) (some (.t 52)) none none),o 54 (.gx 8 (.t 50) (.t 53))]
def Lu:=some [[],[],[],[1,2],[0,3],[],[],[5,6],[4,7]]
def Bm:=[m 55 9,m 6 55]
def Bn:=[m 56 0,m 57 8,m 58 7,o 59 (.bin .add (.t 57) (.t 58)),o 60 (.sl 8 (.t 56) none (some (.t 59)) none),m 0 60]
def Bo:=[m 61 2,m 62 0,m 63 1,m 64 7,o 65 (.bin .add (.t 63) (.t 64)),o 66 (.sl 8 (.t 62) (some (.t 65)) none none),o 67 (.gW 143 [.t 61,.t 66]),no 68 67]
def Bp:=[m 69 0,m 70 1,m 71 7,o 72 (.bin .add (.t 70) (.t 71)),o 73 (.sl 8 (.t 69) (some (.t 72)) none none),m 74 0,m 75 1,o 76 (.sl 8 (.t 74) (some (.t 75)) none none),o 77 (.gx 8 (.t 73) (.t 76))]
def Lv:=some [[],[],[],[1,2],[0,3],[],[],[5,6],[4,7]]
def Bq:=[m 78 0,m 79 1,o 80 (.sl 8 (.t 78) (some (.t 79)) none none),m 81 2,o 82 (.gx 8 (.t 80) (.t 81))]
def Br:=[m 83 0,m 6 83]
def Nd:=[m 84 0,m 85 8,o 86 (.sl 8 (.t 84) (some (.t 85)) none none),m 87 2,o 88 (.gx 8 (.t 86) (.t 87))]
def Nf:=[m 89 0,m 90 1,o 91 (.sl 8 (.t 89) (some (.t 90)) none none),m 92 7,o 93 (.call 144 [.t 91,.t 92])]
def Ng:=[m 94 0,m 6 94]
def rM:bj:=(s (r r5) (s (r r6) (s (r r7) (s (s (r r8) (.cond (.t 16) (s (r Nh) .ret) .skip)) (s (r r9) (s (s (r sa) (.cond (.t 22) (s (r qc) .ret) .skip)) (s (s (r Bt) (.cond (.t 31) (s (r Bu) (s (r Bk) (s (.bY Lu Bl) (s (r Bm) .ret)))) .skip)) (s (r Bn) (s (s (r Bo) (.cond (.t 68) (s (.bY Lv Bp) (s (r Bq) (s (r Br) .ret))) .skip)) (s (r Nd) (s (r Nf) (s (r Ng) .ret))))))))))))
def th:List bB:=[.tmp 6]
theorem uP:cg Tryz.prog Tryz.f101 rM:=e (by kernel_rfl)
theorem uW:b8 Tryz.prog Tryz.f101 th:=e (by kernel_rfl)
theorem uN:bO Tryz.prog 101:=e (by kernel_rfl)
def Ni:=[o 2 (.alloc (.agg [.int .i64 0,.int .i64 0,.int .i64 0,.int .i64 0,.int .i64 0,.int .i64 0]))]
def Nj:=[o 3 (.alloc (.agg [.int .i64 0,.int .i64 0,.int .i64 0,.int .i64 0,.int .i64 0,.int .i64 0]))]
def Nk:=[bA 4 0]
def Nl:=[m 5 4,m 6 0,o 7 (.len (.t 6)),lt 8 5 7]
def Nn:=[m 11 0,m 12 4,o 13 (.is 8 (.t 11) (.t 12)),f 14 0 0 13,f 15 0 0 14,l 16 15,o 17 (.ia 6 1 (.t 3) (.t 16)),l 18 17,ad 19 18 1,o 20 (.ia 6 1 (.t 3) (.t 16)),p (.aV none (.t 20) (.t 19))]
def Np:=[m 9 4,ad 10 9 1,m 4 10]
def Nq:=[av 21 6 3,p (.aV (some 6) (.t 2) (.t 21))]
def yZ:bj:=(s (r Ni) (s (r Nj) (s (s (r Nk) (.block 0 (.loop (s (s (r Nl) (.cond (.t 8) .skip (.exit 0))) (s (.block 1 (r Nn)) (r Np)))))) (s (r Nq) .ret))))
def Di:List bB:=[.cell 2 (some 6)]
theorem Je:cg Tryz.prog Tryz.f102 yZ:=e (by kernel_rfl)
theorem Kr:b8 Tryz.prog Tryz.f102 Di:=e (by kernel_rfl)
theorem HW:bO Tryz.prog 102:=e (by kernel_rfl)
def Nr:=[o 2 (.mv bl)]
def Nt:=[m 3 0,o 4 (.call 128 [.t 3,(aW 0),(aW 100000)]),m 2 4]
def y5:bj:=(s (r Nr) (s (r Nt) .ret))
def Dj:List bB:=[.tmp 2]
theorem Jf:cg Tryz.prog Tryz.f105 y5:=e (by kernel_rfl)
theorem Ks:b8 Tryz.prog Tryz.f105 Dj:=e (by kernel_rfl)
theorem HX:bO Tryz.prog 105:=e (by kernel_rfl)
def Nu:=[bA 6 0]
def Nv:=[m 7 0,o 8 (.len (.t 7)),o 9 (.bin .eql (.t 8) (aW 0))]
def Nw:=[bA 6 0]
def Nx:=[m 10 0,m 11 1,m 12 0,o 13 (.len (.t 12)),o 14 (.bin .rem (.t 11) (.t 13)),o 15 (.is 1 (.t 10) (.t 14)),l 16 15,m 17 2,o 18 (.bin .rem (.t 16) (.t 17)),m 19 2,o 20 (.bin .add (.t 18) (.t 19)),m 21 2,o 22 (.bin .rem (.t 20) (.t 21)),m 6 22]
def y7:bj:=(s (r Nu) (s (s (r Nv) (.cond (.t 9) (s (r Nw) .ret) .skip)) (s (r Nx) .ret)))
def Dk:List bB:=[.tmp 6]
theorem Jg:cg Tryz.prog Tryz.f121 y7:=e (by kernel_rfl)
theorem Kt:b8 Tryz.prog Tryz.f121 Dk:=e (by kernel_rfl)
theorem HY:bO Tryz.prog 121:=e (by kernel_rfl)
def Ny:=[l 4 1,o 5 (.bin .neq (.t 4) (.c (.ak ⟨#[]⟩)))]
def Nz:=[l 6 1,o 7 (.call 123 [.t 6,(.c (.int .u8 10))]),m 3 7]
def NA:=[m 8 3,o 9 (.bin .lss (.t 8) (aW 0)),m 10 9,fH 11 0 10,gi 12 1 10,fH 13 3 10,on 14 (.bin .add (.t 13) (aW 1)) 10,on 15 (.prim (.ss false true) [.t 12,.t 14]) 10,on 16 (.fq (.t 11) [.t 15]) 10,on 17 (.un .not (.t 16)) 10,or 18 10 17]
def NB:=[l 19 1,m 20 3,ad 21 20 1,o 22 (.prim (.ss true false) [.t 19,.t 21]),p (.aV none (.t 1) (.t 22))]
def y8:bj:=(.block 0 (.loop (s (s (r Ny) (.cond (.t 5) .skip (.exit 0))) (.block 1 (s (r Nz) (s (s (r NA) (.cond (.t 18) .ret .skip)) (r NB)))))))
def Dl:List bB:=[]
theorem Jh:cg Tryz.prog Tryz.f122 y8:=e (by kernel_rfl)
theorem Ku:b8 Tryz.prog Tryz.f122 Dl:=e (by kernel_rfl)
theorem zY:bO Tryz.prog 122:=e (by kernel_rfl)
theorem HZ:bO Tryz.prog 123:=e (by kernel_rfl)
theorem zZ:bO Tryz.prog 124:=e (by kernel_rfl)
theorem H0:bO Tryz.prog 125:=e (by kernel_rfl)
def NC:=[bA 2 0,o 3 (.mv (.c (.ak ⟨#[]⟩)))]
def ND:=[m 10 0,o 11 (.call 154 [.t 10,(.c (.ak ⟨#[32]⟩))]),m 9 11,o 12 (.ext (.t 9) 0),o 13 (.ext (.t 9) 1),o 14 (.ext (.t 9) 2),m 4 12,m 5 13,m 6 14]
def NF:=[m 16 4,o 17 (.call 155 [.t 16]),m 15 17,o 18 (.ext (.t 15) 0),o 19 (.ext (.t 15) 1),m 7 18,m 8 19]
def NG:=[m 20 6,no 21 20,m 22 21,fH 23 8 22,on 24 (.prim (.nf true) [.t 23]) 22,or 25 22 24]
def sc:=[o 26 (.bld [] []),o 27 (.prim (.mi 176) [.t 26]),p (.prim .kM [.t 27])]
def NH:=[m 28 7,m 29 5,m 2 28,m 3 29]
def uK:bj:=(s (r NC) (s (r ND) (s (r NF) (s (s (r NG) (.cond (.t 25) (r sc) .skip)) (s (r NH) .ret)))))
def Dm:List bB:=[.tmp 2,.tmp 3]
theorem Ae:cg Tryz.prog Tryz.f126 uK:=e (by kernel_rfl)
theorem Kv:b8 Tryz.prog Tryz.f126 Dm:=e (by kernel_rfl)
theorem z6:bO Tryz.prog 126:=e (by kernel_rfl)
theorem H2:bO Tryz.prog 127:=e (by kernel_rfl)
def NI:=[o 6 (.mv bl)]
def NJ:=[m 7 1,m 8 0,o 9 (.bin .leq (.t 7) (.t 8)),m 10 9,dH 11 0 10,dH 12 2 10,cw 13 (.bin .leq (.t 11) (.t 12)) 10,and 14 10 13,m 6 14]
def y9:bj:=(s (r NI) (s (r NJ) .ret))
def Dn:List bB:=[.tmp 6]
theorem Ji:cg Tryz.prog Tryz.f128 y9:=e (by kernel_rfl)
theorem Kx:b8 Tryz.prog Tryz.f128 Dn:=e (by kernel_rfl)
theorem H3:bO Tryz.prog 128:=e (by kernel_rfl)
def NK:=[b 1 0,o 2 (.mv bl)]
def NL:=[f 3 0 0 1,l 4 3,o 5 (.call 128 [.t 4,(aW 0),(aW 5)]),m 6 5,ew 7 1 1 1 6,hZ 8 7 6,cw 9 (.call 128 [.t 8,(aW 0),(aW 9999)]) 6,and 10 6 9,m 2 10]
def za:bj:=(s (r NK) (s (r NL) .ret))
def Dp:List bB:=[.tmp 2]
theorem Jj:cg Tryz.prog Tryz.f129 za:=e (by kernel_rfl)
theorem Ky:b8 Tryz.prog Tryz.f129 Dp:=e (by kernel_rfl)
theorem H4:bO Tryz.prog 129:=e (by kernel_rfl)
def NM:=[o 2 (.mv bl)]
def NN:=[m 5 0,o 6 (.lenT (.t 5)),o 7 (.bin .gtr (.t 6) (aW 160))]
def NO:=[o 2 (.mv bl)]
def NP:=[m 8 0,o 9 (.eO (.t 8)),o 10 (.len (.t 9)),bA 11 0]
def NQ:=[lt 12 11 10]
def NR:=[o 13 (.is 1 (.t 9) (.t 11)),l 14 13,m 4 14]
def NS:=[m 15 4,o 16 (.bin .lss (.t 15) (.c (.int .u8 32))),m 17 16,fH 18 4 17,on 19 (.bin .gtr (.t 18) (.c (.int .u8 126))) 17,or 20 17 19,m 21 20,fH 22 4 21,on 23 (.bin .eql (.t 22) (.c (.int .u8 63))) 21,or 24 21 23]
def NT:=[o 2 (.mv bl)]
def NU:=[ad 25 11 1,m 11 25]
def NV:=[o 2 (.mv T)]
def zb:bj:=(s (r NM) (s (s (r NN) (.cond (.t 7) (s (r NO) .ret) .skip)) (s (s (r NP) (.block 0 (.loop (s (r NQ) (s (.cond (.t 12) .skip (.exit 0)) (s (.block 1 (s (r NR) (s (r NS) (.cond (.t 24) (s (r NT) .ret) .skip)))) (r NU))))))) (s (r NV) .ret))))
def Dq:List bB:=[.tmp 2]
theorem Jk:cg Tryz.prog Tryz.f130 zb:=e (by kernel_rfl)
theorem Kz:b8 Tryz.prog Tryz.f130 Dq:=e (by kernel_rfl)
theorem H5:bO Tryz.prog 130:=e (by kernel_rfl)
theorem H6:bO Tryz.prog 131:=e (by kernel_rfl)
theorem H7:bO Tryz.prog 132:=e (by kernel_rfl)
def NW:=[b 1 0,o 2 (.mv (.c (.ak ⟨#[]⟩)))]
def NX:=[f 4 0 0 1,f 5 0 0 4,l 6 5,o 7 (.call 134 [.t 6]),o 8 (.bin .add (.t 7) (.c (.ak ⟨#[32]⟩))),f 9 0 0 1,f 10 1 1 9,l 11 10,o 12 (.call 134 [.t 11]),o 13 (.bin .add (.t 8) (.t 12)),o 14 (.bin .add (.t 13) (.c (.ak ⟨#[32]⟩))),f 15 1 2 1,l 16 15,o 17 (.call 134 [.t 16]),o 18 (.bin .add (.t 14) (.t 17)),o 19 (.bin .add (.t 18) (.c (.ak ⟨#[32]⟩))),f 20 2 3 1,l 21 20,o 22 (.call 134 [.t 21]),o 23 (.bin .add (.t 19) (.t 22)),o 24 (.bin .add (.t 23) (.c (.ak ⟨#[32]⟩))),f 25 3 4 1,l 26 25,o 27 (.call 134 [.t 26]),o 28 (.bin .add (.t 24) (.t 27)),o 29 (.bin .add (.t 28) (.c (.ak ⟨#[32]⟩))),m 3 29]
def Lw:=some [[],[0],[1],[2],[3],[],[5],[6],[7,3],[4,8],[9],[],[11],[12,8],[10,13],[14],[],[16],[17,13],[15,18],[19],[],[21],[22,18],[20,23],[24],[25,23,0,1,2,3,4,5,6,7,8,9,10,11,12,13,14,15,16,17,18,19,20,21,22,23,24,25]]
def NY:=[m 30 3,f 31 4 5 1,f 32 0 0 31,l 33 32,o 34 (.call 134 [.t 33]),o 35 (.bin .add (.t 30) (.t 34)),o 36 (.bin .add (.t 35) (.c (.ak ⟨#[32]⟩))),f 37 4 5 1,f 38 1 1 37,l 39 38,o 40 (.call 134 [.t 39]),o 41 (.bin .add (.t 36) (.t 40)),o 42 (.bin .add (.t 41) (.c (.ak ⟨#[32]⟩))),f 43 5 7 1,l 44 43,o 45 (.bin .add (.t 42) (.t 44)),m 2 45]
def Lx:=some [[],[],[1],[2],[3],[0,4],[5],[],[7],[8],[9,4],[6,10],[11],[],[13],[12,14],[15,10,0,1,2,3,4,5,6,7,8,9,10,11,12,13,14,15]]
def zc:bj:=(s (r NW) (s (.bY Lw NX) (s (.bY Lx NY) .ret)))
def Dr:List bB:=[.tmp 2]
theorem Jl:cg Tryz.prog Tryz.f133 zc:=e (by kernel_rfl)
theorem KA:b8 Tryz.prog Tryz.f133 Dr:=e (by kernel_rfl)
theorem H8:bO Tryz.prog 133:=e (by kernel_rfl)
def NZ:=[o 2 (.mv (.c (.ak ⟨#[]⟩)))]
def N0:=[m 4 0,o 5 (.bin .rem (.t 4) (aW 10)),o 6 (.bin .add (aW 48) (.t 5)),o 7 (.conv .u8 (.t 6)),o 8 (.bs 5 1 [.t 7]),o 9 (.b2s (.t 8)),m 3 9]
def N4:=[m 10 0,o 11 (.bin .geq (.t 10) (aW 10))]
def N5:=[m 12 0,o 13 (.bin .quo (.t 12) (aW 10)),m 0 13]
def N6:=[m 14 0,o 15 (.bin .rem (.t 14) (aW 10)),o 16 (.bin .add (aW 48) (.t 15)),o 17 (.conv .u8 (.t 16)),o 18 (.bs 5 1 [.t 17]),o 19 (.b2s (.t 18)),m 20 3,o 21 (.bin .add (.t 19) (.t 20)),m 3 21]
def N7:=[m 22 3,m 2 22]
def zd:bj:=(s (r NZ) (s (r N0) (s (.block 0 (.loop (s (s (r N4) (.cond (.t 11) .skip (.exit 0))) (.block 1 (s (r N5) (r N6)))))) (s (r N7) .ret))))
def Ds:List bB:=[.tmp 2]
theorem Jm:cg Tryz.prog Tryz.f134 zd:=e (by kernel_rfl)
theorem KB:b8 Tryz.prog Tryz.f134 Ds:=e (by kernel_rfl)
theorem H9:bO Tryz.prog 134:=e (by kernel_rfl)
theorem Ia:bO Tryz.prog 135:=e (by kernel_rfl)
def N8:=[b 3 1,o 4 (.mv bl)]
def N9:=[m 5 0,av 6 8 3,o 7 (.call 159 [.t 5,.t 6]),o 8 (.bin .geq (.t 7) (aW 0)),m 4 8]
def ze:bj:=(s (r N8) (s (r N9) .ret))
def Dt:List bB:=[.tmp 4]
theorem Jn:cg Tryz.prog Tryz.f136 ze:=e (by kernel_rfl)
theorem KC:b8 Tryz.prog Tryz.f136 Dt:=e (by kernel_rfl)
theorem Ib:bO Tryz.prog 136:=e (by kernel_rfl)
def Oa:=[bA 2 0]
def Ob:=[bA 3 1]
def Oc:=[m 6 0,o 7 (.len (.t 6)),bA 8 0]
def Od:=[lt 9 8 7]
def Oe:=[o 10 (.is 8 (.t 6) (.t 8)),av 11 8 10,o 5 (.alloc (.agg [.agg [.int .i64 0,.int .i64 0],.int .i64 0,.int .i64 0,.int .i64 0,.agg [.int .i64 0,.int .i64 0],.ak ⟨#[]⟩])),p (.aV (some 8) (.t 5) (.t 11))]
def Of:=[m 13 3,av 14 8 5,o 15 (.call 81 [.t 13,.t 14]),m 12 15,o 16 (.ext (.t 12) 0),o 17 (.ext (.t 12) 1),m 3 17]
def Og:=[ad 18 8 1,m 8 18]
def Oh:=[m 19 3,m 2 19]
def zf:bj:=(s (r Oa) (s (r Ob) (s (s (r Oc) (.block 0 (.loop (s (r Od) (s (.cond (.t 9) .skip (.exit 0)) (s (.block 1 (s (r Oe) (r Of))) (r Og))))))) (s (r Oh) .ret))))
def Du:List bB:=[.tmp 2]
theorem Jo:cg Tryz.prog Tryz.f137 zf:=e (by kernel_rfl)
theorem KD:b8 Tryz.prog Tryz.f137 Du:=e (by kernel_rfl)
theorem Ic:bO Tryz.prog 137:=e (by kernel_rfl)
def Oi:=[b 4 1,bA 6 0,o 7 (.mv bl)]
def Oj:=[m 12 0,o 13 (.len (.t 12)),m 8 13]
def Ol:=[m 14 8,bA 9 0,m 10 14]
def Om:=[m 15 9,m 16 10,lt 17 15 16]
def On:=[m 18 9,m 19 10,o 20 (.bin .add (.t 18) (.t 19)),o 21 (.conv .u64 (.t 20)),o 22 (.bin .shr (.t 21) (.c (.int .u64 1))),o 23 (.conv .i64 (.t 22)),m 11 23]
def Oo:=[m 24 2,m 25 0,m 26 11,o 27 (.is 8 (.t 25) (.t 26)),av 28 8 27,av 29 2 4,o 30 (.fq (.t 24) [.t 28,.t 29]),o 31 (.bin .lss (.t 30) (aW 0))]
def Ly:=some [[],[],[],[1,2],[3],[],[0,4,5],[6]]
def Oq:=[m 32 11,ad 33 32 1,m 9 33]
def Ot:=[m 34 11,m 10 34]
def Ou:=[m 35 9,m 36 9,m 37 8,lt 38 36 37,m 39 38,dH 40 2 39,dH 41 0 39,dH 42 9 39,cw 43 (.is 8 (.t 41) (.t 42)) 39,cw 44 (.ld (some 8) (.t 43)) 39,cw 45 (.ld (some 2) (.t 4)) 39,cw 46 (.fq (.t 40) [.t 44,.t 45]) 39,cw 47 (.bin .eql (.t 46) (aW 0)) 39,and 48 39 47,m 6 35,m 7 48]
def Lz:=some [[],[],[],[1,2],[3],[4],[4],[4],[6,7,4],[8,4],[4],[5,9,10,4,4],[11,4],[4,12],[0,11,0],[13,14,0,1,2,3,4,5,6,7,8,9,10,11,12,13,14]]
def zg:bj:=(s (r Oi) (s (r Oj) (s (r Ol) (s (.block 0 (.loop (s (s (r Om) (.cond (.t 17) .skip (.exit 0))) (.block 1 (s (r On) (s (.bY Ly Oo) (.cond (.t 31) (r Oq) (r Ot)))))))) (s (.bY Lz Ou) .ret)))))
def Dv:List bB:=[.tmp 6,.tmp 7]
theorem Jp:cg Tryz.prog Tryz.f138 zg:=e (by kernel_rfl)
theorem KE:b8 Tryz.prog Tryz.f138 Dv:=e (by kernel_rfl)
theorem Ie:bO Tryz.prog 138:=e (by kernel_rfl)
def Ov:=[b 2 0,b 3 1,bA 4 0]
def Ow:=[f 5 0 0 2,av 6 2 5,av 7 2 3,o 8 (.call 140 [.t 6,.t 7]),m 4 8]
def zh:bj:=(s (r Ov) (s (r Ow) .ret))
def Dw:List bB:=[.tmp 4]
theorem Jq:cg Tryz.prog Tryz.f139 zh:=e (by kernel_rfl)
theorem KF:b8 Tryz.prog Tryz.f139 Dw:=e (by kernel_rfl)
theorem If:bO Tryz.prog 139:=e (by kernel_rfl)
def Ox:=[b 2 0,b 3 1,bA 4 0]
def Oy:=[f 5 0 0 2,l 6 5,f 7 0 0 3,l 8 7,o 9 (.call 161 [.t 6,.t 8]),f 10 1 1 2,l 11 10,f 12 1 1 3,l 13 12,o 14 (.call 161 [.t 11,.t 13]),o 15 (.bs 3 1 [.t 9,.t 14]),o 16 (.call 160 [.t 15]),m 4 16]
def LA:=some [[],[0],[],[2],[1,3],[],[5],[],[7],[6,8,4],[4,9],[10,9],[11,11,0,1,2,3,4,5,6,7,8,9,10,11]]
def zj:bj:=(s (r Ox) (s (.bY LA Oy) .ret))
def Dz:List bB:=[.tmp 4]
theorem Js:cg Tryz.prog Tryz.f140 zj:=e (by kernel_rfl)
theorem KH:b8 Tryz.prog Tryz.f140 Dz:=e (by kernel_rfl)
theorem Ih:bO Tryz.prog 140:=e (by kernel_rfl)
theorem Ii:bO Tryz.prog 141:=e (by kernel_rfl)
theorem Ik:bO Tryz.prog 152:=e (by kernel_rfl)
def OL:=[o 4 (.mv (.c (.ak ⟨#[]⟩))),o 5 (.mv (.c (.ak ⟨#[]⟩))),o 6 (.mv bl)]
def OM:=[m 7 0,m 8 1,o 9 (.call 170 [.t 7,.t 8]),o 10 (.ext (.t 9) 0),o 11 (.ext (.t 9) 1),o 12 (.ext (.t 9) 2),m 4 10,m 5 11,m 6 12]
def zl:bj:=(s (r OL) (s (r OM) .ret))
def DB:List bB:=[.tmp 4,.tmp 5,.tmp 6]
theorem Ju:cg Tryz.prog Tryz.f154 zl:=e (by kernel_rfl)
theorem KJ:b8 Tryz.prog Tryz.f154 DB:=e (by kernel_rfl)
theorem Il:bO Tryz.prog 154:=e (by kernel_rfl)
theorem Im:bO Tryz.prog 155:=e (by kernel_rfl)
def ON:=[b 3 1,bA 4 0]
def OO:=[m 6 0,o 7 (.len (.t 6)),bA 8 0]
def OP:=[lt 9 8 7]
def OQ:=[m 10 8,m 5 10]
def OR:=[av 11 8 3,m 12 0,m 13 5,o 14 (.is 8 (.t 12) (.t 13)),av 15 8 14,o 16 (.eqv (.aV [(.aV [(.i .i64),(.i .i64)]),(.i .i64),(.i .i64),(.i .i64),(.aV [(.i .i64),(.i .i64)]),.s]) false (.t 11) (.t 15))]
def LB:=some [[],[],[],[1,2],[3],[0,4]]
def OS:=[m 17 5,m 4 17]
def OT:=[ad 18 8 1,m 8 18]
def OU:=[bA 4 (-1)]
def zm:bj:=(s (r ON) (s (s (r OO) (.block 0 (.loop (s (r OP) (s (.cond (.t 9) .skip (.exit 0)) (s (.block 1 (s (r OQ) (s (.bY LB OR) (.cond (.t 16) (s (r OS) .ret) .skip)))) (r OT))))))) (s (r OU) .ret)))
def DC:List bB:=[.tmp 4]
theorem Jv:cg Tryz.prog Tryz.f159 zm:=e (by kernel_rfl)
theorem KK:b8 Tryz.prog Tryz.f159 DC:=e (by kernel_rfl)
theorem Io:bO Tryz.prog 159:=e (by kernel_rfl)
def O6:=[bA 2 0]
def O7:=[bA 3 0]
def O8:=[m 6 0,o 7 (.len (.t 6)),bA 8 0]
def O9:=[lt 9 8 7]
def Pa:=[o 10 (.is 1 (.t 6) (.t 8)),l 11 10,m 5 11]
def Pb:=[m 12 5,m 13 3,o 14 (.bin .neq (.t 12) (.t 13))]
def Pc:=[m 15 5,m 2 15]
def Pd:=[ad 16 8 1,m 8 16]
def Pe:=[m 17 3,m 2 17]
def zn:bj:=(s (r O6) (s (r O7) (s (s (r O8) (.block 0 (.loop (s (r O9) (s (.cond (.t 9) .skip (.exit 0)) (s (.block 1 (s (r Pa) (s (r Pb) (.cond (.t 14) (s (r Pc) .ret) .skip)))) (r Pd))))))) (s (r Pe) .ret))))
def DE:List bB:=[.tmp 2]
theorem Jw:cg Tryz.prog Tryz.f160 zn:=e (by kernel_rfl)
theorem KL:b8 Tryz.prog Tryz.f160 DE:=e (by kernel_rfl)
theorem Ip:bO Tryz.prog 160:=e (by kernel_rfl)
def Pf:=[bA 4 0]
def Pg:=[m 7 0,o 8 (.call 175 [.t 7]),m 5 8]
def Pm:=[m 9 1,o 10 (.call 175 [.t 9]),m 6 10]
def Pn:=[m 11 5]
def Po:=[m 12 6]
def Pp:=[bA 4 0]
def Pq:=[bA 4 (-1)]
def Pr:=[m 13 6]
def Ps:=[bA 4 1]
def Pt:=[m 14 0,m 15 1,lt 16 14 15]
def Ph:=[bA 4 (-1)]
def Pj:=[m 17 0,m 18 1,o 19 (.bin .gtr (.t 17) (.t 18))]
def Pk:=[bA 4 1]
def Pl:=[bA 4 0]
def zo:bj:=(s (r Pf) (s (r Pg) (s (r Pm) (s (s (r Pn) (.cond (.t 11) (s (s (r Po) (.cond (.t 12) (s (r Pp) .ret) .skip)) (s (r Pq) .ret)) .skip)) (s (s (r Pr) (.cond (.t 13) (s (r Ps) .ret) .skip)) (s (s (r Pt) (.cond (.t 16) (s (r Ph) .ret) .skip)) (s (s (r Pj) (.cond (.t 19) (s (r Pk) .ret) .skip)) (s (r Pl) .ret))))))))
def DF:List bB:=[.tmp 4]
theorem Jx:cg Tryz.prog Tryz.f161 zo:=e (by kernel_rfl)
theorem KM:b8 Tryz.prog Tryz.f161 DF:=e (by kernel_rfl)
theorem Iq:bO Tryz.prog 161:=e (by kernel_rfl)
def Pu:=[o 4 (.mv (.c (.ak ⟨#[]⟩))),o 5 (.mv (.c (.ak ⟨#[]⟩))),o 6 (.mv bl)]
def Pv:=[m 8 0,m 9 1,o 10 (.call 188 [.t 8,.t 9]),m 7 10]
def Pw:=[m 11 7,o 12 (.bin .geq (.t 11) (aW 0))]
def Px:=[m 13 0,m 14 7,o 15 (.prim (.ss false true) [.t 13,.t 14]),m 16 0,m 17 7,m 18 1,o 19 (.lenT (.t 18)),o 20 (.bin .add (.t 17) (.t 19)),o 21 (.prim (.ss true false) [.t 16,.t 20]),m 4 15,m 5 21,o 6 (.mv T)]
def LD:=some [[],[],[0,1],[],[],[],[5],[4,6],[3,7],[2,0,1,2],[8,9,0,1,2,3,4,5,6,7,8,9],[10,0,1,2,3,4,5,6,7,8,9,10]]
def Py:=[m 22 0,m 4 22,o 5 (.mv (.c (.ak ⟨#[]⟩))),o 6 (.mv bl)]
def zq:bj:=(s (r Pu) (s (s (r Pv) (s (r Pw) (.cond (.t 12) (s (.bY LD Px) .ret) .skip))) (s (r Py) .ret)))
def DH:List bB:=[.tmp 4,.tmp 5,.tmp 6]
theorem Jz:cg Tryz.prog Tryz.f170 zq:=e (by kernel_rfl)
theorem KO:b8 Tryz.prog Tryz.f170 DH:=e (by kernel_rfl)
theorem z7:bO Tryz.prog 170:=e (by kernel_rfl)
def Pz:=[o 2 (.mv bl)]
def PA:=[m 3 0,m 4 0,o 5 (.bin .neq (.t 3) (.t 4)),m 2 5]
def c175:bj:=(s (r Pz) (s (r PA) .ret))
def DI:List bB:=[.tmp 2]
theorem JA:cg Tryz.prog Tryz.f175 c175:=e (by kernel_rfl)
theorem KP:b8 Tryz.prog Tryz.f175 DI:=e (by kernel_rfl)
theorem Is:bO Tryz.prog 175:=e (by kernel_rfl)
def PI:=[bA 4 0]
def PJ:=[m 14 1,o 15 (.lenT (.t 14)),m 5 15]
def PV:=[m 17 5,o 18 (.bin .eql (.t 17) (aW 0)),m 19 18,fH 20 1 19,fH 21 0 19,on 22 (.bin .eql (.t 20) (.t 21)) 19,or 23 19 22,m 16 23]
def P6:=[bA 4 0]
def Qa:=[m 25 5,o 26 (.bin .eql (.t 25) (aW 1)),m 24 26]
def Qb:=[m 27 0,m 28 1,o 29 (.prim .ea [.t 28,(aW 0)]),o 30 (.call 152 [.t 27,.t 29]),m 4 30]
def Qc:=[m 32 5,m 33 0,o 34 (.lenT (.t 33)),o 35 (.bin .geq (.t 32) (.t 34)),m 31 35]
def Qd:=[bA 4 (-1)]
def Qe:=[m 45 0,m 46 1,o 47 (.gW 204 [.t 45,.t 46]),m 4 47]
def Qf:=[m 48 1,o 49 (.prim .ea [.t 48,(aW 0)]),m 6 49]
def PK:=[m 50 1,o 51 (.prim .ea [.t 50,(aW 1)]),m 7 51]
def PL:=[bA 8 0]
def PM:=[m 52 0,o 53 (.lenT (.t 52)),m 54 5,o 55 (.bin .sub (.t 53) (.t 54)),ad 56 55 1,m 9 56]
def PN:=[bA 10 0]
def PO:=[m 57 8,m 58 9,lt 59 57 58]
def PQ:=[m 60 0,m 61 8,o 62 (.prim .ea [.t 60,.t 61]),m 63 6,o 64 (.bin .neq (.t 62) (.t 63))]
def PR:=[m 65 0,m 66 8,ad 67 66 1,m 68 9,o 69 (.prim (.ss true true) [.t 65,.t 67,.t 68]),m 70 6,o 71 (.call 152 [.t 69,.t 70]),m 11 71]
def PS:=[m 72 11,o 73 (.bin .lss (.t 72) (aW 0))]
def PT:=[bA 4 (-1)]
def PU:=[m 74 8,m 75 11,ad 76 75 1,o 77 (.bin .add (.t 74) (.t 76)),m 8 77]
def PW:=[m 78 0,m 79 8,ad 80 79 1,o 81 (.prim .ea [.t 78,.t 80]),m 82 7,o 83 (.bin .eql (.t 81) (.t 82)),m 84 83,dH 85 0 84,dH 86 8 84,dH 87 8 84,dH 88 5 84,cw 89 (.bin .add (.t 87) (.t 88)) 84,cw 90 (.prim (.ss true true) [.t 85,.t 86,.t 89]) 84,dH 91 1 84,cw 92 (.bin .eql (.t 90) (.t 91)) 84,and 93 84 92]
def PX:=[m 94 8,m 4 94]
def PY:=[m 95 8,ad 96 95 1,m 8 96]
def PZ:=[m 97 10,ad 98 97 1,m 10 98]
def P0:=[m 108 0,m 109 8,o 110 (.prim (.ss true false) [.t 108,.t 109]),m 111 1,o 112 (.gW 204 [.t 110,.t 111]),m 12 112]
def P1:=[m 113 12,o 114 (.bin .geq (.t 113) (aW 0))]
def P2:=[m 115 12,m 116 8,o 117 (.bin .add (.t 115) (.t 116)),m 4 117]
def P3:=[bA 4 (-1)]
def P4:=[m 133 0,m 134 8,o 135 (.prim (.ss true false) [.t 133,.t 134]),m 136 1,o 137 (.call 206 [.t 135,.t 136]),m 13 137]
def P5:=[m 138 13,o 139 (.bin .lss (.t 138) (aW 0))]
def P7:=[bA 4 (-1)]
def P8:=[m 140 8,m 141 13,o 142 (.bin .add (.t 140) (.t 141)),m 4 142]
def P9:=[bA 4 (-1)]
def zt:bj:=(s (r PI) (s (r PJ) (s (.block 0 (s (r PV) (.cond (.t 16) (s (r P6) .ret) (s (r Qa) (.cond (.t 24) (s (r Qb) .ret) (s (r Qc) (.cond (.t 31) (s (r Qd) .ret) (s .pQ (.cond (.t 36) (s (r Qe) .ret) .skip))))))))) (s (r Qf) (s (r PK) (s (r PL) (s (r PM) (s (r PN) (s (.block 1 (.loop (s (s (r PO) (.cond (.t 59) .skip (.exit 1))) (.block 2 (s (s (r PQ) (.cond (.t 64) (s (r PR) (s (s (r PS) (.cond (.t 73) (s (r PT) .ret) .skip)) (r PU))) .skip)) (s (s (r PW) (.cond (.t 93) (s (r PX) .ret) .skip)) (s (r PY) (s (r PZ) (s .pQ (.cond (.t 107) (s (r P0) (s (s (r P1) (.cond (.t 114) (s (r P2) .ret) .skip)) (s (r P3) .ret))) (s .pQ (.cond (.t 132) (s (r P4) (s (s (r P5) (.cond (.t 139) (s (r P7) .ret) .skip)) (s (r P8) .ret))) .skip)))))))))))) (s (r P9) .ret))))))))))
def DK:List bB:=[.tmp 4]
theorem JC:cg Tryz.prog Tryz.f188 zt:=e (by kernel_rfl)
theorem KR:b8 Tryz.prog Tryz.f188 DK:=e (by kernel_rfl)
theorem Iu:bO Tryz.prog 188:=e (by kernel_rfl)
end Go.Proofs.YtoffnnjbplgnaaaGreatDoor
namespace Go.Abs
open Go Go.RowKit
open Enc (enc)
def az(x:I)(p q:Prop):Prop:=match x with
 | .bool t=>(t=true→p)∧(t=false→q)
 |_=>False
theorem U.hJ{c:ct}{A:ae}{Q:Exit→ae→Prop}{b:ay}{x y:bj}(h:az (ah A b) (U c x Q A) (U c y Q A)):U c (.cond b x y) Q A:=by
 generalize hb:ah A b=v at h;unfold az at h;split at h
 ·exact U.cond hb h.1 h.2
 ·exact h.elim
def nA(r:I):Option (List I)→Prop
 |some xs=>j8 xs=r
 |none=>False
theorem YR(rs:List bB)(r:I)(A:ae):kc rs r .ret A=nA r (eG A rs):=by
 simp only[kc,nA];cases eG A rs <;>simp
theorem YQ(rs:List bB)(r:I)(A:ae):kc rs r .normal A=nA r (eG A rs):=by
 simp only[kc,nA];cases eG A rs <;>simp
def qO(s:Option Nat)(A:ae):Option I→Option I
 |some x=>if bN s x=true then bf true A x else none
 |none=>none
def lv:Option I→Option (List I)→Option (List I)
 |some x,some xs=>some (x::xs)
 |_,_=>none
theorem YI(A:ae):eG A []=some []:=rfl
theorem YJ(A:ae)(t:Nat)(rs:List bB):eG A (.tmp t::rs)=lv (bf true A (A.t t)) (eG A rs):=by
 simp only[eG,tw];cases bf true A (A.t t) <;>cases eG A rs <;>rfl
theorem YH(A:ae)(a:Nat)(s:Option Nat)(rs:List bB):eG A (.cell a s::rs)=lv (qO s A (fL A (A.t a))) (eG A rs):=by
 simp only[eG,tw,jR];cases fL A (A.t a) with
 |none=>cases eG A rs <;>rfl
 |some x =>
  by_cases h:bN s x=true
  ·simp only[qO,if_pos h];cases bf true A x <;>cases eG A rs <;>rfl
  ·simp only[qO,if_neg h];cases eG A rs <;>rfl
def oz(aE:Bool)(A:ae):Option I→Option I
 |some x=>if x.bC=true then some (.ref x) else (gA A 9 x).map .ref
 |none=>none
theorem vq(A:ae)(n:Nat)(p:List Nat):bf true A (.ptr n p)=oz true A (dN p (A.o n)):=by
 simp only[bf,jR,fL,if_true,oz];cases dN p (A.o n) <;>rfl
open Classical in
noncomputable def jU(sz lo k:Nat):Option (List I)→Option I
 |some fs=>if I.cv ((fs.drop lo).take k)=true then some (.slice sz ((fs.drop lo).take k)) else none
 |none=>none
theorem r2(A:ae)(n:Nat)(p:List Nat)(sz lo k:Nat):bf true A (.view n p sz lo k)=jU sz lo k (ev (dN p (A.o n))):=by
 simp only[bf,jR,fL,if_true];cases dN p (A.o n) with
 |none=>rfl
 |some c=>cases c <;>simp only[ev,I.dh,jU] <;>(split <;>simp_all)
open Classical in
noncomputable def kF(k:Nat):Option aj→Option I
 |some (.bF _ sz es)=>if k=es.length∧I.cv es=true then some (.slice sz es) else none
 |_=>none
theorem MV(aE:Bool)(A:ae)(n k:Nat):bf aE A (.own n k)=kF k (A.o n):=by
 simp only[bf];cases A.o n with
 |none=>rfl
 |some y=>cases y <;>simp only[kF] <;>(split <;>simp_all)
theorem MP(aE:Bool)(A:ae)(fs:List I):bf aE A (.agg fs)=(bJ aE A fs).map .agg:=by simp only[bf]
theorem MR(aE:Bool)(A:ae)(f:FuncId)(fs:List I):bf aE A (.func f fs)=if f<1000000 then (bJ aE A fs).map (.func f) else some .any:=by simp only[bf]
theorem MS(aE:Bool)(A:ae)(k:IntKind)(n:Int):bf aE A (.int k n)=some (.int k n):=by simp only[bf]
theorem MQ(aE:Bool)(A:ae)(n:Bool):bf aE A (.bool n)=some (.bool n):=by simp only[bf]
theorem MY(aE:Bool)(A:ae)(n:ByteArray):bf aE A (.ak n)=some (.ak n):=by simp only[bf]
theorem MU(aE:Bool)(A:ae)(n:Nat):bf aE A (.nils n)=some (.slice n []):=by simp only[bf]
theorem MX(aE:Bool)(A:ae)(n:Nat)(es:List I):bf aE A (.slice n es)=if I.cv es=true then some (.slice n es) else none:=by simp only[bf]
theorem MW(aE:Bool)(A:ae)(x:I):bf aE A (.ref x)=if x.bC=true then some (.ref x) else none:=by simp only[bf]
theorem M0(aE:Bool)(A:ae):bJ aE A []=some []:=by simp only[bJ]
theorem MZ(aE:Bool)(A:ae)(x:I)(xs:List I):bJ aE A (x::xs)=lv (bf aE A x) (bJ aE A xs):=by
 simp only[bJ];cases bf aE A x <;>cases bJ aE A xs <;>rfl
theorem Ka(fs:List I):(I.agg fs).bC=I.cv fs:=by simp only[I.bC]
theorem Kf(n:Nat)(fs:List I):(I.slice n fs).bC=I.cv fs:=by simp only[I.bC]
theorem Ke(x:I):(I.ref x).bC=x.bC:=by simp only[I.bC]
theorem Kd(k:IntKind)(n:Int):(I.int k n).bC=true:=by simp only[I.bC]
theorem Kb(n:Bool):(I.bool n).bC=true:=by simp only[I.bC]
theorem Kg(n:ByteArray):(I.ak n).bC=true:=by simp only[I.bC]
theorem Kc(f:FuncId)(fs:List I):(I.func f fs).bC=I.cv fs:=by simp only[I.bC]
theorem Ki:I.cv []=true:=by simp only[I.cv]
theorem Kh(x:I)(xs:List I):I.cv (x::xs)=(x.bC&&I.cv xs):=by simp only[I.cv]
theorem Hr(k:IntKind)(a b:Int):bG .add (.int k a) (.int k b)=some (.int k (k.wrap (a+b))):=by simp[bG]
theorem HI(k:IntKind)(a b:Int):bG .sub (.int k a) (.int k b)=some (.int k (k.wrap (a-b))):=by simp[bG]
theorem Hz(k:IntKind)(a b:Int):bG .mul (.int k a) (.int k b)=some (.int k (k.wrap (a*b))):=by simp[bG]
theorem HD(k:IntKind)(a b:Int):bG .quo (.int k a) (.int k b)=if b=0 then none else some (.int k (k.wrap (a.tdiv b))):=by simp[bG]
theorem HE(k:IntKind)(a b:Int):bG .rem (.int k a) (.int k b)=if b=0 then none else some (.int k (a.tmod b)):=by simp[bG]
theorem Hs(k:IntKind)(a b:Int):bG .and (.int k a) (.int k b)=some (.int k (k.wrap ((BitVec.ofInt k.bits a &&& BitVec.ofInt k.bits b).toNat:Int))):=by simp[bG]
theorem HC(k:IntKind)(a b:Int):bG .or (.int k a) (.int k b)=some (.int k (k.wrap ((BitVec.ofInt k.bits a ||| BitVec.ofInt k.bits b).toNat:Int))):=by simp[bG]
theorem HJ(k:IntKind)(a b:Int):bG .xor (.int k a) (.int k b)=some (.int k (k.wrap ((BitVec.ofInt k.bits a ^^^ BitVec.ofInt k.bits b).toNat:Int))):=by simp[bG]
theorem Ht(k:IntKind)(a b:Int):bG .andNot (.int k a) (.int k b)=some (.int k (k.wrap ((BitVec.ofInt k.bits a &&& ~~~ BitVec.ofInt k.bits b).toNat:Int))):=by simp[bG]
theorem HF(k k':IntKind)(a b:Int):bG .shl (.int k a) (.int k' b)=if 0≤b then some (.int k (k.wrap (a*2^(min b.toNat k.bits)))) else none:=by simp[bG]
theorem HG(k k':IntKind)(a b:Int):bG .shr (.int k a) (.int k' b)=if 0≤b then some (.int k (a.fdiv (2^(min b.toNat k.bits)))) else none:=by simp[bG]
theorem Hu(k:IntKind)(a b:Int):bG .eql (.int k a) (.int k b)=some (.bool (a==b)):=by simp[bG]
theorem HA(k:IntKind)(a b:Int):bG .neq (.int k a) (.int k b)=some (.bool (a != b)):=by simp[bG]
theorem Hy(k:IntKind)(a b:Int):bG .lss (.int k a) (.int k b)=some (.bool (decide (a<b))):=by simp[bG]
theorem Hx(k:IntKind)(a b:Int):bG .leq (.int k a) (.int k b)=some (.bool (decide (a≤b))):=by simp[bG]
theorem Hw(k:IntKind)(a b:Int):bG .gtr (.int k a) (.int k b)=some (.bool (decide (b<a))):=by simp[bG]
theorem Hv(k:IntKind)(a b:Int):bG .geq (.int k a) (.int k b)=some (.bool (decide (b≤a))):=by simp[bG]
theorem yx :
  (∀ ts os d v,(aw ts os).put d v=aw ((d,v)::ts) os)∧(∀ ts os d v,(aw ts os).aP (some d) v=aw ((d,v)::ts) os)∧(∀ (A:ae) v,A.aP none v=A) ∧
  (∀ ts os d x,(aw ts os).aQ d x=aw ts ((d,x)::os))∧(∀ ts os k,(aw ts os).t k=cj ts k)∧(∀ ts os k,(aw ts os).o k=aD os k) ∧
  (∀ j v r k,cj ((j,v)::r) k=if k=j then v else cj r k)∧(∀ j v r k,aD ((j,v)::r) k=if k=j then some v else aD r k)∧(∀ k,aD [] k=none) ∧
  (∀ A k,ah A (.t k)=A.t k)∧(∀ A x,ah A (.c x)=x)∧(∀ d rest A v,cK d rest A v=al rest (A.aP d v))∧(∀ v k,cq (some v) k=k v)∧(∀ A,al [] A=.done A) :=
 ⟨wc,Ct,WC,sO,WD,WB,bX,dR,Wr,MB,MA,V0,HK,G1⟩
theorem C0 :
  (∀ d rest A op,al (⟨d,op,none⟩::rest) A=bm A d op rest)∧(∀ d rest A op t b,al (⟨d,op,some (t,b)⟩::rest) A=gB (A.t t) b d op rest A) ∧
  (∀ d rest A op,gB (.bool true) true d op rest A=bm A d op rest)∧(∀ d rest A op,gB (.bool false) false d op rest A=bm A d op rest) ∧
  (∀ d rest A op,gB (.bool true) false d op rest A=al rest (A.aP d .undef))∧(∀ d rest A op,gB (.bool false) true d op rest A=al rest (A.aP d .undef))∧(∀ d rest A op b,gB .undef b d op rest A=al rest (A.aP d .undef)) ∧
  (∀ d rest A x,bm A d (.mv x) rest=al rest (A.aP d (ah A x)))∧(∀ d rest A c a b,bm A d (.pick c a b) rest=qE A d a b rest (ah A c)) ∧
  (∀ A d a b rest,qE A d a b rest (.bool true)=al rest (A.aP d (ah A a)))∧(∀ A d a b rest,qE A d a b rest (.bool false)=al rest (A.aP d (ah A b))) ∧
  (∀ d rest A op x y,bm A d (.bin op x y) rest=cq (bG op (ah A x) (ah A y)) (cK d rest A)) ∧
  (∀ d rest A ty neg x y,bm A d (.eqv ty neg x y) rest=cq ((bW ty (ah A x) (ah A y)).map fun b=>.bool (if neg then !b else b)) (cK d rest A)) ∧
  (∀ d rest A op x,bm A d (.un op x) rest=cq (rj op (ah A x)) (cK d rest A))∧(∀ b,rj .not (.bool b)=some (.bool !b))∧(∀ k n,rj .neg (.int k n)=some (.int k (k.wrap (0-n))))∧(∀ k n,rj .xor (.int k n)=some (.int k (oo k n))) ∧
  (∀ d rest A k x,bm A d (.conv k x) rest=cq (uV k (ah A x)) (cK d rest A))∧(∀ k k' n,uV k (.int k' n)=some (.int k (k.wrap n))) ∧
  (∀ d rest A s x,bm A d (.ld s x) rest=cq (fS s (fL A (ah A x))) (cK d rest A))∧(∀ d rest A f off x,bm A d (.fa f off x) rest=cq (ma A f off (ah A x)) (cK d rest A)) ∧
  (∀ d rest A f off s x,bm A d (.fl f off s x) rest=cq (r4 f off s (ah A x).dh) (cK d rest A))∧(∀ d rest A n esz x i,bm A d (.ia n esz x i) rest=cq (qg A n esz (ah A x) (ah A i)) (cK d rest A)) ∧
  (∀ d rest A esz x i,bm A d (.is esz x i) rest=cq (qj A esz (ah A x) (ah A i)) (cK d rest A))∧(∀ d rest A n esz s x i,bm A d (.ix n esz s x i) rest=cq (qm n esz s (ah A x) (ah A i)) (cK d rest A)) ∧
  (∀ d rest A x,bm A d (.len x) rest=cq (j0 A (ah A x)) (cK d rest A))∧(∀ d rest A n esz x,bm A d (.va n esz x) rest=cq (nR A n esz (ah A x)) (cK d rest A)) ∧
  (∀ d rest A zs ps,bm A d (.bld zs ps) rest=cq ((eT zs (ps.map fun p=>(p.1,ah A p.2))).map .agg) (cK d rest A))∧(∀ d rest A x i,bm A d (.ext x i) rest=cq (vh i (ah A x)) (cK d rest A))∧(∀ i fs,vh i (.tuple fs)=fs[i]?) ∧
  (∀ d rest A f caps,bm A d (.mk f caps) rest=cq (if ((caps.map (ah A)).all fun y=>y.cC)=true then some (.func f (caps.map (ah A))) else none) (cK d rest A)) ∧
  (∀ rest A d z,bm A (some d) (.alloc z) rest=uw A d z rest (A.o d))∧(∀ A d z rest,uw A d z rest none=al rest ((A.aQ d (.box z)).put d (.ptr d []))) ∧
  (∀ rest A d x,bm A (some d) (.box x) rest=rK A d (ah A x) rest (A.o d))∧(∀ A d z rest,rK A d z rest none=rL A d z rest z.cC)∧(∀ A d z rest,rL A d z rest true=al rest ((A.aQ d (.box z)).put d (.ptr d []))) ∧
  (∀ rest A s x v,bm A none (.aV s x v) rest=tM A s (ah A v) rest (ah A x))∧(∀ A s v rest n p,tM A s v rest (.ptr n p)=tN A s n p v rest (A.o n))∧(∀ A s n p v rest b,tN A s n p v rest (some (.box b))=eb A s n p b v rest (b.at p)) ∧
  (∀ d rest A f args,bm A d (.call f args) rest=.call f (args.map (ah A)) (bJ true A (args.map (ah A))) (bJ false A (args.map (ah A))) d rest A) ∧
  (∀ d rest A x args,bm A d (.fq x args) rest=pT A d (args.map (ah A)) rest (ah A x))∧(∀ A d args rest f caps,pT A d args rest (.func f caps)=if f<1000000 then .call f (args++caps) (bJ true A (args++caps)) (bJ false A (args++caps)) d rest A else .call (kE f) (caps++args) (bJ true A (caps++args)) (bJ false A (caps++args)) d rest A) :=
 ⟨GK,GL,UP,UM,UO,UN,UQ,Xs,Xw,fun _ _ _ _ _=>rfl,fun _ _ _ _ _=>rfl,WX,Xc,XB,fun _=>rfl,fun _ _=>rfl,fun _ _=>rfl,Xa,fun _ _ _=>rfl,Xj,Xe,Xf,Xg,Xh,Xi,Xk,XC,WY,Xd,fun _ _=>rfl,Xn,
  WU,fun _ _ _ _=>rfl,WZ,fun _ _ _ _=>rfl,fun _ _ _ _=>rfl,XA,fun _ _ _ _ _ _=>rfl,fun _ _ _ _ _ _ _=>rfl,W6,W7,fun A d args rest f caps=>by
   simp only[pT];split
   ·rename_i h;rw[vk h,vj h]
   ·rename_i h;simp only[hE,if_neg h]⟩
theorem eP{A:ae}{s:Option Nat}{n:Nat}{p:List Nat}{b v old:I}{rest:List au}(h1:v.cC=true)(h2:bN s v=true)(h3:v.aL=old.aL):eb A s n p b v rest (some old)=al rest (A.aQ n (.box (b.dI p v))):=by
 simp only[eb];rw[if_pos ⟨h1,h2,h3⟩]
theorem FM :
  (∀ A x,fL A (.ref x)=some x)∧(∀ A n p,fL A (.ptr n p)=dN p (A.o n))∧(∀ p c,dN p (some (.box c))=c.at p)∧(∀ c:I,c.at []=some c)∧(∀ (c:I) i p,c.at (i::p)=lh i p c.dh) ∧
  (∀ i p fs,lh i p (some fs)=od p fs[i]?)∧(∀ p f,od p (some f)=f.at p)∧(∀ c v:I,c.dI [] v=v)∧(∀ (c:I) i p v,c.dI (i::p) v=po c i p v c.dh)∧(∀ c i p v fs,po c i p v (some fs)=qX fs i p v fs[i]?) ∧
  (∀ fs i p v f,qX fs i p v (some f)=.agg (fs.set i (f.dI p v)))∧(∀ fs,(I.agg fs).dh=some fs)∧(∀ x:I,ev (some x)=x.dh) ∧
  (∀ s x,fS s (some x)=if bN s x=true then some x else none) ∧
  (∀ A f off c,ma A f off (.ref c)=r0 f off c.dh)∧(∀ A f off n p,ma A f off (.ptr n p)=p9 n p f off (ev (dN p (A.o n))))∧(∀ f off fs,r0 f off (some fs)=p8 fs f off fs[f]?)∧(∀ fs f off v,p8 fs f off (some v)=fI fs f off (.ref v)) ∧
  (∀ n p f off fs,p9 n p f off (some fs)=fI fs f off (.ptr n (p++[f])))∧(∀ A n esz x kk k,qg A n esz x (.int kk k)=gf A n esz k x)∧(∀ A n esz k c,gf A n esz k (.ref c)=hG k n (oG n esz k c.dh)) ∧
  (∀ A n esz k m p,gf A n esz k (.ptr m p)=hG k n (mU n esz m p k (ev (dN p (A.o m)))))∧(∀ n esz k fs,oG n esz k (some fs)=iv n esz fs ((fs[k.toNat]?).map .ref))∧(∀ n esz m p k fs,mU n esz m p k (some fs)=iv n esz fs (some (.ptr m (p++[k.toNat])))) ∧
  (∀ A esz x kk k,qj A esz x (.int kk k)=ji A esz k x)∧(∀ n esz s x kk k,qm n esz s x (.int kk k)=mX n esz s k x.dh)∧(∀ n esz s k fs,mX n esz s k (some fs)=hG k n (iv n esz fs (fS s fs[k.toNat]?))) ∧
  (∀ A n esz m p,nR A n esz (.ptr m p)=rm n esz m p (ev (dN p (A.o m))))∧(∀ n esz m p fs,rm n esz m p (some fs)=rl n esz fs (.view m p esz 0 n)) ∧
  (∀ A sz es,j0 A (.slice sz es)=some (.int .i64 es.length))∧(∀ A n,j0 A (.nils n)=some (.int .i64 0))∧(∀ A n,j0 A (.c0 n)=some (.int .i64 0)) :=
 ⟨fun _ _=>rfl,fun _ _ _=>rfl,fun _ _=>rfl,pP,Hh,fun _ _ _=>rfl,fun _ _=>rfl,fx,xi,fun _ _ _ _ _=>rfl,fun _ _ _ _ _=>rfl,fun _=>rfl,fun _=>rfl,fun _ _=>rfl,fun _ _ _ _=>rfl,fun _ _ _ _ _=>rfl,fun _ _ _=>rfl,fun _ _ _ _=>rfl,
  fun _ _ _ _ _=>rfl,fun _ _ _ _ _ _=>rfl,fun _ _ _ _ _=>rfl,fun _ _ _ _ _ _=>rfl,fun _ _ _ _=>rfl,fun _ _ _ _ _ _=>rfl,fun _ _ _ _ _=>rfl,fun _ _ _ _ _ _=>rfl,fun _ _ _ _ _=>rfl,fun _ _ _ _ _=>rfl,fun _ _ _ _ _=>rfl,fun _ _ _=>rfl,fun _ _=>rfl,fun _ _=>rfl⟩
theorem A1 :
  (∀ A n p,bf true A (.ptr n p)=oz true A (dN p (A.o n)))∧(∀ A x,oz true A (some x)=if x.bC=true then some (.ref x) else (gA A 9 x).map .ref)∧(∀ A n p sz lo k,bf true A (.view n p sz lo k)=jU sz lo k (ev (dN p (A.o n)))) ∧
  (∀ A n p,bf false A (.ptr n p)=none)∧(∀ A n p sz lo k,bf false A (.view n p sz lo k)=none)∧(∀ x,lv none x=none)∧(∀ x,lv x none=none) ∧
  (∀ aE A n k,bf aE A (.own n k)=kF k (A.o n))∧(∀ aE A fs,bf aE A (.agg fs)=(bJ aE A fs).map .agg)∧(∀ aE A f fs,bf aE A (.func f fs)=if f<1000000 then (bJ aE A fs).map (.func f) else some .any)∧(∀ aE A k n,bf aE A (.int k n)=some (.int k n))∧(∀ aE A b,bf aE A (.bool b)=some (.bool b)) ∧
  (∀ aE A s,bf aE A (.ak s)=some (.ak s))∧(∀ aE A n,bf aE A (.nils n)=some (.slice n []))∧(∀ aE A n es,bf aE A (.slice n es)=if I.cv es=true then some (.slice n es) else none)∧(∀ aE A x,bf aE A (.ref x)=if x.bC=true then some (.ref x) else none) ∧
  (∀ aE A,bJ aE A []=some [])∧(∀ aE A x xs,bJ aE A (x::xs)=lv (bf aE A x) (bJ aE A xs))∧(∀ x xs,lv (some x) (some xs)=some (x::xs)) ∧
  (∀ fs,(I.agg fs).bC=I.cv fs)∧(∀ n fs,(I.slice n fs).bC=I.cv fs)∧(∀ x,(I.ref x).bC=x.bC)∧(∀ k n,(I.int k n).bC=true)∧(∀ n,(I.bool n).bC=true)∧(∀ n,(I.ak n).bC=true)∧(∀ f fs,(I.func f fs).bC=I.cv fs) ∧
  I.cv []=true∧(∀ x xs,I.cv (x::xs)=(x.bC&&I.cv xs)) ∧
  (∀ rs r A,kc rs r .ret A=nA r (eG A rs))∧(∀ rs r A,kc rs r .normal A=nA r (eG A rs))∧(∀ r xs,nA r (some xs)=(j8 xs=r))∧(∀ A,eG A []=some [])∧(∀ A t rs,eG A (.tmp t::rs)=lv (bf true A (A.t t)) (eG A rs)) ∧
  (∀ A a s rs,eG A (.cell a s::rs)=lv (qO s A (fL A (A.t a))) (eG A rs))∧(∀ s A x,qO s A (some x)=if bN s x=true then bf true A x else none)∧(∀ x,j8 [x]=x)∧(∀ x y xs,j8 (x::y::xs)=.tuple (x::y::xs)) :=
 ⟨vq,fun _ _=>rfl,r2,fun _ _ _=>rfl,fun _ _ _ _ _ _=>rfl,fun _=>rfl,fun x=>by cases x <;>rfl,MV,MP,MR,MS,MQ,MY,MU,MX,MW,M0,MZ,fun _ _=>rfl,Ka,Kf,Ke,Kd,Kb,Kg,Kc,Ki,Kh,
  YR,YQ,fun _ _=>rfl,YI,YJ,YH,fun _ _ _=>rfl,fun _=>rfl,fun _ _ _=>rfl⟩
theorem yO :
  (∀ k a b,bG .add (.int k a) (.int k b)=some (.int k (k.wrap (a+b))))∧(∀ k a b,bG .sub (.int k a) (.int k b)=some (.int k (k.wrap (a-b))))∧(∀ k a b,bG .mul (.int k a) (.int k b)=some (.int k (k.wrap (a*b)))) ∧
  (∀ k a b,bG .quo (.int k a) (.int k b)=if b=0 then none else some (.int k (k.wrap (a.tdiv b))))∧(∀ k a b,bG .rem (.int k a) (.int k b)=if b=0 then none else some (.int k (a.tmod b))) ∧
  (∀ k a b,bG .and (.int k a) (.int k b)=some (.int k (k.wrap ((BitVec.ofInt k.bits a &&& BitVec.ofInt k.bits b).toNat:Int))))∧(∀ k a b,bG .or (.int k a) (.int k b)=some (.int k (k.wrap ((BitVec.ofInt k.bits a ||| BitVec.ofInt k.bits b).toNat:Int)))) ∧
  (∀ k a b,bG .xor (.int k a) (.int k b)=some (.int k (k.wrap ((BitVec.ofInt k.bits a ^^^ BitVec.ofInt k.bits b).toNat:Int))))∧(∀ k a b,bG .andNot (.int k a) (.int k b)=some (.int k (k.wrap ((BitVec.ofInt k.bits a &&& ~~~ BitVec.ofInt k.bits b).toNat:Int)))) ∧
  (∀ k k' a b,bG .shl (.int k a) (.int k' b)=if 0≤b then some (.int k (k.wrap (a*2^(min b.toNat k.bits)))) else none)∧(∀ k k' a b,bG .shr (.int k a) (.int k' b)=if 0≤b then some (.int k (a.fdiv (2^(min b.toNat k.bits)))) else none) ∧
  (∀ k a b,bG .eql (.int k a) (.int k b)=some (.bool (a==b)))∧(∀ k a b,bG .neq (.int k a) (.int k b)=some (.bool (a != b)))∧(∀ k a b,bG .lss (.int k a) (.int k b)=some (.bool (decide (a<b))))∧(∀ k a b,bG .leq (.int k a) (.int k b)=some (.bool (decide (a≤b)))) ∧
  (∀ k a b,bG .gtr (.int k a) (.int k b)=some (.bool (decide (b<a))))∧(∀ k a b,bG .geq (.int k a) (.int k b)=some (.bool (decide (b≤a)))) :=
 ⟨Hr,HI,Hz,HD,HE,Hs,HC,HJ,Ht,HF,HG,Hu,HA,Hy,Hx,Hw,Hv⟩
end Go.Abs
namespace Go.Abs
open Go Go.RowKit
open Enc (enc)
section
variable {α:Type} [Enc α]
theorem Wk(A:ae)(l:List α):j0 A (enc l)=some (.int .i64 l.length):=by simp[gM,j0]
theorem VK{A:ae}(esz:Nat){k:Int}{l:List α}(h:0≤k∧k.toNat<l.length)(hs:Enc.sz α=esz):ji A esz k (enc l)=some (.ref (enc l[k.toNat])):=by
 simp only[gM,ji,hs,Z9,true_and];rw[if_pos ⟨h.1,by omega⟩];simp[h.2]
theorem fg{A:ae}(esz:Nat){k:Nat}{l:List α}(h:k<l.length)(hs:Enc.sz α=esz):ji A esz k (enc l)=some (.ref (enc l[k])):=by
 have:=VK (A:=A) esz (k:=(k:Int)) (l:=l) ⟨by omega,by simpa using h⟩ hs;simpa using this
theorem ef.lt{α:Type}{n:Nat}(x:ef n α){k:Nat}(h:k<n):k<x.l.length:=by rw[x.h];exact h
theorem Z5{n:Nat}(esz:Nat){k:Int}{x:ef n α}(h:0≤k∧k.toNat<n)(hs:Enc.sz α=esz):hG k n (oG n esz k (some (x.l.map enc)))=some (.ref (enc (x.l[k.toNat]'(x.lt h.2)))):=by
 have hl:=x.lt h.2;simp only[hG,oG,iv,vf n esz x.l x.h hs,if_true];rw[if_pos ⟨h.1,by omega⟩];simp[hl]
theorem sn{n:Nat}(esz:Nat){k:Int}(x:ef n α){y:Option I}(h:0≤k∧k<n)(hs:Enc.sz α=esz):hG k n (iv n esz (x.l.map enc) y)=y:=by
 simp only[hG,iv,vf n esz x.l x.h hs,if_true];rw[if_pos h]
theorem US{n k:Nat}(x:ef n α)(h:k<n):(x.l.map enc)[k]?=some (enc (x.l[k]'(x.lt h))):=by
 simp[x.lt h]
theorem VW{n:Nat}(esz:Nat){s:Option Nat}{k:Int}{x:ef n α}(h:0≤k∧k.toNat<n)(hs:Enc.sz α=esz):mX n esz s k (some (x.l.map enc))=fS s (some (enc (x.l[k.toNat]'(x.lt h.2)))):=by
 have hl:=x.lt h.2;simp only[mX,hG,iv,vf n esz x.l x.h hs,if_true];rw[if_pos ⟨h.1,by omega⟩];simp[hl]
theorem Hg{n k:Nat}{p:List Nat}{x:ef n α}(h:k<n):lh k p (some (x.l.map enc))=(enc (x.l[k]'(x.lt h))).at p:=by
 have hl:=x.lt h;simp[lh,od,hl]
theorem XM(k:IntKind)(n:Int):fS none (some (.int k n))=some (.int k n):=by simp[fS,ml,bN,I.isAgg]
theorem XK(b:Bool):fS none (some (.bool b))=some (.bool b):=by simp[fS,ml,bN,I.isAgg]
theorem XN(z:Nat)(es:List I):fS none (some (.slice z es))=some (.slice z es):=by simp[fS,ml,bN,I.isAgg]
theorem XL(f:FuncId)(es:List I):fS none (some (.func f es))=some (.func f es):=by simp[fS,ml,bN,I.isAgg]
end
mutual
/-- What every value in memory keeps to: whole numbers within their kind,slices no longer than a slice can be. -/
def I.wf:I→Prop
 | .agg fs=>I.fB fs
 | .int k n=>k.min≤n∧n≤k.max
 | .ak s=>s.size≤maxLen
 | .slice _ es=>es.length≤maxLen∧I.fB es
 | .ref c=>c.wf
 | .func _ caps=>I.fB caps
 | .iface _ v=>v.wf
 |_=>True
def I.fB:List I→Prop
 | []=>True
 |x::xs=>x.wf∧I.fB xs
end
mutual
theorem tm{w:World}{D:aH}{E:aN} : ∀ (x:I) (cs:List Value),af w D E x cs→x.wf
 | .agg fs,cs,h=>by simp only[af,I.wf] at *;exact wT fs cs h
 | .int k n,cs,h=>by simp only[af,I.wf] at *;exact h.2
 | .ak s,cs,h=>by simp only[af,I.wf] at *;exact h.2
 | .slice sz es,cs,h=>by
  simp only[af,I.wf] at *;obtain ⟨a,cap,_,h1,h2,h3,_⟩:=h;refine ⟨by omega,?_⟩;rcases h3 with rfl | ⟨b,off,cs',_,_,h4⟩
  ·simp[I.fB]
  ·exact wT es cs' h4
 | .ref c,cs,h=>by simp only[af,I.wf] at *;obtain ⟨b,off,cs',_,_,h⟩:=h;exact tm c cs' h
 | .func f caps,cs,h=>by simp only[af,I.wf] at *;obtain ⟨vs,_,h⟩:=h;exact pj caps vs h
 | .iface t v,cs,h=>by simp only[af,I.wf] at *;obtain ⟨u,cs',_,_,h⟩:=h;exact tm v cs' h
 | .bool _,_,_ | .nilp,_,_ | .di,_,_ | .cU,_,_ | .any,_,_ | .raw _,_,_ | .nils _,_,_ | .c0 _,_,_ | .ptr _ _,_,_ | .own _ _,_,_ | .view _ _ _ _ _,_,_ | .mref _,_,_ | .c8 _,_,_ | .da _ _,_,_ | .undef,_,_ | .dc,_,_ | .tuple _,_,_=>by simp[I.wf]
theorem wT{w:World}{D:aH}{E:aN} : ∀ (xs:List I) (cs:List Value),aA w D E xs cs→I.fB xs
 | [],_,_=>by simp[I.fB]
 |x::xs,cs,h=>by
  simp only[aA,I.fB] at *;obtain ⟨c1,c2,_,h1,h2⟩:=h;exact ⟨tm x c1 h1,wT xs c2 h2⟩
theorem pj{w:World}{D:aH}{E:aN} : ∀ (xs:List I) (vs:List Value),ao w D E xs vs→I.fB xs
 | [],_,_=>by simp[I.fB]
 |x::xs,vs,h=>by
  simp only[ao,I.fB] at *;obtain ⟨v,rest,cs,_,_,h1,h2⟩:=h;exact ⟨tm x cs h1,pj xs rest h2⟩
end
theorem ZO{α:Type}[Enc α](l:List α):I.fB (l.map enc)↔∀ x∈l,(enc x:I).wf:=by
 induction l with
 |nil=>simp[I.fB]
 |cons x l ih=>simp[I.fB,ih]
theorem xN{α:Type}[Enc α](l:List α):(enc l:I).wf↔l.length≤maxLen∧∀ x∈l,(enc x:I).wf:=by
 simp only[gM,I.wf,Z9,ZO]
theorem FO(n:Int):(enc n:I).wf↔-9223372036854775808≤n∧n≤9223372036854775807:=by
 change IntKind.i64.min≤n∧n≤IntKind.i64.max↔_
 simp[IntKind.min,IntKind.max,IntKind.bits,IntKind.signed]
theorem aS.wf{P:Program}{f:FuncId}{args:List I}{r:I}(hc:dZ P f=true)(h:I.fB args→aS P f args r):aS P f args r :=
 ⟨hc,fun w D vs hl h1 h2=>(h (pj _ _ h2)).2 w D vs hl h1 h2⟩
theorem aS.bS{P:Program}{f:FuncId}{fn:Func}{x:bj}{rs:List bB}{args:List I}{r:I}(hf:P.funcs[f]?=some fn)(hcall:dZ P f=true)(hc:(fn.body.bind (dY P fn.ntmps))=some x)
  (hrs:gv P fn.results.toList=some rs) (hn:args.length≤fn.ntmps) (h:I.fB args→∀ (w:World) (D:aH) (E:aN),U ⟨P,w,D,fn.ntmps,bU E,E,fO,none,none⟩ x (kc rs r) (aw (bH 0 args) [])):aS P f args r :=
 aS.wf hcall fun hw=>aS.mk hf hcall hc hrs hn (h hw)
theorem jn{α:Type}[Enc α] :
  (∀ A (l:List α),j0 A (enc l)=some (.int .i64 l.length))∧(∀ n (x:ef n α),(enc x).dh=some (x.l.map enc)) :=
 ⟨Wk,fun _ _=>rfl⟩
theorem j6:(∀ k n,fS none (some (.int k n))=some (.int k n))∧(∀ b,fS none (some (.bool b))=some (.bool b))∧(∀ z es,fS none (some (.slice z es))=some (.slice z es))∧(∀ f es,fS none (some (.func f es))=some (.func f es)) :=
 ⟨XM,XK,XN,XL⟩
end Go.Abs
namespace Go.Abs
open Go Go.RowKit
open Enc (enc)
def oS(neg:Bool):I→Option I
 | .nils _=>some (.bool (!neg))
 | .slice _ es=>if es.isEmpty then none else some (.bool neg)
 | .view _ _ _ _ _=>some (.bool neg)
 |_=>none
def mg:I→Option I
 | .ak s=>some (.int .i64 s.size)
 |_=>none
open Classical in
noncomputable def lU(n:Nat)(p:List Nat)(sz l0 k esz:Nat)(lo hi mx:Option I):Option (List I)→Option I
 |some fs=>if sz=esz then iX n p sz l0 k fs.length lo hi mx else none
 |none=>none
noncomputable def iJ(A:ae)(esz:Nat)(lo hi mx:Option I):I→Option I
 | .slice sz es=>if sz=esz then il sz es lo hi mx else none
 | .nils sz=>if sz=esz then il sz [] lo hi mx else none
 | .c0 sz=>if sz=esz then il sz [] lo hi mx else none
 | .view n p sz l0 k=>lU n p sz l0 k esz lo hi mx (ev (dN p (A.o n)))
 |_=>none
open Classical in
noncomputable def gu(esz:Nat):Option (List I)→Option I
 |some es=>if (es.all fun e=>e.size==esz)=true∧I.cv es=true then some (.slice esz es) else none
 |none=>none
open Classical in
noncomputable def pM(A:ae)(d:Option Nat)(e esz bytes n l T sz':Nat)(es:List I)(rest:List au):I→bZ
 | .slice sz ys=>if wz e esz bytes l sz ys T sz' es then al rest ((A.aQ n (.bF e esz (es++ys))).aP d (.own n (es.length+ys.length))) else .fail
 |_=>.fail
open Classical in
noncomputable def ux(A:ae)(d:Option Nat)(e esz bytes:Nat)(z:I)(n l T:Nat)(xs:List Int)(rest:List au):I→bZ
 | .slice _ ys=>if wA e esz bytes l ys T xs z then al rest ((A.aQ n (.dW e (xs++qh ys))).aP d (.own n (xs.length+ys.length))) else .fail
 |_=>.fail
noncomputable def pL(A:ae)(d:Option Nat)(e esz bytes:Nat)(z:I)(n l:Nat)(x:I)(rest:List au):Option aj→bZ
 |some (.bF T sz' es)=>pM A d e esz bytes n l T sz' es rest x
 |some (.dW T xs)=>ux A d e esz bytes z n l T xs rest x
 |_=>.fail
noncomputable def eY(A:ae)(d:Option Nat)(e esz bytes:Nat)(z x:I)(rest:List au):I→bZ
 | .own n l=>pL A d e esz bytes z n l x rest (A.o n)
 |s=>ep A d esz bytes z s (c7 A esz s) (c7 A esz x) (al rest)
section
variable (d:Option Nat) (rest:List au) (A:ae)
noncomputable def oT(neg:Bool)(x:I):Bool→bZ
 |true=>.any (fun m=>m<2) (fun m=>al rest (A.aP d (.bool (m==0))))
 |false=>cq (oS neg x) (cK d rest A)
theorem Xu(neg:Bool)(x:ay):bm A d (.nilS neg x) rest=oT d rest A neg (ah A x) (jm (ah A x)):=by
 simp only[bm,aX,aY];cases jm (ah A x)
 ·simp only[zz3,if_false,oT,oS];cases ah A x <;>rfl
 ·rfl
theorem Xl(x:ay):bm A d (.lenT x) rest=cq (mg (ah A x)) (cK d rest A):=by
 simp only[bm,aX,aY];cases ah A x <;>rfl
theorem Xz(esz:Nat)(x:ay)(lo hi mx:Option ay):bm A d (.sl esz x lo hi mx) rest=cq (iJ A esz (lo.map (ah A)) (hi.map (ah A)) (mx.map (ah A)) (ah A x)) (cK d rest A):=by
 simp only[bm,aX,aY];cases ah A x <;>try rfl
 rename_i n p sz l0 k;simp only[iJ,jR,fL];cases dN p (A.o n) with
 |none=>rfl
 |some c=>cases c <;>simp only[ev,I.dh,lU] <;>(first | rfl | (split <;>rfl))
theorem W5(T esz:Nat)(ps:List ay):bm A d (.bs T esz ps) rest=cq (gu esz (bJ false A (ps.map (ah A)))) (cK d rest A):=by
 simp only[bm,aX,aY];cases bJ false A (ps.map (ah A)) <;>simp only[gu] <;>rfl
theorem WV(e esz bytes:Nat)(z:I)(s x:ay):bm A d (.dM e esz bytes z s x) rest=eY A d e esz bytes z (ah A x) rest (ah A s):=by
 simp only[bm,aX];generalize ah A s=s';generalize ah A x=x';cases s' <;>simp only[eY]
 rename_i n l;cases x' <;>simp only <;>generalize A.o n=z <;>(cases z with
  |none=>rfl
  |some y=>cases y <;>simp only[pL,pM,ux])
end
theorem C1 :
  (∀ d rest A neg x,bm A d (.nilS neg x) rest=oT d rest A neg (ah A x) (jm (ah A x)))∧(∀ d rest A neg x,oT d rest A neg x false=cq (oS neg x) (cK d rest A))∧(∀ z,jm (.nils z)=false)∧(∀ n p sz lo k,jm (.view n p sz lo k)=false)∧(∀ d rest A x,bm A d (.lenT x) rest=cq (mg (ah A x)) (cK d rest A)) ∧
  (∀ d rest A esz x lo hi mx,bm A d (.sl esz x lo hi mx) rest=cq (iJ A esz (lo.map (ah A)) (hi.map (ah A)) (mx.map (ah A)) (ah A x)) (cK d rest A)) ∧
  (∀ d rest A T esz ps,bm A d (.bs T esz ps) rest=cq (gu esz (bJ false A (ps.map (ah A)))) (cK d rest A))∧(∀ d rest A e esz bytes z s x,bm A d (.dM e esz bytes z s x) rest=eY A d e esz bytes z (ah A x) rest (ah A s)) ∧
  (∀ A d e esz bytes z x rest n l,eY A d e esz bytes z x rest (.own n l)=pL A d e esz bytes z n l x rest (A.o n))∧(∀ A d e esz bytes z n l x rest T sz es,pL A d e esz bytes z n l x rest (some (.bF T sz es))=pM A d e esz bytes n l T sz es rest x)∧(∀ A d e esz bytes z n l x rest T xs,pL A d e esz bytes z n l x rest (some (.dW T xs))=ux A d e esz bytes z n l T xs rest x) ∧
  (∀ neg z,oS neg (.nils z)=some (.bool (!neg))) :=
 ⟨Xu,fun _ _ _ _ _=>rfl,fun _=>rfl,fun _ _ _ _ _=>rfl,Xl,Xz,W5,WV,fun _ _ _ _ _ _ _ _ _ _=>rfl,fun _ _ _ _ _ _ _ _ _ _ _ _ _=>rfl,fun _ _ _ _ _ _ _ _ _ _ _ _=>rfl,fun _ _=>rfl⟩
theorem CW(p:Nat→Bool)(xs ys:List I):I.cI p (xs++ys)=(I.cI p xs&&I.cI p ys):=by
 induction xs with
 |nil=>simp[I.cI]
 |cons x xs ih=>simp[I.cI,ih,Bool.and_assoc]
section
variable {α:Type} [Enc α]
theorem rH{A:ae}{d:Option Nat}(e:Nat)(esz bytes n:Nat){l:Nat}{es ys:List α}{rest:List au}(hl:l=es.length)(hs:Enc.sz α=esz)(hy:ys≠[])(h1:es.length+ys.length≤maxLen)(h2:(es.length+ys.length)*bytes≤140737488355328) :
  pM A d e esz bytes n l e esz (es.map enc) rest (enc ys)=al rest ((A.aQ n (.bF e esz ((es++ys).map enc))).aP d (.own n (es++ys).length)):=by
 simp only[gM,pM];rw[if_pos ⟨by simpa using hl,hs,rfl,rfl,by simpa using hy,by simpa using h1,by simpa using h2⟩];simp
theorem uJ(esz:Nat){ys:List α}(hs:Enc.sz α=esz):gu esz (some (ys.map enc))=some (enc ys):=by
 have h1:((ys.map enc).all fun e:I=>e.size==esz)=true:=by
  simp only[zx8,zx4];rintro x ⟨y,_,rfl⟩;simp[Enc.size,hs]
 simp only[gu,gM];rw[if_pos ⟨h1,pW ys⟩,hs]
theorem oh(esz:Nat)(y:α)(hs:Enc.sz α=esz):gu esz (some [enc y])=some (enc [y]):=uJ (ys:=[y]) esz hs
theorem oy(sz:Nat){T k:Nat}{es:List α}(hk:k=es.length)(hs:Enc.sz α=sz):kF k (some (.bF T sz (es.map enc)))=some (enc es):=by
 simp only[kF,Z9];rw[if_pos ⟨hk,pW es⟩,gM,hs]
theorem oZ(p:Nat→Bool)(l:List α):I.cI p (l.map enc)=true:=by
 induction l with
 |nil=>rfl
 |cons x l ih=>simp only[zz1,I.cI,bu,ih,Bool.and_self]
end
theorem BU :
  (∀ n:Int,gu 1 (some [.int .i64 n])=some (enc [n]))∧(∀ (T:Nat) (es:List Int),kF es.length (some (.bF T 1 (es.map enc)))=some (enc es)) :=
 ⟨fun n=>oh 1 n rfl,fun _ _=>oy 1 rfl rfl⟩
theorem bx.GP{A:ae}{d n T sz z:Nat}(hd:A.t d=.nils z)(hn:A.o n=none)(hlt:n<1000000):bx A ((A.aQ n (.bF T sz [])).put d (.own n 0)):=by
 rintro c a w ⟨D,E,h⟩;have aq:E n=none:=by have:=h.bD n;rw[hn] at this;exact this
 have hl:dy w D E w D (fun m=>if m=n then some (.rw none 0) else E m):=by
  have eI:∀ {m:Nat} {e:bw},E m=some e→(if m=n then some (.rw none 0) else E m)=some e:=fun {m e} he=>by
   have:m≠n:=fun e=>by rw[e,aq] at he;cases he
   rw[if_neg this];exact he
  refine ⟨fun _ _ h=>h,fun _ _ _ _ h=>h,fun m b aL he=>eI he,fun m aB l he =>?_,fun m b he=>eI he,fun m b he=>eI he,fun _ _ _ _ h=>h⟩
  ·have:m≠n:=fun e=>by rw[e,aq] at he;cases he
   exact ⟨aB,l,by simp only[if_neg this];exact he,zz2 _,fun _=>rfl⟩
 refine ⟨D,fun m=>if m=n then some (.rw none 0) else E m,h.sz,h.er,fun t =>?_,h.dn,h.cO,h.cS,fun m =>?_,fun m m' e e' b h1 h2 h3 h4 =>?_,fun m e hm =>?_,h.eN,h.cE,h.eV,h.fy⟩
 ·simp only[ae.put,ae.aQ];by_cases ht:t=d
  ·subst ht;simp only[if_true];have ab:=h.dK t;rw[hd] at ab;obtain ⟨cs,q1,q2⟩:=ab;simp only[af] at q2;subst q2;refine ⟨[.slice none 0 0],by simpa[ba,I.isAgg] using q1,?_⟩;simp only[af,if_true];exact ⟨none,0,rfl,zz2 _,⟨_,_,_,rfl⟩,fun _=>trivial⟩
  ·simp only[if_neg ht];exact aR.later hl (h.dK t)
 ·simp only[ae.put,ae.aQ];by_cases hm:m=n
  ·subst hm;simp only[if_true,c6];exact ⟨none,by simp,by simp,trivial⟩
  ·simp only[if_neg hm];exact (h.bD m).later hl (by simp only[if_neg hm]) fun _ _ _ _=>⟨rfl,fun _ ho=>ho⟩
 ·by_cases hm:m=n <;>by_cases hm':m'=n
  ·rw[hm,hm']
  ·simp only[if_pos hm,v6] at h1;subst h1;simp[bw.aB] at h3
  ·simp only[if_pos hm',v6] at h2;subst h2;simp[bw.aB] at h4
  ·simp only[if_neg hm] at h1;simp only[if_neg hm'] at h2;exact h.cD m m' e e' b h1 h2 h3 h4
 ·have hmn:m≠n:=fun e=>by rw[e,h.jx (.inr hlt)] at hm;cases hm
  simp only[if_neg hmn];exact h.dG m e hm
theorem bx.GS{ts:List (Nat×I)}{os:List (Nat×aj)}(d n T sz z:Nat)(hd:cj ts d=.nils z)(hn:aD os n=none){B:ae}(h:bx (aw ((d,.own n 0)::ts) ((n,.bF T sz [])::os)) B)(hlt:n<1000000:=by decide):bx (aw ts os) B :=
 ((bx.GP (A:=aw ts os) (T:=T) (sz:=sz) hd hn hlt).trans (by rw[sO,wc];exact bx.refl _)).trans h
def ef.g{n:Nat}(x:ef n Int)(k:Nat):Int:=x.l.getD k 0
theorem ef.vE{n k:Nat}(x:ef n Int)(h:k<n):x.l[k]'(x.lt h)=x.g k:=by simp[ef.g,x.lt h]
theorem kn{n k:Nat}{p:List Nat}(x:ef n Int)(h:k<n):lh k p (some (x.l.map enc))=(I.int .i64 (x.g k)).at p:=by
 rw[Hg h,x.vE h];rfl
theorem BC{n k:Nat}(x:ef n Int)(h:k<n):(x.l.map (enc (α:=Int)))[k]?=some (I.int .i64 (x.g k)):=by
 rw[US x h,x.vE h];rfl
theorem CP:(∀ k n,bN none (.int k n)=true)∧(∀ b,bN none (.bool b)=true)∧(∀ z es,bN none (.slice z es)=true)∧(∀ f es,bN none (.func f es)=true)∧(∀ z,bN none (.nils z)=true)∧(∀ n k,bN none (.own n k)=true) :=
 ⟨fun _ _=>rfl,fun _=>rfl,fun _ _=>rfl,fun _ _=>rfl,fun _=>rfl,fun _ _=>rfl⟩
theorem bd:(type_of% @yx)∧(type_of% @C0)∧(type_of% @C1)∧(type_of% @BU)∧(type_of% @CP)∧(type_of% @FM)∧(type_of% @A1)∧(type_of% @yO)∧(∀ n:Int,(enc n:I)=.int .i64 n)∧(∀ n:Bool,(enc n:I)=.bool n) ∧
  (∀ {α β:Type} (f:α→β) (x:α) (xs:List α),List.map f (x::xs)=f x::List.map f xs)∧(∀ {α β:Type} (f:α→β),List.map f []=[])∧(∀ {α:Type} (xs:List α),[]++xs=xs)∧(∀ n:Nat,(n:Int).toNat=n)∧(∀ {α β:Type} (f:α→β) (x:α),Option.map f (some x)=some (f x)) ∧
  (∀ n:Nat,0≤(n:Int))∧((!true)=false)∧((!false)=true)∧((false=true)=False)∧((true=false)=False) :=
 ⟨@yx,@C0,@C1,@BU,@CP,@FM,@A1,@yO,pX,Mo,fun _ _ _=>rfl,fun _=>rfl,fun _=>rfl,fun _=>rfl,fun _ _=>rfl,fun n=>Int.natCast_nonneg n,rfl,rfl,by simp,by simp⟩
end Go.Abs
namespace Go.Abs
open Go Go.RowKit
open Enc (enc)
theorem jo.bS{P:Program}{f:FuncId}{fn:Func}{x:bj}{rs:List bB}{Y:Value→List I→List (Nat×aj)→b9→Prop}{args:List I}{os:List (Nat×aj)}{post:b9}(hf:P.funcs[f]?=some fn)(hcall:dZ P f=true)(hc:(fn.body.bind (dY P fn.ntmps))=some x)
  (hrs:gv P fn.results.toList=some rs) (hn:args.length≤fn.ntmps) (hn2:fn.ntmps≤1000000) (hos:∀ m,aC os m=true→1000000≤m) (h:I.fB args→∀ (w:World) (D:aH) (E:aN),U ⟨P,w,D,fn.ntmps,bU E,E,Y,none,none⟩ x (nz rs post) (aw (bH 0 args) os)):jo P f Y args os post:=by
 obtain ⟨body,hb,hc'⟩:=zw6.1 hc;refine ⟨hcall,fun w D E vs hy hD ho ab =>?_⟩;exact (jo.s7 hf hb hcall hc' hrs hn (fun m hm=>⟨Nat.le_trans hn2 (hos m hm),hos m hm⟩) (fun w D E=>(h (pj _ _ ab) w D E).sub (tO args os))).2 w D E vs hy hD ho ab
theorem eW.bS{P:Program}{f:FuncId}{fn:Func}{x:bj}{rs:List bB}{args:List I}{os:List (Nat×aj)}{post:b9}(hf:P.funcs[f]?=some fn)(hcall:dZ P f=true)(hc:(fn.body.bind (dY P fn.ntmps))=some x)
  (hrs:gv P fn.results.toList=some rs) (hn:args.length≤fn.ntmps) (hn2:fn.ntmps≤1000000) (hos:∀ m,aC os m=true→1000000≤m) (h:I.fB args→∀ (w:World) (D:aH) (E:aN),U ⟨P,w,D,fn.ntmps,bU E,E,fO,none,none⟩ x (nz rs post) (aw (bH 0 args) os)):eW P f args os post :=
 eW.CE (jo.bS hf hcall hc hrs hn hn2 hos h)
theorem vI{A:ae} : ∀ n x,aD [] n=some x→A.o n=some x∧x.only (aC [])=true∧x.eB=true:=fun n x h=>by simp[aD] at h
theorem oF{A:ae}{k:Nat}{c:I}(h1:A.o k=some (.box c))(h2:∀ p,c.only p=true):∀ n x,aD [(k,.box c)] n=some x→A.o n=some x∧x.only (aC [(k,.box c)])=true∧x.eB=true:=fun n x h=>by
 simp only[aD] at h;split at h
 ·rename_i hn;subst hn;simp only[v6] at h;subst h;exact ⟨h1,h2 _,rfl⟩
 ·cases h
theorem dL.nil{aE:Bool}{ρ:List (Nat×Nat)}{os0:List (Nat×aj)}{r:I}(h1:∀ p,r.only p=true)(h2:aE=true→r.de=true):dL aE ρ [] os0 r [] :=
 ⟨fun m x h=>by simp[aD] at h,fun m m' h=>by simp[aC,aD] at h,fun m h=>by simp[aC,aD] at h,fun m h=>by simp[aC,aD] at h,h1 _,h2⟩
theorem gh{k:Nat}{x:aj}{m:Nat} : aC [(k,x)] m=true↔m=k:=by
 simp only[aC,aD];split <;>simp_all
theorem dL.sV{aE:Bool}{k d:Nat}{os0:List (Nat×aj)}{r c:I}(h1:∀ p,c.only p=true)(h2:aE=true→c.de=true)(h3:r.only (aC [(k,.box c)])=true)(h4:aE=true→r.de=true)(h5:aD os0 d=none)(h6:d<1000000):dL aE [(k,d)] [] os0 r [(k,.box c)]:=by
 refine ⟨fun m x h =>?_,fun m m' h h' _ =>?_,fun m h=>by simp[aC,aD] at h,fun m h _ =>?_,h3,h4⟩
 ·simp only[aD] at h;split at h
  ·simp only[v6] at h;subst h;exact ⟨h1 _,rfl,h2⟩
  ·cases h
 ·rw[gh.1 h,gh.1 h']
 ·rw[gh.1 h];simp[bo,h5,h6]
theorem eX.nil{ρ:List (Nat×Nat)}{os0:List (Nat×aj)} : eX ρ [] os0:=⟨fun m x h=>by simp[aD] at h,fun m m' h=>by simp[aC,aD] at h⟩
mutual
theorem qJ(ρ:Nat→Nat):∀ x:I,x.bC=true→x.aT ρ=x
 | .agg fs,h=>by simp only[I.aT,I.bC] at *;rw[ny ρ fs h]
 | .slice _ es,h=>by simp only[I.aT,I.bC] at *;rw[ny ρ es h]
 | .ref x,h=>by simp only[I.aT,I.bC] at *;rw[qJ ρ x h]
 | .func _ caps,h=>by simp only[I.aT,I.bC] at *;rw[ny ρ caps h]
 | .iface _ v,h=>by simp only[I.aT,I.bC] at *;rw[qJ ρ v h]
 | .bool _,_ | .int _ _,_ | .ak _,_ | .nilp,_ | .di,_ | .cU,_ | .any,_ | .raw _,_ | .nils _,_ | .c0 _,_=>by simp only[I.aT]
 | .da ks vs,h=>by simp only[I.aT,I.bC,Z7] at *;rw[ny ρ ks h.1,ny ρ vs h.2]
 | .ptr _ _,h | .own _ _,h | .view _ _ _ _ _,h | .mref _,h | .c8 _,h | .undef,h | .dc,h | .tuple _,h=>by simp[I.bC] at h
theorem ny(ρ:Nat→Nat):∀ xs:List I,I.cv xs=true→I.db ρ xs=xs
 | [],_=>rfl
 |x::xs,h=>by
  simp only[I.cv,Z7] at h;simp only[I.db,qJ ρ x h.1,ny ρ xs h.2]
end
theorem kP :
  (∀ (k:IntKind) n (ρ:Nat→Nat),(I.int k n).aT ρ=.int k n)∧(∀ (b:Bool) (ρ:Nat→Nat),(I.bool b).aT ρ=.bool b)∧(∀ n p (ρ:Nat→Nat),(I.ptr n p).aT ρ=.ptr (ρ n) p) ∧
  (∀ n p sz lo k (ρ:Nat→Nat),(I.view n p sz lo k).aT ρ=.view (ρ n) p sz lo k)∧(∀ fs (ρ:Nat→Nat),(I.agg fs).aT ρ=.agg (I.db ρ fs))∧(∀ fs (ρ:Nat→Nat),(I.tuple fs).aT ρ=.tuple (I.db ρ fs))∧(∀ f fs (ρ:Nat→Nat),(I.func f fs).aT ρ=.func f (I.db ρ fs)) ∧
  (∀ ρ:Nat→Nat,I.db ρ []=[])∧(∀ (ρ:Nat→Nat) x xs,I.db ρ (x::xs)=x.aT ρ::I.db ρ xs)∧(∀ (ρ:Nat→Nat) (x:I),(aj.box x).aT ρ=.box (x.aT ρ)) ∧
  (∀ (z:Nat) (ρ:Nat→Nat),(I.nils z).aT ρ=.nils z)∧(∀ (z:Nat) (ρ:Nat→Nat),(I.c0 z).aT ρ=.c0 z) ∧
  (∀ n,bo [] n=n)∧(∀ a b r n,bo ((a,b)::r) n=if n=a then b else bo r n)∧(∀ ρ,df ρ []=[])∧(∀ ρ k x os,df ρ ((k,x)::os)=(bo ρ k,x.aT (bo ρ))::df ρ os) :=
 ⟨fun _ _ _=>by simp only[I.aT],fun _ _=>by simp only[I.aT],fun _ _ _=>by simp only[I.aT],fun _ _ _ _ _ _=>by simp only[I.aT],fun _ _=>by simp only[I.aT],fun _ _=>by simp only[I.aT],fun _ _ _=>by simp only[I.aT],
  fun _=>rfl,fun _ _ _=>by simp only[I.db],fun _ _=>rfl,fun _ _=>by simp only[I.aT],fun _ _=>by simp only[I.aT],fun _=>rfl,fun _ _ _ _=>rfl,fun _=>rfl,fun _ _ _ _=>rfl⟩
section
variable {α:Type} [Enc α]
theorem iQ(ρ:Nat→Nat)(x:α):(enc x).aT ρ=enc x:=qJ ρ _ (kz x)
theorem kQ(ρ:Nat→Nat)(l:List α):I.db ρ (l.map enc)=l.map enc:=ny ρ _ (pW l)
theorem kW(A:ae)(esz:Nat)(l:List α)(hs:Enc.sz α=esz):c7 A esz (enc l)=some (l.map enc):=by
 simp only[gM,c7,hs,if_true]
theorem tU(l:List α):jm (enc l)=l.isEmpty:=by
 simp only[gM,jm];cases l <;>rfl
theorem Cx(neg:Bool)(l:List α)(h:l≠[]):oS neg (enc l)=some (.bool neg):=by
 simp only[gM,oS];cases l with
 |nil=>exact absurd rfl h
 |cons=>rfl
section
variable {P:Program} {Y:Value→List I→List (Nat×aj)→b9→Prop} {K:ae→Prop} {A:ae} {rest:List au} {d:Nat} {e esz bytes:Nat} {q:Nat}
theorem aZ.uy(z:α){l:List α}(hs:Enc.sz α=esz)(hl:l≠[])(hf:A.o d=none)(hb:l.length*bytes≤140737488355328)(hml:l.length≤maxLen)
  (h:∀ m,aZ P Y false K (al rest ((A.aQ d (.box (.agg ((l++List.replicate m z).map enc)))).aP (some d) (.view d [] esz 0 l.length)))):aZ P Y false K (eY A (some d) e esz bytes (enc z) (enc l) rest (.c0 q)):=by
 have hne:l.map (enc (α:=α))≠[]:=by simpa using hl
 have h1:c7 A esz (.c0 q)=some []:=rfl;simp only[eY,h1,kW A esz l hs,ep,if_neg hne,fb,hf,zw2,zz5,Z9,if_pos (y6 hb hml),zy3];refine .any rfl fun m _ =>?_;have:=h m;simp only[zx5,List.map_replicate] at this;exact this
theorem yD(z:I)(hs:Enc.sz α=esz):eY A (some d) e esz bytes z (enc ([]:List α)) rest (.c0 q)=al rest (A.aP (some d) (.c0 q)):=by
 have h1:c7 A esz (.c0 q)=some []:=rfl;simp only[eY,h1,kW A esz ([]:List α) hs,ep,zy5,if_true]
theorem W9(esz:Nat)(z:I)(x:ay)(rest:List au)(A:ae):bm A none (.jv esz z x) rest=oj A esz z (al rest) (ah A x):=rfl
theorem Fj{n:Nat}{p:List Nat}{sz k total i:Nat}(h:i≤total)(h0:0<total):iX n p sz 0 k total none (some (.int .i64 i)) none=some (.view n p sz 0 i):=by
 simp only[iX,gJ];rw[if_pos ⟨by omega,by omega,by omega⟩,if_neg (by omega)];simp
theorem mB{n:Nat}{p:List Nat}{sz k total i:Nat}(h:i≤k)(hk:k≤total)(h0:i<total):iX n p sz 0 k total (some (.int .i64 i)) none none=some (.view n p sz i (k-i)):=by
 simp only[iX,gJ];rw[if_pos ⟨by omega,by omega,by omega⟩,if_neg (by omega)];simp
theorem VO{m:Nat}{p:List Nat}{sz lo l j:Nat}{fs:List I}(h:j<l):mW m p sz lo l sz (j:Int) (some fs)=some (.ptr m (p++[lo+j])):=by
 simp only[mW,true_and];rw[if_pos ⟨by omega,by omega⟩];simp
theorem oA{sz k:Nat}{xs:List α}(hs:Enc.sz α=sz):jU sz 0 k (some (xs.map enc))=some (enc (xs.take k)):=by
 have h:((xs.map (enc (α:=α))).drop 0).take k=(xs.take k).map enc:=by rw[List.drop_zero,List.map_take]
 simp only[jU,h];rw[if_pos (pW _),gM,hs]
end
end
theorem vL(A:ae)(esz m:Nat)(p:List Nat)(sz lo l:Nat)(k:Int):ji A esz k (.view m p sz lo l)=mW m p sz lo l esz k (ev (dN p (A.o m))):=rfl
theorem qp(A:ae)(m:Nat)(p:List Nat)(sz lo l:Nat):j0 A (.view m p sz lo l)=some (.int .i64 l):=rfl
theorem xp(A:ae)(esz:Nat)(lo hi mx:Option I)(n:Nat)(p:List Nat)(l0 k:Nat):iJ A esz lo hi mx (.view n p esz l0 k)=lU n p esz l0 k esz lo hi mx (ev (dN p (A.o n))):=rfl
theorem xq(n:Nat)(p:List Nat)(sz l0 k:Nat)(lo hi mx:Option I)(fs:List I):lU n p sz l0 k sz lo hi mx (some fs)=iX n p sz l0 k fs.length lo hi mx:=by simp[lU]
theorem gV :
  (∀ A esz m p sz lo l k,ji A esz k (.view m p sz lo l)=mW m p sz lo l esz k (ev (dN p (A.o m))))∧(∀ A m p sz lo l,j0 A (.view m p sz lo l)=some (.int .i64 l)) ∧
  (∀ A esz lo hi mx n p l0 k,iJ A esz lo hi mx (.view n p esz l0 k)=lU n p esz l0 k esz lo hi mx (ev (dN p (A.o n))))∧(∀ n p sz l0 k lo hi mx fs,lU n p sz l0 k sz lo hi mx (some fs)=iX n p sz l0 k fs.length lo hi mx) ∧
  (∀ esz z x rest A,bm A none (.jv esz z x) rest=oj A esz z (al rest) (ah A x))∧(∀ rest A d esz,bm A d (.bs0 esz) rest=al rest (A.aP d (.c0 esz))) :=
 ⟨vL,qp,xp,xq,W9,fun _ _ _ _=>rfl⟩
theorem kb(rs:List bB)(post:b9)(A:ae):nz rs post .ret A=jd rs post A:=rfl
theorem YO(rs:List bB)(post:b9)(A:ae):nz rs post .normal A=jd rs post A:=rfl
theorem bx.jV{ts:List (Nat×I)}{os0:List (Nat×aj)}(ns:List Nat)(d:Nat){x y:I}(hd:cj ts d=x)(h:bf true (aw ts (jA ns os0)) x=some y)(ho:bI (fun n => !ns.contains n) (cZ ns os0)) :
  bx (aw ts os0) (aw ((d,y)::gb ns ts) (cZ ns os0)):=by
 rintro c a w ⟨D,E,hs⟩;obtain ⟨D1,E1,hs1,hw⟩:=hs.freeze ns ho;have hu:dE (aw ts (jA ns os0)) (aw ts os0):=fun n z hz=>by
  simp only[aw,oP] at hz ⊢;split at hz
  ·exact hz
  ·cases hz
 have hx:x.cC=true:=by cases x <;>first | rfl | simp[bf] at h
 have ab:=hs.dK d;simp only[aw] at ab;rw[hd] at ab;have h1:ao w D E [x] [a.tmps.getD d undef]:=kV [x] _ (.cons ab .nil) (by intro z hz;simp only[zx2] at hz;subst hz;exact hx);have h2:=lA (E':=E1) hs hu hw [x] [y] _ h1 (by simp only[bJ,h]);have h3:aR w D1 E1 y (a.tmps.getD d undef):=by
  simp only[ao] at h2;obtain ⟨v',rest,cs,e,k1,k2,_⟩:=h2;simp only[zy7] at e;obtain ⟨e1,_⟩:=e;rw[e1];exact fG k1 k2
 refine ⟨D1,E1,hs1.sz,hs1.er,fun t =>?_,hs1.dn,hs1.cO,hs1.cS,hs1.bD,hs1.cD,hs1.dG,hs1.eN,hs1.cE,hs1.eV,hs1.fy⟩;simp only[aw,cj];split
 ·rename_i ht;subst ht;exact h3
 ·exact hs1.dK t
theorem bx.oD{ts ts':List (Nat×I)}{os0 os':List (Nat×aj)}(ns:List Nat)(d:Nat){x y:I}(hd:cj ts d=x)(h:bf true (aw ts (jA ns os0)) x=some y)(ho:bI (fun n => !ns.contains n) (cZ ns os0))
  (h1:bV ((d,y)::gb ns ts) ts') (h2:b7 (cZ ns os0) os') (h3:b6 (aC os') ts') (h4:bI (aC os') os'):bx (aw ts os0) (aw ts' os') :=
 (bx.jV ns d hd h ho).trans (bx.cQ h1 h2 h3 h4)
theorem U.ZM{c:ct}{Q:Exit→ae→Prop}{A:ae}{x:bj}(T:ae)(h1:U c x (cT (fun B=>bx B T) fun _ _=>False) A)(h2:∀ B,bx B T→Q .normal B):U c x Q A :=
 h1.mono fun e B hq=>by
  cases e <;>simp only[cT] at hq <;>first
   |exact h2 B hq
   |exact hq.elim
theorem Yp{w:World}{D:aH}{E:aN}{p:List Nat}{c x y:I}{cs:List Value}(hr:af w D E c cs)(h:c.at p=some x)(hxy:∀ ds,af w D E x ds→af w D E y ds)(hs:y.aL=x.aL):af w D E (c.dI p y) cs∧(c.dI p y).aL=c.aL:=by
 obtain ⟨off,c1,c2,c3,h1,rfl,h2,h3⟩:=wS p c x cs hr h;obtain ⟨off',k1,k2,k3,k4⟩:=tl p c x y _ c2 hr h (hxy c2 h3) hs;rw[h1,v6] at k1;subst k1;refine ⟨?_,k4⟩;have e:(c1++c2++c3).take off++c2++(c1++c2++c3).drop (off+c2.length)=c1++c2++c3:=by
  rw[zz0 c1 c2 c3,←h2,List.take_left,List.drop_length_add_append,List.drop_left,zz0]
 rw[←e];exact k3
theorem bx.GQ{A:ae}{m n T sz z:Nat}{p:List Nat}{b:I}(hm:A.o m=some (.box b))(hp:b.at p=some (.nils z))(hn:A.o n=none)(hlt:n<1000000):bx A ((A.aQ n (.bF T sz [])).aQ m (.box (b.dI p (.own n 0)))):=by
 rintro c a w ⟨D,E,h⟩;have aq:E n=none:=by have:=h.bD n;rw[hn] at this;exact this
 have hmn:m≠n:=fun e=>by rw[e,hn] at hm;cases hm
 have hl:dy w D E w D (fun m=>if m=n then some (.rw none 0) else E m):=by
  have eI:∀ {m:Nat} {e:bw},E m=some e→(if m=n then some (.rw none 0) else E m)=some e:=fun {m e} he=>by
   have:m≠n:=fun e=>by rw[e,aq] at he;cases he
   rw[if_neg this];exact he
  refine ⟨fun _ _ h=>h,fun _ _ _ _ h=>h,fun m b aL he=>eI he,fun m aB l he =>?_,fun m b he=>eI he,fun m b he=>eI he,fun _ _ _ _ h=>h⟩
  ·have:m≠n:=fun e=>by rw[e,aq] at he;cases he
   exact ⟨aB,l,by simp only[if_neg this];exact he,zz2 _,fun _=>rfl⟩
 refine ⟨D,fun m=>if m=n then some (.rw none 0) else E m,h.sz,h.er,fun t=>aR.later hl (h.dK t),h.dn,h.cO,h.cS,fun k =>?_,fun m m' e e' b h1 h2 h3 h4 =>?_,fun m e hm =>?_,h.eN,h.cE,h.eV,h.fy⟩
 ·simp only[ae.aQ];by_cases hk:k=m
  ·subst hk;have ho:=h.bD k;rw[hm] at ho;obtain ⟨b',cs,T',h1,h2,h3,h4,h5⟩:=ho;obtain ⟨q1,q2⟩:=Yp (y:=.own n 0) (af.later hl _ _ h4) hp (fun ds hd=>by
    simp only[af] at hd;subst hd;simp only[af,if_true];exact ⟨none,0,rfl,zz2 _,⟨_,_,_,rfl⟩,fun _=>trivial⟩) rfl
   simp only[if_true,c6];exact ⟨b',cs,T',by rw[q2];simp only[if_neg hmn];exact h1,h2,h3.aL q2,q1,h5⟩
  ·simp only[if_neg hk];by_cases hkn:k=n
   ·subst hkn;simp only[if_true,c6];exact ⟨none,by simp,by simp,trivial⟩
   ·simp only[if_neg hkn];exact (h.bD k).later hl (by simp only[if_neg hkn]) fun _ _ _ _=>⟨rfl,fun _ ho=>ho⟩
 ·by_cases hm:m=n <;>by_cases hm':m'=n
  ·rw[hm,hm']
  ·simp only[if_pos hm,v6] at h1;subst h1;simp[bw.aB] at h3
  ·simp only[if_pos hm',v6] at h2;subst h2;simp[bw.aB] at h4
  ·simp only[if_neg hm] at h1;simp only[if_neg hm'] at h2;exact h.cD m m' e e' b h1 h2 h3 h4
 ·have hmn:m≠n:=fun e=>by rw[e,h.jx (.inr hlt)] at hm;cases hm
  simp only[if_neg hmn];exact h.dG m e hm
theorem bx.GR{ts:List (Nat×I)}{os:List (Nat×aj)}(m n T sz z:Nat)(p:List Nat)(b:I)(hm:aD os m=some (.box b))(hp:b.at p=some (.nils z))(hn:aD os n=none){B:ae}(h:bx (aw ts ((m,.box (b.dI p (.own n 0)))::(n,.bF T sz [])::os)) B)(hlt:n<1000000:=by decide):bx (aw ts os) B :=
 ((bx.GQ (A:=aw ts os) (T:=T) (sz:=sz) hm hp hn hlt).trans (by rw[sO,sO];exact bx.refl _)).trans h
mutual
theorem jI{p q:Nat→Bool}(h:∀ n,p n=true→q n=true):∀ x:I,x.only p=true→x.only q=true
 | .agg fs,hx | .tuple fs,hx=>by simp only[I.only] at *;exact j7 h fs hx
 | .slice _ es,hx=>by simp only[I.only] at *;exact j7 h es hx
 | .ref x,hx=>by simp only[I.only] at *;exact jI h x hx
 | .func _ caps,hx=>by simp only[I.only] at *;exact j7 h caps hx
 | .iface _ v,hx=>by simp only[I.only] at *;exact jI h v hx
 | .ptr _ _,hx | .own _ _,hx | .view _ _ _ _ _,hx | .mref _,hx | .c8 _,hx=>by simp only[I.only] at *;exact h _ hx
 | .da ks vs,hx=>by simp only[I.only,Z7] at *;exact ⟨j7 h ks hx.1,j7 h vs hx.2⟩
 | .bool _,_ | .int _ _,_ | .ak _,_ | .nilp,_ | .di,_ | .cU,_ | .any,_ | .raw _,_ | .nils _,_ | .c0 _,_ | .undef,_ | .dc,_=>by simp[I.only]
theorem j7{p q:Nat→Bool}(h:∀ n,p n=true→q n=true):∀ xs:List I,I.cI p xs=true→I.cI q xs=true
 | [],_=>rfl
 |x::xs,hx=>by
  simp only[I.cI,Z7] at *;exact ⟨jI h x hx.1,j7 h xs hx.2⟩
end
theorem aj.jI{p q:Nat→Bool}(h:∀ n,p n=true→q n=true)(x:aj)(hx:x.only p=true):x.only q=true:=by
 cases x with
 |box y=>simp only[aj.only] at *;exact Abs.jI h y hx
 |bF T sz es=>simp only[aj.only] at *;exact j7 h es hx
 |dm o=>rfl
 |dW T xs=>rfl
 |cn ks vs=>simp only[aj.only,Z7] at *;exact ⟨j7 h ks hx.1,j7 h vs hx.2⟩
 |it ks vs left cur=>simp only[aj.only,Z7] at *;exact ⟨j7 h ks hx.1,j7 h vs hx.2⟩
theorem VQ{x:I}(h:x.bC=true):x.cC=true:=by
 cases x <;>first | rfl | simp[I.bC] at h
theorem yG{aE:Bool}{A0:ae}{ρ:List (Nat×Nat)}{os:List (Nat×aj)} : ∀ xs:List I,I.cv xs=true→gr aE A0 ρ os xs xs
 | [],_=>trivial
 |x::xs,h=>by
  simp only[I.cv,Z7] at h;exact ⟨.inl ⟨(qJ _ x h.1).symm,mq _ x h.1,VQ h.1⟩,yG xs h.2⟩
structure fC (os os':List (Nat×aj)):Prop where
 same:∀ m,aC os' m=aC os m
 ok:∀ m x,aD os' m=some x→x.only (aC os')=true∧x.eB=true
 mc:∀ m,aC os m=true→1000000≤m
def bR(o:Obj)(os:List (Nat×aj)):List (Nat×aj):=(1999999,.dm o)::os
theorem jZ(o:Obj)(os:List (Nat×aj))(m:Nat):aC (bR o os) m=(decide (m=1999999)||aC os m):=by
 simp only[bR,aC,aD];by_cases h:m=1999999 <;>simp[h]
theorem oQ(o:Obj)(os:List (Nat×aj))(m:Nat):aD (bR o os) m=if m=1999999 then some (.dm o) else aD os m:=rfl
theorem fC.bR{os os':List (Nat×aj)}(h:fC os os')(o o':Obj):fC (bR o os) (bR o' os'):=by
 refine ⟨fun m=>by rw[jZ,jZ,h.same],fun m x hx =>?_,fun m hm =>?_⟩
 ·rw[oQ] at hx;split at hx
  ·cases hx;exact ⟨rfl,rfl⟩
  ·obtain ⟨h1,h2⟩:=h.ok m x hx;exact ⟨x.jI (fun n hn=>by rw[jZ,hn];simp) h1,h2⟩
 ·rw[jZ] at hm;simp only[Bool.or_eq_true,decide_eq_true_eq] at hm;rcases hm with rfl | hm
  ·decide
  ·exact h.mc m hm
def tg:List Nat→List I→List (Nat×I)→List (Nat×I)
 |p::ps,v::vs,ts=>tg ps vs ((p,v)::ts)
 |_,_,ts=>ts
def mC(ρ:List (Nat×Nat))(p:Nat→Bool)(ts:List (Nat×I)):List (Nat×I)→Prop
 | []=>True
 |(k,v)::r=>cj ts k=v.aT (bo ρ)∧v.only p=true∧mC ρ p ts r
theorem Fl{ρ:List (Nat×Nat)}{p:Nat→Bool}{ts:List (Nat×I)} : ∀ {tsR:List (Nat×I)},mC ρ p ts tsR→∀ k,cj tsR k=.dc∨(cj ts k=(cj tsR k).aT (bo ρ)∧(cj tsR k).only p=true)
 | [],_,k=>.inl rfl
 |(j,v)::r,h,k=>by
  simp only[mC] at h;simp only[cj];split
  ·rename_i hk;subst hk;exact .inr ⟨h.1,h.2.1⟩
  ·exact Fl h.2.2 k
section
variable {c:ct} {a:Act} {w:World} {D:aH} {E:aN}
theorem aM.xk{A:ae}(h:aM c A a w D E){n b:Nat}{o o':Obj}(hn:A.o n=some (.dm o))(aq:E n=some (.op b))(ho:oI o'=true):aM c (A.aQ n (.dm o')) a (w.putObj b o') D E:=by
 have hob:=h.bD n;rw[hn] at hob;obtain ⟨b',k1,k2,k3,k4,k5⟩:=hob;rw[aq] at k1;cases k1;have hnc:o.isCells=false:=by cases o <;>first | rfl | cases k4
 have hlt:b<w.heap.size:=eR k3;have hl:dy w D E (w.putObj b o') D E:=⟨fun _ _ h=>h,fun b1 o1 v _ ab=>uR k3 hnc ab,fun _ _ _ h=>h,fun _ aB l h=>⟨aB,l,h,zz2 _,fun _=>rfl⟩,fun _ _ h=>h,fun _ _ h=>h,fun b1 es ck hd hm=>(World.putObj_heap_other (fun e1=>k5 0 (by rw[←e1];exact hd))).trans hm⟩
 refine ⟨h.sz,h.er.mono fun B _ hB=>(World.putObj_heap_other (fun e=>by rw[e,k3] at hB;cases hB;cases k4)).trans hB,fun t=>aR.later hl (h.dK t),h.dn.trans ⟨rfl,rfl,rfl,by simp,fun k hk=>World.putObj_heap_other (fun e=>hk (e▸k2))⟩,h.cO,
  fun b1 o1 hd=>by have:=h.cS b1 o1 hd;simpa using this,fun m =>?_,h.cD,h.dG,h.eN,h.cE,h.eV,h.kh hl⟩
 simp only[ae.aQ];by_cases hm:m=n
 ·subst hm;simp only[if_true,c6];exact ⟨b,aq,k2,World.putObj_heap_same hlt,ho,k5⟩
 ·simp only[if_neg hm];exact (h.bD m).later hl rfl fun e b1 he hb=>⟨World.putObj_heap_other (fun e1=>hm (h.cD m n e _ b1 he aq hb (by rw[e1];rfl))),fun _ ho=>ho⟩
theorem aM.Mm{A:ae}(h:aM c A a w D E){n b:Nat}(aq:E n=some (.op b)):aM c ⟨A.t,fun m=>if m=n then none else A.o m⟩ a w D (fun m=>if m=n then none else E m):=by
 have hne:∀ {m:Nat} {e:bw},E m=some e→(∀ b,e≠.op b)→m≠n:=fun he h2 e'=>by
  subst e';rw[aq] at he;cases he;exact h2 _ rfl
 have hl:dy w D E w D (fun m=>if m=n then none else E m):=by
  refine ⟨fun _ _ h=>h,fun _ _ _ _ h=>h,fun m b aL he =>?_,fun m aB l he=>⟨aB,l,?_,zz2 _,fun _=>rfl⟩,fun m b he =>?_,fun m b he =>?_,fun _ _ _ _ h=>h⟩
  ·simp only[if_neg (hne he (fun b=>by simp))];exact he
  ·simp only[if_neg (hne he (fun b=>by simp))];exact he
  ·simp only[if_neg (hne he (fun b=>by simp))];exact he
  ·simp only[if_neg (hne he (fun b=>by simp))];exact he
 refine ⟨h.sz,h.er,fun t=>aR.later hl (h.dK t),h.dn,h.cO,h.cS,fun m =>?_,fun m m' e e' b h1 h2 h3 h4 =>?_,fun m e hm =>?_,h.eN,h.cE,h.eV,h.fy⟩
 ·by_cases hm:m=n
  ·simp only[hm,if_true,c6]
  ·simp only[if_neg hm];exact (h.bD m).later hl (by simp only[if_neg hm]) fun _ _ _ _=>⟨rfl,fun _ ho=>ho⟩
 ·split at h1
  ·cases h1
  ·split at h2
   ·cases h2
   ·exact h.cD m m' e e' b h1 h2 h3 h4
 ·by_cases hmn:m=n
  ·left;simp only[hmn,if_true]
  ·simp only[if_neg hmn];exact h.dG m e hm
theorem aM.enter{ts:List (Nat×I)}{os0:List (Nat×aj)}(h:aM c (aw ts os0) a w D E)(hbase:c.dF=none)(hfree:aD os0 999999=none)(hE0:c.cu 999999=none){o:Obj}(ho:oI o=true) :
  ∃ E1,aM c (aw ts ((999999,.dm o)::os0)) { a with defers := { target:=.collected w.heap.size,args := #[] } :: a.defers } ((w.alloc (.deferred (some []))).alloc o) D E1∧E1 999999=some (.op (w.heap.size+1))∧∀ xs vs,ao w D E xs vs→ao ((w.alloc (.deferred (some []))).alloc o) D E1 xs vs:=by
 have hb:Below w.heap.size w ((w.alloc (.deferred (some []))).alloc o):=((Below.refl _ w).alloc (zz2 _) _).alloc (by simp) _;have h1:=h.grow (D':=D) hb (fun _ _ h=>h) (fun _ _ h _=>h) (fun b o' hd=>by have:=h.cS b o' hd;simp;omega);obtain ⟨W,hW⟩:∃ W,W=(w.alloc (.deferred (some []))).alloc o:=⟨_,rfl⟩
 have hL:W.heap[w.heap.size+1]?=some o:=by
  rw[hW];have:=World.alloc_heap_new (w.alloc (.deferred (some []))) o;rwa [World.size_alloc] at this
 have hK:W.heap[w.heap.size]?=some (.deferred (some [])):=by
  rw[hW];exact (Below.heap_alloc _ _ _ (by simp)).trans (World.alloc_heap_new w _)
 rw[←hW] at h1 hb ⊢;have hEn:E 999999=none:=by have:=h.bD 999999;simp only[aw,hfree] at this;exact this
 have hl:dy W D E W D (fun m=>if m=999999 then some (.op (w.heap.size+1)) else E m):=by
  refine ⟨fun _ _ h=>h,fun _ _ _ _ h=>h,fun m b aL he =>?_,fun m aB l he=>⟨aB,l,?_,zz2 _,fun _=>rfl⟩,fun m b he =>?_,fun m b he =>?_,fun _ _ _ _ h=>h⟩
  all_goals
   have:m≠999999:=fun e=>by rw[e,hEn] at he;cases he
   simp only[if_neg this];exact he
 have hsz:c.cW.heap.size≤w.heap.size:=h.dn.size;have nb:∀ {m:Nat} {e:bw} {b:Nat},E m=some e→e.aB=some b→b<w.heap.size:=fun he hb'=>h.fp he hb';refine ⟨fun m=>if m=999999 then some (.op (w.heap.size+1)) else E m,⟨h1.sz,?_,fun t=>aR.later hl (h1.dK t),h1.dn,h1.cO,h1.cS,fun m =>?_,fun m m' e e' b g1 g2 g3 g4 =>?_,fun m e hm =>?_,h1.eN,h1.cE,h1.eV,h1.fy⟩,by simp,fun xs vs hx=>ao.later hl xs vs (ao.later (dy.grow hb fun _ _ h=>h) xs vs hx)⟩
 ·have hdf:=h1.er;rw[hbase] at hdf ⊢;obtain ⟨Bs,k1,k2,k3⟩:=hdf;refine ⟨w.heap.size::Bs,by simp only[zz1];rw[←k1],List.nodup_cons.2 ⟨fun hin =>?_,k2⟩,fun B hB =>?_⟩
  ·have hdf':=h.er;rw[hbase] at hdf';obtain ⟨Bs',j1,_,j3⟩:=hdf';have e1:Bs=Bs':=by
    have:Bs.map (fun B=>({ target:=.collected B,args := #[] } : Deferred))=Bs'.map (fun B => { target:=.collected B,args := #[] }):=by rw[←k1,←j1]
    exact (List.map_inj_right (fun x y hxy=>by simpa using hxy)).1 this
   rw[e1] at hin;have:=eR (j3 _ hin).2;omega
  ·rcases zy8.1 hB with rfl | hB
   ·exact ⟨hsz,hK⟩
   ·exact k3 B hB
 ·simp only[aw,aD];by_cases hm:m=999999
  ·subst hm;simp only[if_true,c6];exact ⟨_,rfl,.inl (by omega),hL,ho,fun o' hd=>by have:=h.cS _ o' hd;omega⟩
  ·simp only[if_neg hm];exact (h1.bD m).later hl (by simp only[if_neg hm]) fun _ _ _ _=>⟨rfl,fun _ ho=>ho⟩
 ·by_cases hm:m=999999 <;>by_cases hm':m'=999999
  ·rw[hm,hm']
  ·simp only[if_pos hm,v6] at g1;simp only[if_neg hm'] at g2;subst g1;simp only[bw.aB,v6] at g3;have:=nb g2 g4;omega
  ·simp only[if_neg hm] at g1;simp only[if_pos hm',v6] at g2;subst g2;simp only[bw.aB,v6] at g4;have:=nb g1 g3;omega
  ·simp only[if_neg hm] at g1;simp only[if_neg hm'] at g2;exact h.cD m m' e e' b g1 g2 g3 g4
 ·have hmn:m≠999999:=fun e=>by rw[e,hE0] at hm;cases hm
  simp only[if_neg hmn];exact h.dG m e hm
theorem c6.jE{M M':Nat→Prop}{n:Nat}{x:Option aj}(h:c6 M w D E n x)(hM:∀ e b,E n=some e→e.aB=some b→M' b):c6 M' w D E n x:=by
 unfold c6 at *;split
 ·exact h
 ·obtain ⟨b,cs,T,h1,_,h3⟩:=h;exact ⟨b,cs,T,h1,hM _ b h1 rfl,h3⟩
 ·obtain ⟨aB,h1,h2,h3⟩:=h;refine ⟨aB,h1,h2,?_⟩;split
  ·exact h3
  ·obtain ⟨cs,pre,rest,_,h4⟩:=h3;exact ⟨cs,pre,rest,hM _ _ h1 rfl,h4⟩
 ·obtain ⟨b,h1,_,h3⟩:=h;exact ⟨b,h1,hM _ b h1 rfl,h3⟩
 ·obtain ⟨b,es,ck,h1,_,h3⟩:=h;exact ⟨b,es,ck,h1,hM _ b h1 rfl,h3⟩
 ·obtain ⟨r,b,es,ck,ea,se,la,h1,_,h3⟩:=h;exact ⟨r,b,es,ck,ea,se,la,h1,hM _ r h1 rfl,h3⟩
 ·obtain ⟨aB,h1,h2,h3⟩:=h;refine ⟨aB,h1,h2,?_⟩;split
  ·exact h3
  ·obtain ⟨cs,m,_,h4⟩:=h3;exact ⟨cs,m,hM _ _ h1 rfl,h4⟩
theorem aM.Df{os:List (Nat×aj)} : ∀ (ps:List Nat) (vs:List Value) (xs:List I) (ts:List (Nat×I)) (a:Act),aM c (aw ts os) a w D E→(∀ p∈ps,p<c.n)→ao w D E xs vs→ps.length=vs.length →
  aM c (aw (tg ps xs ts) os) { a with tmps:=(ps.zip vs).foldl (fun t q=>t.setIfInBounds q.1 q.2) a.tmps } w D E
 | [],[],xs,ts,a,h,_,ab,_=>by
  cases xs with
  |nil=>exact h
  |cons x xs=>simp[ao] at ab
 | [],_::_,_,_,_,_,_,_,hl=>by simp at hl
 |_::_,[],_,_,_,_,_,_,hl=>by simp at hl
 |p::ps,v::vs,xs,ts,a,h,hp,ab,hl=>by
  cases xs with
  |nil=>simp[ao] at ab
  |cons x xs =>
   simp only[ao] at ab;obtain ⟨v',rest,cs,e,h1,h2,h3⟩:=ab;simp only[zy7] at e;obtain ⟨rfl,rfl⟩:=e;have h4:=h.put (hp p (by simp)) (fG h1 h2);rw[wc] at h4;have:=aM.Df ps vs xs ((p,x)::ts) (a.put (some p) v) h4 (fun q hq=>hp q (by simp[hq])) h3 (by simpa using hl);exact this
end
end Go.Abs
namespace Go.Abs
open Go Go.RowKit
def iK:bt→Bool
 | .mv _ | .pick .. | .bin .. | .eqv .. | .conv .. | .un .. | .fl .. | .ix .. | .lenT _ | .bld .. | .ext .. | .mk .. | .nilC _ | .ptrE .. | .max2 .. | .prim .. =>true
 | .ld .. | .fa .. | .ia .. | .is .. | .len _ | .va .. | .bs .. | .sl .. | .cap _ | .bs0 _ | .lk .. | .b2s _=>true
 |_=>false
def tc:bt→Bool
 | .alloc _ | .box _ | .aV .. | .call .. | .fq .. | .dM .. | .eO _=>true
 |op=>iK op
def oN(hs:List FuncId):bt→Bool
 | .alloc _ | .box _ | .eO _=>true
 | .call f _ => !hs.contains f
 |op=>iK op
abbrev ej:=List (Nat×List Nat)
def hU(av:ej)(s:Nat):Option (List Nat):=(av.find? fun q=>q.1==s).map (·.2)
def dP(av:ej)(A:ae):Prop:=∀ s ns,hU av s=some ns→(A.t s).only (fun n=>ns.contains n)=true
def oK(av:ej):ay→Option (List Nat)
 | .t s=>hU av s
 | .c x=>if x.bC then some [] else none
def qZ(a:Option (List Nat))(ns:List Nat):Bool:=match a with
 |some ms=>ms.all fun m=>ns.contains m
 |none=>false
def iA(av:ej)(g:au):Bool:=match g.dst with
 |none=>true
 |some d=>match hU av d with
  |none=>true
  |some ns=>match g.op with
   | .mv x | .nilC x | .fa _ _ x | .ia _ _ x _=>qZ (oK av x) ns
   | .bin .. | .len _ | .bs .. | .bs0 _ | .conv .. | .lenT _ | .prim .. | .b2s _=>true
   | .box _ | .alloc _ | .eO _=>ns.contains d
   | .is _ x _ | .ld _ x=>qZ (oK av x) []
   |_=>false
def mh:bt→Option (List Nat)
 | .ld _ (.t x) | .fa _ _ (.t x) | .ia _ _ (.t x) _ | .is _ (.t x) _ | .len (.t x) | .va _ _ (.t x) | .sl _ (.t x) _ _ _ | .cap (.t x) | .lk _ _ _ (.t x) _ | .b2s (.t x)=>some [x]
 | .bs _ _ ps=>if (ps.all fun x=>match x with | .t _=>true | .c _=>false)=true then some (iY ps) else none
 | .bs0 _=>some []
 |op=>if op.fY=0∧iK op=true then some [] else none
def rG(av:ej)(g:au)(p:Nat→Bool):Bool:=match mh g.op with
 |some xs=>xs.all fun s=>match hU av s with | some ns=>ns.all p | none=>false
 |none=>false
def nq(hs:List FuncId)(av:ej)(g h:au):Bool:=oN hs h.op||match h.op with
 | .aV _ (.t y) _=>match mh g.op with
  |some []=>true
  |_=>match hU av y with
   |some ms=>rG av g fun n => !ms.contains n
   |none=>false
 | .aV .. =>match mh g.op with
  |some []=>true
  |_=>false
 | .dM _ _ _ _ s _=>rG av g (fun _=>false)||qZ (oK av s) []
 |_=>false
def mV(hs:List FuncId)(av:ej)(g h:au):Bool:=iK g.op&&(nq hs av g h&&((match g.dst with
  |some d => !h.cz.contains d&&h.dst != some d
  |none=>true)&&(match h.dst with
  |some d => !g.cz.contains d
  |none=>true)))
theorem vD{op:bt}(h:iK op=true)(A:ae)(dst:Option Nat)(rest:List au)(k:ae→bZ):aX A dst op rest k=cq (aY A op) fun v=>k (A.aP dst v):=by
 cases op <;>first | rfl | cases h
inductive bM (P:Program) (Y:Value→List I→List (Nat×aj)→b9→Prop) (hs:List FuncId) (K:ae→Prop):bZ→Prop where
 |done {A:ae} : K A→bM P Y hs K (.done A)
 |flat {f:FuncId} {avs cargs:List I} {a2:Option (List I)} {dst:Option Nat} {rest:List au} {A:ae} (r:I):aS P f cargs r→r.flat=true→bM P Y hs K (al rest (A.aP dst r))→bM P Y hs K (.call f avs (some cargs) a2 dst rest A)
 |lead {f:FuncId} {avs cargs:List I} {a1:Option (List I)} {dst:Option Nat} {rest:List au} {A:ae} (r:I):aS P f cargs r→bM P Y hs K (al rest (A.aP dst r))→bM P Y hs K (.call f avs a1 (some cargs) dst rest A)
 |bD {f:FuncId} {avs:List I} {a1 a2:Option (List I)} {dst:Option Nat} {rest:List au} {ts:List (Nat×I)} {os0:List (Nat×aj)} (ρ:List (Nat×Nat)) (cargs:List I) (post:b9):eW P f cargs [] post →
   eX ρ [] os0→gr false (aw ts os0) ρ [] avs cargs→(∀ r os',post r os'→dL false ρ [] os0 r os') →
   (∀ r os',post r os'→bM P Y hs K (al rest ((aw ts (df ρ os'++os0)).aP dst (r.aT (bo ρ)))))→bM P Y hs K (.call f avs a1 a2 dst rest (aw ts os0))
 |any {p:Nat→Prop} {k:Nat→bZ} : (∀ m,p m→bM P Y hs K (k m))→bM P Y hs K (.any p k)
 |wu {f:FuncId} {avs:List I} {a1 a2:Option (List I)} {dst:Option Nat} {rest:List au} {ts:List (Nat×I)} {os0:List (Nat×aj)} (aE:Bool) (ρ:List (Nat×Nat)) (os:List (Nat×aj)) (cargs:List I) (post:b9):hs.contains f=true→eW P f cargs os post →
   eX ρ os os0→gr aE (aw ts (cZ (iT ρ os) os0)) ρ os avs cargs→(∀ r os',post r os'→dL aE ρ os os0 r os') →
   (∀ r os',post r os'→bM P Y hs K (al rest ((aw ts (df ρ os'++os0)).aP dst (r.aT (bo ρ)))))→bM P Y hs K (.call f avs a1 a2 dst rest (aw ts os0))
 |ZX {v:Value} {avs:List I} {dst:Option Nat} {rest:List au} {ts:List (Nat×I)} {os0:List (Nat×aj)} (os:List (Nat×aj)) (cargs:List I) (post:b9):Y v cargs os post →
   eX [] os os0→gr false (aw ts (cZ (iT [] os) os0)) [] os avs cargs→(∀ r os',post r os'→dL false [] os os0 r os') →
   (∀ r os',post r os'→bM P Y hs K (al rest ((aw ts (df [] os'++os0)).aP dst (r.aT (bo [])))))→bM P Y hs K (.lu v avs dst rest (aw ts os0))
theorem Ml(os:List (Nat×aj)):cZ [] os=os:=by simp[cZ]
section
variable {P:Program} {hs:List FuncId} {K:ae→Prop} {Y:Value→List I→List (Nat×aj)→b9→Prop}
theorem bM.rE{p:Nat→Prop}{k:Nat→bZ}(h:bM P Y hs K (.any p k)):∀ m,p m→bM P Y hs K (k m):=by cases h;assumption
theorem dP.put{av:ej}{A B:ae}(h:dP av A)(ht:∀ k,B.t k=A.t k){dst:Option Nat}{v:I}(ab:∀ d,dst=some d→∀ ns,hU av d=some ns→v.only (fun n=>ns.contains n)=true):dP av (B.aP dst v):=by
 intro s ns hs';cases dst with
 |none=>exact (ht s).symm▸h s ns hs'
 |some d =>
  simp only[ae.aP,ae.put];by_cases hd:s=d
  ·rw[if_pos hd];exact ab d rfl ns (hd▸hs')
  ·rw[if_neg hd,ht];exact h s ns hs'
theorem nP{av:ej}{A:ae}(h:dP av A){x:ay}{ns:List Nat}(hx:qZ (oK av x) ns=true):(ah A x).only (fun n=>ns.contains n)=true:=by
 cases x with
 |c x =>
  simp only[oK] at hx;split at hx
  ·rename_i hc;exact mq _ x hc
  ·cases hx
 |t s =>
  simp only[oK] at hx;cases hl:hU av s with
  |none=>rw[hl] at hx;cases hx
  |some ms =>
   rw[hl] at hx;simp only[qZ,zx8] at hx;exact jI (fun n hn=>hx n (by simpa using hn)) _ (h s ms hl)
theorem HB{op:BinOp}{x y v:I}(p:Nat→Bool)(h:bG op x y=some v):v.only p=true:=by
 unfold bG at h
 (repeat' split at h) <;>first | (cases h;done) | (simp only[v6] at h;subst h;rfl)
theorem X9{q:uk}{xs:List I}{v:I}(p:Nat→Bool)(h:eF q xs=some v):v.only p=true:=by
 unfold eF at h
 (repeat' split at h) <;>first | (cases h;done) | (rename_i hc;simp only[v6] at h;subst h;simp only[I.only];exact mq _ _ hc.1) | (simp only[v6] at h;subst h;rfl) | (simp only[t7] at h;obtain ⟨_,_,rfl⟩:=h;rfl)
theorem Hi{x:Option (List I)}{v:I}(p:Nat→Bool)(h:lj x=some v):v.only p=true:=by
 unfold lj at h;split at h
 ·simp only[t7] at h;obtain ⟨_,_,rfl⟩:=h;rfl
 ·cases h
theorem td{p:Nat→Bool} : ∀ {xs:List I} {i:Nat} {x:I},I.cI p xs=true→xs[i]?=some x→x.only p=true
 | [],_,_,_,h=>by simp at h
 |a::xs,0,x,h,e=>by
  simp only[I.cI,Z7] at h;simp only[List.getElem?_cons_zero,v6] at e;exact e▸h.1
 |a::xs,i+1,x,h,e=>by
  simp only[I.cI,Z7] at h;exact td (xs:=xs) h.2 (by simpa using e)
theorem CM{av:ej}{A:ae}{g:au}(h:dP av A)(hg:iA av g=true){v:I}(ab:aY A g.op=some v):∀ d,g.dst=some d→∀ ns,hU av d=some ns→v.only (fun n=>ns.contains n)=true:=by
 intro d hd ns hn;obtain ⟨dst,op,gd⟩:=g;simp only at hd ab;subst hd;simp only[iA,hn] at hg;cases op <;>simp only at hg <;>(try (cases hg;done)) <;>simp only[aY] at ab <;>(try (cases ab;done))
 case mv x=>simp only[v6] at ab;exact ab▸nP h hg
 case nilC x =>
  have:=nP h hg;generalize ah A x=u at ab this;cases u <;>simp only[nd] at ab <;>first | (cases ab;done) | (simp only[v6] at ab;exact ab▸this)
 case bin op x y=>exact HB _ ab
 case conv k x=>split at ab <;>first | (cases ab;done) | (simp only[v6] at ab;subst ab;rfl)
 case prim p xs=>exact X9 _ ab
 case is esz x i =>
  have hx:=nP h hg;split at ab
  case h_2=>cases ab
  split at ab
  ·rename_i sz es he;rw[he] at hx;simp only[I.only] at hx;split at ab
   ·simp only[t7] at ab;obtain ⟨u,hu,rfl⟩:=ab;simp only[I.only];exact jI (fun n hn=>by simp at hn) _ (td hx hu)
   ·cases ab
  ·rename_i m l he;rw[he] at hx;simp[I.only] at hx
  ·rename_i m p sz lo l he;rw[he] at hx;simp[I.only] at hx
  ·cases ab
 case ld s x =>
  have hx:=nP h hg;split at ab
  case h_2=>cases ab
  rename_i u hu;split at ab
  case isFalse=>cases ab
  simp only[v6] at ab;subst ab;generalize ah A x=z at hx hu;cases z <;>simp only[bT] at hu <;>try (cases hu;done)
  ·simp only[v6] at hu;subst hu;simp only[I.only] at hx;exact jI (fun n hn=>by simp at hn) _ hx
  ·simp[I.only] at hx
 case b2s x=>exact Hi _ ab
 case lenT x=>split at ab <;>first | (cases ab;done) | (simp only[v6] at ab;subst ab;rfl)
 case len x=>(repeat' split at ab) <;>first | (cases ab;done) | (simp only[v6] at ab;subst ab;rfl)
 case bs0 e=>simp only[v6] at ab;subst ab;rfl
 case bs e ps =>
  split at ab
  ·split at ab
   ·rename_i hc;simp only[v6] at ab;subst ab;simp only[I.only];exact nm _ _ hc.2
   ·cases ab
  ·cases ab
 case fa f off x =>
  have hx:=nP h hg;split at ab
  ·rename_i fs he;rw[he] at hx;simp only[I.only] at hx;split at ab
   ·rename_i u hu;split at ab
    ·simp only[v6] at ab;subst ab;simp only[I.only];exact td hx hu
    ·cases ab
   ·cases ab
  ·rename_i n q he;rw[he] at hx;simp only[I.only] at hx;split at ab
   ·split at ab
    ·simp only[v6] at ab;subst ab;simpa only[I.only] using hx
    ·cases ab
   ·cases ab
  ·cases ab
 case ia n esz x i =>
  have hx:=nP h hg;split at ab
  case h_2=>cases ab
  split at ab
  case isFalse=>cases ab
  split at ab
  ·rename_i fs he;rw[he] at hx;simp only[I.only] at hx;split at ab
   ·simp only[t7] at ab;obtain ⟨u,hu,rfl⟩:=ab;simp only[I.only];exact td hx hu
   ·cases ab
  ·rename_i m q he;rw[he] at hx;simp only[I.only] at hx;split at ab
   ·split at ab
    ·simp only[v6] at ab;subst ab;simpa only[I.only] using hx
    ·cases ab
   ·cases ab
  ·cases ab
def ru(A:ae)(dst:Option Nat)(s:I)(B:ae):Prop:=(∀ t,dst≠some t→B.t t=A.t t)∧(s.only (fun _=>false)=true→dE A B)
def mH(A:ae)(dst:Option Nat)(s:I)(R:(ae→bZ)→bZ):Prop :=
 (∀ k,R k=.fail)∨(∃ B,(∀ k,R k=k B)∧ru A dst s B)∨∃ (p:Nat→Prop) (bl:Nat→ae),(∀ k,R k=.any p fun m=>k (bl m))∧∀ m,ru A dst s (bl m)
theorem qG{A B:ae}{dst:Option Nat}{v:I}{t:Nat}(ht:∀ k,B.t k=A.t k)(h:dst≠some t):(B.aP dst v).t t=A.t t:=by
 cases dst with
 |none=>exact ht t
 |some d =>
  have:t≠d:=fun e=>h (by rw[e]);simp only[ae.aP,ae.put,if_neg this];exact ht t
theorem G2(A:ae)(dst:Option Nat)(esz bytes:Nat)(z s:I)(es ys:List I):mH A dst s (fb A dst esz bytes z es ys):=by
 cases dst with
 |none=>exact .inl fun _=>rfl
 |some d =>
  cases ho:A.o d with
  |some y=>exact .inl fun k=>by simp only[fb,ho]
  |none =>
   by_cases hc:(es.length+ys.length)*bytes≤140737488355328∧es.length+ys.length≤maxLen
   ·refine .inr (.inr ⟨_,fun m=>(A.aQ d (.box (.agg (es++(ys++List.replicate m z))))).aP (some d) (.view d [] esz 0 (es.length+ys.length)),fun k=>by simp only[fb,ho];rw[if_pos hc],fun m=>⟨fun t ht=>qG (A:=A) (B:=A.aQ d _) (fun _=>rfl) ht,fun _ n y hy =>?_⟩⟩);have:n≠d:=fun e=>by rw[e,ho] at hy;cases hy
    rw[gR];simp only[ae.aQ,if_neg this];exact hy
   ·exact .inl fun k=>by simp only[fb,ho];rw[if_neg hc]
theorem G6(A:ae)(dst:Option Nat)(esz bytes:Nat)(z s:I)(es ys:Option (List I)):mH A dst s (ep A dst esz bytes z s es ys):=by
 cases es with
 |none=>exact .inl fun _=>rfl
 |some es =>
  cases ys with
  |none=>exact .inl fun _=>rfl
  |some ys =>
   by_cases h0:ys=[]
   ·exact .inr (.inl ⟨A.aP dst s,fun k=>by simp only[ep,if_pos h0],fun t ht=>qG (A:=A) (fun _=>rfl) ht,fun _ n y hy=>by rw[gR];exact hy⟩)
   ·have gg:=fun s'=>G2 A dst esz bytes z s' es ys;cases s
    case nils=>simp only[mH,ep,if_neg h0];exact gg _
    case c0=>simp only[mH,ep,if_neg h0];exact gg _
    case view n p sz lo l =>
     cases ho:A.o n with
     |none=>exact .inl fun k=>by simp only[ep,if_neg h0,ho]
     |some y =>
      cases y with
      |box b =>
       cases hb:b.at p with
       |none=>exact .inl fun k=>by simp only[ep,if_neg h0,ho,hb]
       |some c =>
        cases c
        case agg fs =>
         by_cases h1:lo+l+ys.length≤fs.length
         ·by_cases h2:sz=esz∧I.cJ ys=I.cJ ((fs.drop (lo+l)).take ys.length)
          ·exact .inr (.inl ⟨(A.aQ n (.box (iG b p (lo+l) fs ys))).aP dst (.view n p esz lo (l+ys.length)),fun k=>by simp only[ep,if_neg h0,ho,hb,if_pos h1];rw[if_pos h2],fun t ht=>qG (A:=A) (B:=A.aQ n _) (fun _=>rfl) ht,fun h=>by simp[I.only] at h⟩)
          ·exact .inl fun k=>by simp only[ep,if_neg h0,ho,hb,if_pos h1];rw[if_neg h2]
         ·simp only[mH,ep,if_neg h0,ho,hb,if_neg h1];exact gg _
        all_goals exact .inl fun k=>by simp only[ep,if_neg h0,ho,hb]
      |_=>exact .inl fun k=>by simp only[ep,if_neg h0,ho]
    all_goals exact .inl fun k=>by simp only[ep,if_neg h0]
theorem yF(A:ae)(dst:Option Nat)(e esz bytes:Nat)(z:I)(s x:ay)(rest:List au):mH A dst (ah A s) (aX A dst (.dM e esz bytes z s x) rest):=by
 generalize hs:ah A s=iq;cases iq
 case own n l =>
  cases hx:ah A x
  case slice sz ys =>
   cases ho:A.o n with
   |none=>exact .inl fun k=>by simp only[aX,hs,hx,ho]
   |some y =>
    cases y with
    |bF T sz' es =>
     by_cases hc:wz e esz bytes l sz ys T sz' es
     ·exact .inr (.inl ⟨(A.aQ n (.bF e esz (es++ys))).aP dst (.own n (es.length+ys.length)),fun k=>by simp only[aX,hs,hx,ho];rw[if_pos hc],fun t ht=>qG (A:=A) (B:=A.aQ n _) (fun _=>rfl) ht,fun h=>by simp[I.only] at h⟩)
     ·exact .inl fun k=>by simp only[aX,hs,hx,ho];rw[if_neg hc]
    |dW T xs =>
     by_cases hc:wA e esz bytes l ys T xs z
     ·exact .inr (.inl ⟨(A.aQ n (.dW e (xs++qh ys))).aP dst (.own n (xs.length+ys.length)),fun k=>by simp only[aX,hs,hx,ho];rw[if_pos hc],fun t ht=>qG (A:=A) (B:=A.aQ n _) (fun _=>rfl) ht,fun h=>by simp[I.only] at h⟩)
     ·exact .inl fun k=>by simp only[aX,hs,hx,ho];rw[if_neg hc]
    |_=>exact .inl fun k=>by simp only[aX,hs,hx,ho]
  all_goals exact .inl fun k=>by simp only[aX,hs,hx]
 all_goals (simp only[mH,aX,hs];exact G6 ..)
theorem wP{A:ae}{d:Nat}{v:I}{n:Nat}{y:aj}{dst:Option Nat}{u:I}(h:dst≠some d):((A.put d v).aQ n y).aP dst u=((A.aQ n y).aP dst u).put d v:=by
 cases dst with
 |none=>rfl
 |some e =>
  have:e≠d:=fun he=>h (by rw[he]);simp only[ae.aP,ae.put,ae.aQ,ae.mk.injEq,and_true]
  funext k
  by_cases h1:k=e <;>by_cases h2:k=d <;>simp_all
theorem Yn{A:ae}{d:Nat}{v:I}{dst:Option Nat}{u:I}(h:dst≠some d):(A.put d v).aP dst u=(A.aP dst u).put d v:=by
 cases dst with
 |none=>rfl
 |some e =>
  have:e≠d:=fun he=>h (by rw[he]);simp only[ae.aP,ae.put,ae.mk.injEq,and_true]
  funext k
  by_cases h1:k=e <;>by_cases h2:k=d <;>simp_all
theorem G3{A:ae}{d:Nat}{v:I}{dst:Option Nat}(h:dst≠some d)(esz bytes:Nat)(z:I)(es ys:List I)(k:ae→bZ):fb (A.put d v) dst esz bytes z es ys k=fb A dst esz bytes z es ys fun B=>k (B.put d v):=by
 cases dst with
 |none=>rfl
 |some e =>
  simp only[fb];have:(A.put d v).o=A.o:=rfl;rw[this];cases A.o e with
  |some _=>rfl
  |none =>
   simp only;split
   ·simp only[wP h]
   ·rfl
theorem G7{A:ae}{d:Nat}{v:I}{dst:Option Nat}(h:dst≠some d)(esz bytes:Nat)(z s:I)(es ys:Option (List I))(k:ae→bZ):ep (A.put d v) dst esz bytes z s es ys k=ep A dst esz bytes z s es ys fun B=>k (B.put d v):=by
 have ho:(A.put d v).o=A.o:=rfl;cases es with
 |none=>rfl
 |some es =>
  cases ys with
  |none=>rfl
  |some ys =>
   simp only[ep];split
   ·rw[Yn h]
   ·cases s <;>simp only[G3 h,ho]
    rename_i n p sz lo l;cases A.o n with
    |none=>rfl
    |some y =>
     cases y with
     |box b =>
      simp only;cases b.at p with
      |none=>rfl
      |some c =>
       cases c <;>simp only[wP h]
     |_=>rfl
theorem G9{A:ae}{d:Nat}{v:I}{dst:Option Nat}(h:dst≠some d){e esz bytes:Nat}{z:I}{s x:ay}(hag:dD A (A.put d v) (s.sl++x.sl))(rest rest':List au)(k:ae→bZ) :
  aX (A.put d v) dst (.dM e esz bytes z s x) rest k=aX A dst (.dM e esz bytes z s x) rest' fun B=>k (B.put d v):=by
 have ho:(A.put d v).o=A.o:=rfl;have hsrc:∀ y,c7 (A.put d v) esz y=c7 A esz y:=fun y=>by cases y <;>rfl
 simp only[aX,cH hag.l,cH hag.r,hsrc];cases ah A s <;>simp only[G7 h]
 rename_i n l;cases ah A x <;>simp only[ho]
 cases A.o n with
 |none=>rfl
 |some y=>cases y <;>simp only[wP h]
theorem bM.Ab{av:ej}{f:FuncId}{avs:List I}{a1 a2:Option (List I)}{dst:Option Nat}{rest:List au}{A:ae}(hi:dP av A)(hd:∀ d,dst=some d→hU av d=none)(h:bM P Y hs K (.call f avs a1 a2 dst rest A)) :
  aZ P Y false (fun B=>bM P Y hs K (al rest B)∧dP av B) (.call f avs a1 a2 dst [] A):=by
 have no:∀ {v:I},∀ d,dst=some d→∀ ns,hU av d=some ns→v.only (fun n=>ns.contains n)=true:=fun d e ns hn=>by rw[hd d e] at hn;cases hn
 cases h with
 |flat r hc hf hw=>exact .flat r hc hf (.done ⟨hw,hi.put (fun _=>rfl) no⟩)
 |lead r hc hw=>exact .lead r hc (.done ⟨hw,hi.put (fun _=>rfl) no⟩)
 |bD ρ cargs post hc hg ha hb hw=>exact .bD false ρ [] cargs post rfl hc hg (by simp only[iT,zy5,Ml];exact ha) hb fun r os' hp=>.done ⟨hw r os' hp,hi.put (B:=aw _ (df ρ os'++_)) (fun _=>rfl) no⟩
 |wu aE ρ os cargs post _ hc hg ha hb hw=>exact .bD aE ρ os cargs post rfl hc hg ha hb fun r os' hp=>.done ⟨hw r os' hp,hi.put (B:=aw _ (df ρ os'++_)) (fun _=>rfl) no⟩
theorem bM.I6{av:ej}{v:Value}{avs:List I}{dst:Option Nat}{rest:List au}{A:ae}(hi:dP av A)(hd:∀ d,dst=some d→hU av d=none)(h:bM P Y hs K (.lu v avs dst rest A)) :
  aZ P Y false (fun B=>bM P Y hs K (al rest B)∧dP av B) (.lu v avs dst [] A):=by
 have no:∀ {v:I},∀ d,dst=some d→∀ ns,hU av d=some ns→v.only (fun n=>ns.contains n)=true:=fun d e ns hn=>by rw[hd d e] at hn;cases hn
 cases h with
 |ZX os cargs post hc hg ha hb hw=>exact .tY os cargs post rfl hc hg ha hb fun r os' hp=>.done ⟨hw r os' hp,hi.put (B:=aw _ (df [] os'++_)) (fun _=>rfl) no⟩
theorem bM.one{av:ej}{A:ae}{g:au}{rest:List au}(hi:dP av A)(ho:tc g.op=true)(hL:iA av g=true)(h:bM P Y hs K (aX A g.dst g.op rest (al rest))):aZ P Y false (fun B=>bM P Y hs K (al rest B)∧dP av B) (aX A g.dst g.op [] (al [])):=by
 have hval:=fun v (ab:aY A g.op=some v)=>CM hi hL ab;obtain ⟨dst,op,gd⟩:=g;simp only at ho h hval ⊢;have pure:iK op=true→aZ P Y false (fun B=>bM P Y hs K (al rest B)∧dP av B) (aX A dst op [] (al [])):=by
  intro hsm;rw[vD hsm] at h ⊢;cases ab:aY A op with
  |none=>rw[ab] at h;cases h
  |some v=>rw[ab] at h;exact .done ⟨h,hi.put (fun _=>rfl) (hval v ab)⟩
 have unl:(∀ ns d,dst=some d→hU av d=some ns→iA av ⟨dst,op,gd⟩=false)→∀ d,dst=some d→hU av d=none:=fun h1 d hd=>by
  cases hn:hU av d with
  |none=>rfl
  |some ns=>rw[h1 ns d hd hn] at hL;cases hL
 cases op with
 |alloc z =>
  cases dst with
  |none=>simp only[aX] at h;cases h
  |some d =>
   simp only[aX] at h ⊢;split at h
   case h_2=>cases h
   refine .done ⟨h,hi.put (B:=A.aQ d _) (dst:=some d) (fun _=>rfl) fun d' e ns hn =>?_⟩;simp only[v6] at e;subst e;simpa only[iA,hn,I.only] using hL
 |box x =>
  cases dst with
  |none=>simp only[aX] at h;cases h
  |some d =>
   simp only[aX] at h ⊢;split at h
   case h_2=>cases h
   split at h
   case isFalse=>cases h
   rename_i ab;rw[if_pos ab];refine .done ⟨h,hi.put (B:=A.aQ d _) (dst:=some d) (fun _=>rfl) fun d' e ns hn =>?_⟩;simp only[v6] at e;subst e;simpa only[iA,hn,I.only] using hL
 |aV s x v =>
  cases dst with
  |some d=>simp only[aX] at h;cases h
  |none =>
   simp only[aX] at h ⊢;split at h
   case h_2=>cases h
   rename_i n p hx;split at h
   case h_2=>cases h
   rename_i b hb;split at h
   case h_2=>cases h
   rename_i old hold;split at h
   case isFalse=>cases h
   rename_i hok;simp only[if_pos hok];exact .done ⟨h,fun s ns hn=>hi s ns hn⟩
 |eO x =>
  simp only[aX] at h ⊢;cases hse:lO (ah A x) with
  |none=>rw[hse] at h;simp only[iF] at h;cases h
  |some ys =>
   rw[hse] at h;cases dst with
   |none=>simp only[iF] at h;cases h
   |some d =>
    simp only[iF] at h ⊢;split at h
    case h_2=>cases h
    rename_i ho;refine .any rfl fun m hm=>.done ⟨h.rE m hm,hi.put (B:=A.aQ d _) (dst:=some d) (fun _=>rfl) fun d' e ns hn =>?_⟩;simp only[v6] at e;subst e;simpa only[iA,hn,I.only] using hL
 |call f args=>exact bM.Ab hi (unl fun ns d e hn=>by subst e;simp only[iA,hn]) h
 |fq x args =>
  have hu:=unl fun ns d e hn=>by subst e;simp only[iA,hn]
  simp only[aX] at h ⊢;split at h
  ·exact bM.Ab hi hu h
  ·exact bM.I6 hi hu h
  ·cases h
 |dM e esz bytes z s x =>
  have hu:=unl fun ns d e hn=>by subst e;simp only[iA,hn]
  have sq:∀ B,ru A dst (ah A s) B→dP av B:=fun B hB t ns hn=>by
   rw[hB.1 t fun e=>by rw[hu t e] at hn;cases hn];exact hi t ns hn
  have hf:=yF A dst e esz bytes z s x;rcases hf rest with h1 | ⟨B,h1,h2⟩ | ⟨p,bl,h1,h2⟩
  ·rw[h1] at h;cases h
  ·rw[h1] at h;have:aX A dst (.dM e esz bytes z s x) [] (al [])=al [] B:=(show aX A dst (.dM e esz bytes z s x) [] (al [])=aX A dst (.dM e esz bytes z s x) rest (al []) from rfl).trans (h1 _);rw[this];exact .done ⟨h,sq B h2⟩
  ·rw[h1] at h;have:aX A dst (.dM e esz bytes z s x) [] (al [])=.any p fun m=>al [] (bl m):=(show aX A dst (.dM e esz bytes z s x) [] (al [])=aX A dst (.dM e esz bytes z s x) rest (al []) from rfl).trans (h1 _);rw[this];exact .any rfl fun m hm=>.done ⟨h.rE m hm,sq _ (h2 m)⟩
 |_=>first | exact pure rfl | cases ho
def fD(g:au)(A:ae)(v:I):Prop:=(fP A g∧v=.undef)∨(pass A g∧aY A g.op=some v)
theorem bM.xr{A:ae}{g:au}{rest:List au}(hs':iK g.op=true)(h:bM P Y hs K (al (g::rest) A)):∃ v,fD g A v∧bM P Y hs K (al rest (A.aP g.dst v)):=by
 have step:pass A g→bM P Y hs K (aX A g.dst g.op rest (al rest))→∃ v,fD g A v∧bM P Y hs K (al rest (A.aP g.dst v)):=by
  intro hp h;rw[vD hs'] at h;cases ab:aY A g.op with
  |none=>rw[ab] at h;cases h
  |some v=>rw[ab] at h;exact ⟨v,.inr ⟨hp,ab⟩,h⟩
 simp only[al] at h;split at h
 ·rename_i hg;exact step (by simp only[pass,hg]) h
 ·rename_i t b hg;split at h
  ·rename_i b' hb;split at h
   ·rename_i hbb;subst hbb;exact step (by simp only[pass,hg];exact hb) h
   ·rename_i hbb;exact ⟨_,.inl ⟨by simp only[fP,hg];exact .inl (by rw[hb,uI hbb]),rfl⟩,h⟩
  ·rename_i hb;exact ⟨_,.inl ⟨by simp only[fP,hg];exact .inr hb,rfl⟩,h⟩
  ·cases h
theorem rF{A:ae}{g:au}{rest:List au}(hn:fP A g):al (g::rest) A=al rest (A.aP g.dst .undef):=by
 simp only[al];cases hg:g.guard with
 |none=>simp only[fP,hg] at hn
 |some tb =>
  obtain ⟨t,b⟩:=tb;simp only[fP,hg] at hn;rcases hn with hn | hn
  ·simp only[hn];rw[if_neg (by cases b <;>simp)]
  ·simp only[hn]
theorem fD.to{A:ae}{g:au}{rest:List au}{v:I}(hs':iK g.op=true)(h:fD g A v):al (g::rest) A=al rest (A.aP g.dst v):=by
 rcases h with ⟨hn,rfl⟩ | ⟨hp,ab⟩
 ·exact rF hn
 ·rw[mN hp,vD hs',ab];rfl
theorem L1{A A':ae}{p:Nat→Bool}(ho:∀ n,p n=true→A'.o n=A.o n){x:I}(hx:x.only p=true):bT A' x=bT A x:=by
 cases x <;>simp only[bT]
 rename_i n q;rw[ho n (by simpa[I.only] using hx)]
mutual
theorem MT{A A':ae}{p:Nat→Bool}(ho:∀ n,p n=true→A'.o n=A.o n):∀ {x:I},x.only p=true→bf false A' x=bf false A x
 | .own n k,h=>by simp only[bf];rw[ho n (by simpa[I.only] using h)]
 | .func f caps,h=>by simp only[bf];rw[r3 ho (xs:=caps) (by simpa[I.only] using h)]
 | .agg fs,h=>by simp only[bf];rw[r3 ho (xs:=fs) (by simpa[I.only] using h)]
 | .undef,_ | .dc,_ | .bool _,_ | .int _ _,_ | .ak _,_ | .nilp,_ | .di,_ | .cU,_ | .any,_ | .raw _,_ | .nils _,_ | .c0 _,_ | .slice _ _,_ | .tuple _,_ | .ref _,_ | .iface _ _,_ | .ptr _ _,_ | .view _ _ _ _ _,_ | .mref _,_ | .c8 _,_ | .da _ _,_=>by simp[bf]
theorem r3{A A':ae}{p:Nat→Bool}(ho:∀ n,p n=true→A'.o n=A.o n):∀ {xs:List I},I.cI p xs=true→bJ false A' xs=bJ false A xs
 | [],_=>rfl
 |x::xs,h=>by
  simp only[I.cI,Z7] at h;simp only[bJ,MT ho h.1,r3 ho h.2]
end
theorem CX{p:Nat→Bool}{f:ay→I} : ∀ {xs:List ay},(∀ x∈xs,(f x).only p=true)→I.cI p (xs.map f)=true
 | [],_=>rfl
 |x::xs,h=>by
  simp only[zz1,I.cI,Z7];exact ⟨h x (by simp),CX fun y hy=>h y (by simp[hy])⟩
theorem Wt{A A':ae}{p:Nat→Bool}(ho:∀ n,p n=true→A'.o n=A.o n){x:I}(hx:x.only p=true):gj A' x=gj A x:=by
 cases x with
 |mref n=>simp only[gj];rw[ho n (by simpa[I.only] using hx)]
 |raw v=>cases v <;>first | rfl | (rename_i o;cases o <;>rfl)
 |_=>rfl
theorem Yb{A A':ae}{op:bt}{xs:List Nat}{p:Nat→Bool}(hm:mh op=some xs)(h:dD A A' op.cz)(hx:∀ s∈xs,(A.t s).only p=true)(ho:∀ n,p n=true→A'.o n=A.o n):aY A' op=aY A op:=by
 have jV:op.fY=0→aY A' op=aY A op:=fun hc=>wN hc h;have dl:=fun {x:I} (hx:x.only p=true)=>L1 ho hx;unfold mh at hm;split at hm
 ·rename_i s x;simp only[v6] at hm;subst hm;have e:=h x (by simp[bt.cz,ay.sl]);simp only[aY,ah,e,dl (hx x (by simp))]
 ·rename_i f off x;simp only[v6] at hm;subst hm;have e:=h x (by simp[bt.cz,ay.sl]);have k:=hx x (by simp);simp only[aY,ah,e];generalize A.t x=u at k ⊢;cases u with
  |ptr n q=>simp only[dl (x:=.ptr n q) k]
  |ref c=>cases c <;>rfl
  |_=>rfl
 ·rename_i n esz x i;simp only[v6] at hm;subst hm;have e:=h x (by simp[bt.cz,ay.sl]);have ei:=cH (x:=i) (fun m hm=>h m (by simp[bt.cz,hm]));have k:=hx x (by simp);simp only[aY,ei];generalize ah A i=w;simp only[ah,e];generalize A.t x=u at k ⊢;cases u with
  |ptr n q=>simp only[dl (x:=.ptr n q) k]
  |ref c=>cases c <;>rfl
  |_=>rfl
 ·rename_i esz x i;simp only[v6] at hm;subst hm;have e:=h x (by simp[bt.cz,ay.sl]);have ei:=cH (x:=i) (fun m hm=>h m (by simp[bt.cz,hm]));have k:=hx x (by simp);simp only[aY,ei];generalize ah A i=w;simp only[ah,e];generalize A.t x=u at k ⊢;cases u with
  |own n l=>simp only[ho n (by simpa[I.only] using k)]
  |view n q=>simp only[dl (x:=.ptr n q) (by simpa[I.only] using k)]
  |_=>rfl
 ·rename_i x;simp only[v6] at hm;subst hm;have e:=h x (by simp[bt.cz,ay.sl]);have k:=hx x (by simp);simp only[aY,ah,e];generalize A.t x=u at k ⊢;cases u with
  |own n l=>simp only[ho n (by simpa[I.only] using k)]
  |_=>rfl
 ·rename_i n esz x;simp only[v6] at hm;subst hm;have e:=h x (by simp[bt.cz,ay.sl]);have k:=hx x (by simp);simp only[aY,ah,e];generalize A.t x=u at k ⊢;cases u with
  |ptr n q=>simp only[dl (x:=.ptr n q) k]
  |ref c=>cases c <;>rfl
  |_=>rfl
 ·rename_i esz x lo hi mx;simp only[v6] at hm;subst hm;have e:=h x (by simp[bt.cz,ay.sl]);have e1:=ox (x:=lo) (fun m hm=>h m (by simp[bt.cz,hm]));have e2:=ox (x:=hi) (fun m hm=>h m (by simp[bt.cz,hm]));have e3:=ox (x:=mx) (fun m hm=>h m (by simp[bt.cz,hm]));have k:=hx x (by simp);simp only[aY,e1,e2,e3];generalize lo.map (ah A)=w1;generalize hi.map (ah A)=w2;generalize mx.map (ah A)=w3;simp only[ah,e];generalize A.t x=u at k ⊢;cases u with
  |view n q=>simp only[dl (x:=.ptr n q) (by simpa[I.only] using k)]
  |_=>rfl
 ·rename_i x;simp only[v6] at hm;subst hm;have e:=h x (by simp[bt.cz,ay.sl]);have k:=hx x (by simp);simp only[aY,ah,e];generalize A.t x=u at k ⊢;cases u with
  |view n q=>simp only[dl (x:=.ptr n q) (by simpa[I.only] using k)]
  |_=>rfl
 ·rename_i ty z ok x kk;simp only[v6] at hm;subst hm;have e:=h x (by simp[bt.cz,ay.sl]);have ek:=cH (x:=kk) (fun m hm=>h m (by simp[bt.cz,hm]));have k:=hx x (by simp);simp only[aY,ek];generalize ah A kk=w;simp only[ah,e,Wt ho k]
 ·rename_i x;simp only[v6] at hm;subst hm;have e:=h x (by simp[bt.cz,ay.sl]);have k:=hx x (by simp);simp only[aY,ah,e];generalize A.t x=u at k ⊢;cases u with
  |own n l=>simp only[c7,ho n (by simpa[I.only] using k)]
  |view n q=>simp only[c7,dl (x:=.ptr n q) (by simpa[I.only] using k)]
  |_=>rfl
 ·rename_i esz ps;split at hm
  case isFalse=>cases hm
  rename_i hall;simp only[v6] at hm;subst hm;have hev:ps.map (ah A')=ps.map (ah A):=kD h;have hon:I.cI p (ps.map (ah A))=true:=CX fun x hx'=>by
   have h1:=zx8.1 hall x hx';cases x with
   |c _=>cases h1
   |t s=>exact hx s (by simp only[iY,List.mem_flatMap];exact ⟨_,hx',by simp[ay.sl]⟩)
  simp only[aY,hev,r3 ho hon]
 ·rfl
 ·split at hm
  ·rename_i hc;exact jV hc.1
  ·cases hm
theorem yB{av:ej}{A:ae}{g:au}{p:Nat→Bool}(hi:dP av A)(h:rG av g p=true):∃ xs,mh g.op=some xs∧∀ s∈xs,(A.t s).only p=true:=by
 unfold rG at h;split at h
 case h_2=>cases h
 rename_i xs hm;refine ⟨xs,hm,fun s hs' =>?_⟩;have h1:=zx8.1 h s hs';split at h1
 case h_2=>cases h1
 rename_i ns hn;exact jI (fun n h2=>zx8.1 h1 n (by simpa using h2)) _ (hi s ns hn)
theorem fD.vY{A A':ae}{g:au}{v:I}{xs:List Nat}{p:Nat→Bool}(h:fD g A v)(hm:mh g.op=some xs)(ha:dD A A' g.cz)(hx:∀ s∈xs,(A.t s).only p=true)(ho:∀ n,p n=true→A'.o n=A.o n):fD g A' v:=by
 rcases h with ⟨h,rfl⟩ | ⟨h,k⟩
 ·exact .inl ⟨oU ha h,rfl⟩
 ·exact .inr ⟨mw ha h,by rw[Yb hm (au.jj ha) hx ho];exact k⟩
theorem fD.sq{av:ej}{A:ae}{g:au}{v:I}(hi:dP av A)(hg:iA av g=true)(h:fD g A v):dP av (A.aP g.dst v):=by
 rcases h with ⟨_,rfl⟩ | ⟨_,k⟩
 ·exact hi.put (fun _=>rfl) fun _ _ _ _=>rfl
 ·exact hi.put (fun _=>rfl) (CM hi hg k)
theorem fD.cE{A A':ae}{g:au}{v:I}(h:fD g A v)(hu:dE A A')(ha:dD A A' g.cz):fD g A' v:=by
 rcases h with ⟨h,rfl⟩ | ⟨h,k⟩
 ·exact .inl ⟨oU ha h,rfl⟩
 ·exact .inr ⟨mw ha h,Dc hu (au.jj ha) k⟩
theorem BR{av:ej}{g h:au}(hi:mV hs av g h=true):iK g.op=true∧nq hs av g h=true∧(∀ d,g.dst=some d→d∉h.cz)∧(∀ d,g.dst=some d→h.dst≠some d)∧(∀ d,h.dst=some d→d∉g.cz):=by
 simp only[mV,Z7] at hi;obtain ⟨h1,h2,h3,h4⟩:=hi;refine ⟨h1,h2,fun d hd =>?_,fun d hd =>?_,fun d hd =>?_⟩
 ·rw[hd] at h3;simp at h3;exact h3.1
 ·rw[hd] at h3;simp at h3;exact h3.2
 ·rw[hd] at h4;simpa using h4
theorem yI{aE:Bool}{A A':ae}{ρ:List (Nat×Nat)}{os:List (Nat×aj)}(hu:dE A A'):∀ {xs cs:List I},gr aE A ρ os xs cs→gr aE A' ρ os xs cs
 | [],[],_=>trivial
 |x::xs,c::cs,h=>⟨h.1.imp id fun h=>A8 hu h,yI hu h.2⟩
 | [],_::_,h=>h.elim
 |_::_,[],h=>h.elim
theorem WA{A:ae}{d:Option Nat}{v:I}{ts:List (Nat×I)}{os:List (Nat×aj)}(h:A.aP d v=aw ts os):∃ ts2,A=aw ts2 os∧∀ X:List (Nat×aj),(aw ts2 X).aP d v=aw ts X:=by
 cases d with
 |none=>exact ⟨ts,h,fun _=>rfl⟩
 |some d =>
  have ht:∀ k,(A.aP (some d) v).t k=cj ts k:=fun k=>by rw[h];rfl
  have ho:A.o=aD os:=by
   have:(A.aP (some d) v).o=aD os:=by rw[h];rfl
   rwa [gR] at this
  refine ⟨(d,A.t d)::ts,?_,fun X =>?_⟩
  ·cases A with
   |mk t o =>
    simp only[aw,ae.mk.injEq];refine ⟨funext fun k =>?_,ho⟩;have:=ht k;simp only[ae.aP,ae.put] at this;simp only[cj];by_cases hk:k=d
    ·subst hk;simp
    ·rw[if_neg hk] at this;have hk':¬ d=k:=fun e=>hk e.symm;simp only[hk,if_false];exact this
  ·simp only[ae.aP,ae.put,aw,ae.mk.injEq,and_true]
   funext k
   have:=ht k;simp only[ae.aP,ae.put] at this;by_cases hk:k=d
   ·subst hk;simp at this ⊢;exact this
   ·have hk':¬ d=k:=fun e=>hk e.symm;simp only[cj,hk,if_false]
theorem X6{ρ:List (Nat×Nat)}{os0 os':List (Nat×aj)}{r:I}(hb:dL false ρ [] os0 r os'){n:Nat}{x:aj}(hx:aD os0 n=some x):aD (df ρ os'++os0) n=some x:=by
 rw[sJ];cases hp:pre ρ os' n with
 |none=>exact hx
 |some m =>
  obtain ⟨h1,h2⟩:=lG hp;have:=(hb.oR m h1 (by simp[aC,aD])).1;rw[h2,hx] at this;cases this
theorem bM.I4{A B:ae}{j:au}{v:I}{f:FuncId}{args:List ay}{dst:Option Nat}{rest:List au}(hj:iK j.op=true)(ab:fD j A v)(hB:B=A.aP j.dst v)(hf:hs.contains f=false)(hag:dD A B (iY args))(hd:∀ d,j.dst=some d→dst≠some d)(hr:∀ d,dst=some d→d∉j.cz)
  (h:bM P Y hs K (.call f (args.map (ah B)) (bJ true B (args.map (ah B))) (bJ false B (args.map (ah B))) dst rest B)):bM P Y hs K (.call f (args.map (ah A)) (bJ true A (args.map (ah A))) (bJ false A (args.map (ah A))) dst (j::rest) A):=by
 have eo:B.o=A.o:=by rw[hB,gR]
 have cE:dE B A:=fun n x hx=>by rwa [←eo]
 have up':dE A B:=fun n x hx=>by rwa [eo]
 have eav:args.map (ah B)=args.map (ah A):=kD hag;rw[eav] at h;have cont:∀ r:I,bM P Y hs K (al rest (B.aP dst r))→bM P Y hs K (al (j::rest) (A.aP dst r)):=fun r hw=>by
  have h1:fD j (A.aP dst r) v:=ab.cE (fun n x hx=>by rwa [gR]) (lH hr);rw[h1.to hj,pc (fun d hd'=>fun e=>hd d e hd'),←hB];exact hw
 generalize e1:bJ true B (args.map (ah A))=a1 at h;generalize e2:bJ false B (args.map (ah A))=a2 at h;generalize hBm:B=B0 at h;cases h with
 |flat r hc hfl hw =>
  subst hBm;rw[kG cE e1];exact .flat r hc hfl (cont r hw)
 |lead r hc hw =>
  subst hBm;rw[kG cE e2];exact .lead r hc (cont r hw)
 |bD ρ cargs post hc hg ha hb hw =>
  rename_i ts os0;rw[hB] at hBm;obtain ⟨ts2,hA,hts⟩:=WA hBm;have hA':=hA;clear cont;subst hA;refine .bD ρ cargs post hc hg (yI (A:=aw ts os0) (A':=aw ts2 os0) (fun n x hx=>hx) ha) hb fun r os' hp =>?_;have h1:fD j ((aw ts2 (df ρ os'++os0)).aP dst (r.aT (bo ρ))) v:=ab.cE (fun n x hx=>by
   rw[gR];exact X6 (hb r os' hp) hx) (fun k hk=>by
    have:=lH (A:=aw ts2 (df ρ os'++os0)) (v:=r.aT (bo ρ)) hr k hk;rw[this];rfl)
  rw[h1.to hj,pc (fun d hd'=>fun e=>hd d e hd'),hts];exact hw r os' hp
 |wu aE ρ os cargs post hfs =>
  rw[hf] at hfs;cases hfs
theorem bM.rh{av:ej}{A:ae}{j g:au}{rest:List au}(hinv:dP av A)(hi:mV hs av j g=true)(hw:bM P Y hs K (al (j::g::rest) A)):bM P Y hs K (al (g::j::rest) A):=by
 obtain ⟨hj,hl,i1,i2,i3⟩:=BR hi;obtain ⟨v,ab,hw⟩:=bM.xr hj hw;have ag:dD (A.aP j.dst v) A g.cz:=(lH i1).symm;have ag':dD A (A.aP j.dst v) g.cz:=lH i1;have cE:dE (A.aP j.dst v) A:=fun n x hx=>by rwa [gR] at hx
 have up':∀ (d:Option Nat) (u:I),dE A (A.aP d u):=fun d u n x hx=>by rwa [gR]
 by_cases hsg:iK g.op=true
 ·obtain ⟨u,hu,hw⟩:=bM.xr hsg hw;rw[(hu.cE cE ag).to hsg,(ab.cE (up' _ _) (lH i3)).to hj,←pc i2];exact hw
 ·-- the guard
  have guard:(fP (A.aP j.dst v) g∧al (g::rest) (A.aP j.dst v)=al rest ((A.aP j.dst v).aP g.dst .undef))∨(pass (A.aP j.dst v) g∧al (g::rest) (A.aP j.dst v)=aX (A.aP j.dst v) g.dst g.op rest (al rest))∨al (g::rest) (A.aP j.dst v)=.fail:=by
   cases hg:g.guard with
   |none=>exact .inr (.inl ⟨by simp only[pass,hg],by simp only[al,hg]⟩)
   |some tb =>
    obtain ⟨t,b⟩:=tb;cases ht:(A.aP j.dst v).t t with
    |bool b' =>
     by_cases hbb:b'=b
     ·subst hbb;have hp:pass (A.aP j.dst v) g:=by simp only[pass,hg,ht]
      exact .inr (.inl ⟨hp,mN hp⟩)
     ·have hn:fP (A.aP j.dst v) g:=by simp only[fP,hg];exact .inl (by rw[ht,uI hbb])
      exact .inl ⟨hn,rF hn⟩
    |undef =>
     have hn:fP (A.aP j.dst v) g:=by simp only[fP,hg];exact .inr ht
     exact .inl ⟨hn,rF hn⟩
    |_=>exact .inr (.inr (by simp only[al,hg,ht]))
  rcases guard with ⟨hn,he⟩ | ⟨hp,he⟩ | he
  ·rw[he] at hw;rw[rF (oU ag hn),(ab.cE (up' _ _) (lH i3)).to hj,←pc i2];exact hw
  ·rw[he] at hw;rw[mN (mw ag hp)];obtain ⟨dst,op,gd⟩:=g;simp only at hw hsg i2 i3 ⊢;cases op with
   |alloc z =>
    cases dst with
    |none=>simp only[aX] at hw;cases hw
    |some d =>
    simp only[aX] at hw ⊢;split at hw
    case h_2=>cases hw
    rename_i ho;rw[gR] at ho;simp only[ho];have h1:fD j ((A.aQ d (.box z)).put d (.ptr d [])) v:=ab.cE (fun n y hy=>by
     have:n≠d:=fun he=>by rw[he,ho] at hy;cases hy
     simp only[ae.put,ae.aQ,this,if_false];exact hy) (fun k hk=>by
     have:k≠d:=fun he=>i3 d rfl (he▸hk);simp only[ae.put,ae.aQ,this,if_false])
    rw[h1.to hj];have e:((A.aP j.dst v).aQ d (.box z)).put d (.ptr d [])=((A.aQ d (.box z)).put d (.ptr d [])).aP j.dst v:=by
     cases hgd:j.dst with
     |none=>rfl
     |some e =>
      have hne:e≠d:=fun he=>i2 e hgd (by rw[he]);simp only[ae.aP,ae.put,ae.aQ,ae.mk.injEq,and_true]
      funext k
      by_cases h1:k=e <;>by_cases h2:k=d <;>simp_all
    rw[←e];exact hw
   |box x =>
    have ex:ah (A.aP j.dst v) x=ah A x:=cH (au.jj ag');cases dst with
    |none=>simp only[aX] at hw;cases hw
    |some d =>
    simp only[aX] at hw ⊢;split at hw
    case h_2=>cases hw
    rename_i ho;rw[gR] at ho;simp only[ho];rw[ex] at hw;split at hw
    case isFalse=>cases hw
    rename_i hval;rw[if_pos hval];have h1:fD j ((A.aQ d (.box (ah A x))).put d (.ptr d [])) v:=ab.cE (fun n y hy=>by
     have:n≠d:=fun he=>by rw[he,ho] at hy;cases hy
     simp only[ae.put,ae.aQ,this,if_false];exact hy) (fun k hk=>by
     have:k≠d:=fun he=>i3 d rfl (he▸hk);simp only[ae.put,ae.aQ,this,if_false])
    rw[h1.to hj];have e:((A.aP j.dst v).aQ d (.box (ah A x))).put d (.ptr d [])=((A.aQ d (.box (ah A x))).put d (.ptr d [])).aP j.dst v:=by
     cases hgd:j.dst with
     |none=>rfl
     |some e =>
      have hne:e≠d:=fun he=>i2 e hgd (by rw[he]);simp only[ae.aP,ae.put,ae.aQ,ae.mk.injEq,and_true]
      funext k
      by_cases h1:k=e <;>by_cases h2:k=d <;>simp_all
    rw[←e];exact hw
   |eO x =>
    have ex:ah (A.aP j.dst v) x=ah A x:=cH (au.jj ag');simp only[aX] at hw ⊢;rw[ex] at hw;cases hse:lO (ah A x) with
    |none=>rw[hse] at hw;simp only[iF] at hw;cases hw
    |some ys =>
    rw[hse] at hw;cases dst with
    |none=>simp only[iF] at hw;cases hw
    |some d =>
    simp only[iF] at hw ⊢;rw[gR] at hw;split at hw
    case h_2=>cases hw
    rename_i ho;refine .any fun m hm =>?_;have hw:=hw.rE m hm;generalize hbx:aj.box (.agg (ys++List.replicate m (.int .u8 0)))=aE at hw ⊢;generalize hvw:I.view d [] 1 0 ys.length=vw at hw ⊢;have h1:fD j ((A.aQ d aE).aP (some d) vw) v:=ab.cE (fun n y hy=>by
     have:n≠d:=fun he=>by rw[he,ho] at hy;cases hy
     simp only[ae.aP,ae.put,ae.aQ,this,if_false];exact hy) (fun k hk=>by
     have:k≠d:=fun he=>i3 d rfl (he▸hk);simp only[ae.aP,ae.put,ae.aQ,this,if_false])
    rw[h1.to hj];have e:((A.aP j.dst v).aQ d aE).aP (some d) vw=((A.aQ d aE).aP (some d) vw).aP j.dst v:=by
     cases hgd:j.dst with
     |none=>rfl
     |some e =>
      have hne:e≠d:=fun he=>i2 e hgd (by rw[he]);simp only[ae.aP,ae.put,ae.aQ,ae.mk.injEq,and_true]
      funext k
      by_cases h1:k=e <;>by_cases h2:k=d <;>simp_all
    rw[←e];exact hw
   |call f args =>
    simp only[aX] at hw ⊢;refine bM.I4 hj ab rfl (by simpa[nq,oN] using hl) (au.jj ag') i2 i3 hw
   |aV s y u =>
    cases dst with
    |some d=>simp only[aX] at hw;cases hw
    |none =>
    have ey:ah (A.aP j.dst v) y=ah A y:=cH (au.jj ag').l;have eu:ah (A.aP j.dst v) u=ah A u:=cH (au.jj ag').r;simp only[aX] at hw ⊢;rw[ey,eu,gR] at hw;cases hx:ah A y <;>simp only[hx] at hw ⊢ <;>try (cases hw;done)
    rename_i n q;cases ho:A.o n with
    |none=>rw[ho] at hw;cases hw
    |some ob =>
    rw[ho] at hw;cases ob <;>simp only at hw ⊢ <;>try (cases hw;done)
    rename_i b;cases hb:b.at q with
    |none=>rw[hb] at hw;cases hw
    |some old =>
    rw[hb] at hw;simp only at hw ⊢;split at hw
    case isFalse=>cases hw
    rename_i hok;rw[if_pos hok];have h1:fD j (A.aQ n (.box (b.dI q (ah A u)))) v:=by
     have none0:mh j.op=some []→fD j (A.aQ n (.box (b.dI q (ah A u)))) v:=fun hm=>ab.vY (p:=fun _=>false) hm (fun _ _=>rfl) (fun s hs'=>by cases hs') (fun m hm=>by cases hm);cases y with
     |c y =>
      simp only[nq,oN,iK,Bool.false_or] at hl;split at hl
      ·rename_i hm;exact none0 hm
      ·cases hl
     |t y =>
      simp only[nq,oN,iK,Bool.false_or] at hl;split at hl
      ·rename_i hm;exact none0 hm
      ·split at hl
       case h_2=>cases hl
       rename_i ms hms;obtain ⟨xs,hm,hx2⟩:=yB hinv hl;refine ab.vY hm (fun _ _=>rfl) hx2 fun m hm2 =>?_;have hn:=hinv y ms hms;simp only[ah] at hx;rw[hx] at hn;have:m≠n:=fun e=>by subst e;simp[I.only] at hn hm2;exact hm2 hn
       simp only[ae.aQ,if_neg this]
    rw[h1.to hj];have e:(A.aP j.dst v).aQ n (.box (b.dI q (ah A u)))=(A.aQ n (.box (b.dI q (ah A u)))).aP j.dst v:=by cases j.dst <;>rfl
    rw[←e];exact hw
   |dM e esz bytes z s x =>
    have hag:dD A (A.aP j.dst v) (s.sl++x.sl):=au.jj ag';have he2:aX (A.aP j.dst v) dst (.dM e esz bytes z s x) rest (al rest)=aX A dst (.dM e esz bytes z s x) (j::rest) fun B=>al rest (B.aP j.dst v):=by
     cases hjd:j.dst with
     |none=>rfl
     |some d =>
      rw[hjd] at hag;exact G9 (fun e=>i2 d hjd e) hag rest (j::rest) (al rest)
    rw[he2] at hw;have jW:∀ B,ru A dst (ah A s) B→al (j::rest) B=al rest (B.aP j.dst v):=fun B hB=>by
     have hagB:dD A B j.cz:=fun k hk=>hB.1 k fun e=>i3 k e hk;have:fD j B v:=by
      simp only[nq,oN,iK,Bool.false_or,Bool.or_eq_true] at hl;rcases hl with hl | hl
      ·obtain ⟨xs,hm,hx2⟩:=yB hinv hl;exact ab.vY hm hagB hx2 fun m hm2=>by cases hm2
      ·have:=nP hinv hl;exact ab.cE (hB.2 (by simpa using this)) hagB
     rw[this.to hj]
    rcases yF A dst e esz bytes z s x (j::rest) with h1 | ⟨B,h1,h2⟩ | ⟨p,bl,h1,h2⟩
    ·rw[h1] at hw;cases hw
    ·rw[h1] at hw ⊢;rw[jW B h2];exact hw
    ·rw[h1] at hw ⊢;exact .any fun m hm=>by rw[jW _ (h2 m)];exact hw.rE m hm
   |_=>first | exact absurd rfl hsg | (simp[nq,oN,iK] at hl)
  ·rw[he] at hw;cases hw
theorem bM.pS{av:ej}{g:au} : ∀ {l:List au} {r:List au} {A:ae},dP av A→(∀ j∈l,mV hs av j g=true∧iA av j=true)→bM P Y hs K (al (l++g::r) A)→bM P Y hs K (al (g::(l++r)) A)
 | [],r,A,_,_,h=>h
 |j::l,r,A,hinv,hi,h=>by
  have hj:=(BR (hi j (by simp)).1).1;obtain ⟨v,ab,h2⟩:=bM.xr (g:=j) (rest:=l++g::r) hj h;have h3:=bM.pS (l:=l) (r:=r) (ab.sq hinv (hi j (by simp)).2) (fun k hk=>hi k (by simp[hk])) h2;refine bM.rh hinv (hi j (by simp)).1 ?_;rw[ab.to hj];exact h3
end
def sW:List Nat→Bool
 | []=>true
 |a::l => !l.contains a&&sW l
def rB(hs:List FuncId)(av:ej)(gs:List au)(cl:List Nat):List Nat→List Nat→Bool
 |_,[]=>true
 |before,i::σ=>(before.all fun j=>(cl.getD i 0).testBit j||mV hs av (gs.getD j default) (gs.getD i default))&&rB hs av gs cl (i::before) σ
def te(hs:List FuncId)(av:ej)(on:List (List Nat))(gs:List au)(cl:List Nat)(σ:List Nat):Bool :=
 (Nat.beq σ.length gs.length&&(sW σ&&(σ.all (fun i=>decide (i<gs.length))&&((List.range gs.length).all (fun i=>σ.contains i)&&gs.all fun g=>tc g.op&&iA av g))))&&(rB hs av gs cl [] σ&&(List.range gs.length).all fun i=>(on.getD i []).all (fun k=>decide (k<i))&&Nat.beq (cl.getD i 0) (nQ cl (on.getD i [])))
theorem Cy:∀ {l:List Nat},sW l=true→l.Nodup
 | [],_=>List.nodup_nil
 |a::l,h=>by
  simp only[sW,Z7,Bool.not_eq_true',List.contains_eq_mem,decide_eq_false_iff_not] at h;exact List.nodup_cons.2 ⟨h.1,Cy h.2⟩
theorem yz{hs:List FuncId}{av:ej}{gs:List au}{cl:List Nat} : ∀ {σ before:List Nat},rB hs av gs cl before σ=true→∀ s1 i s2,σ=s1++i::s2→∀ j,j∈before∨j∈s1→(cl.getD i 0).testBit j=true∨mV hs av (gs.getD j default) (gs.getD i default)=true
 | [],_,_,s1,i,s2,e,_,_=>by cases s1 <;>cases e
 |a::σ,before,h,s1,i,s2,e,j,hj=>by
  simp only[rB,Z7,zx8,Bool.or_eq_true] at h;cases s1 with
  |nil =>
   simp only[zy3,zy7] at e;obtain ⟨rfl,rfl⟩:=e;rcases hj with hj | hj
   ·exact h.1 j hj
   ·cases hj
  |cons b s1 =>
   simp only[zz8,zy7] at e;obtain ⟨rfl,rfl⟩:=e;refine yz h.2 s1 i s2 rfl j ?_;rcases hj with hj | hj
   ·exact .inl (List.mem_cons_of_mem _ hj)
   ·rcases zy8.1 hj with hj | hj
    ·exact .inl (by rw[hj];exact List.mem_cons_self)
    ·exact .inr hj
def iE(σ:List Nat)(listed:Array Bool):List Nat:=σ.filter fun i => !listed.getD i true
def nv(gs:List au)(σ:List Nat)(listed:Array Bool):List au:=(iE σ listed).map fun i=>gs.getD i default
theorem YD{σ:List Nat}{listed:Array Bool}{i:Nat}(hn:σ.Nodup)(hi:i∈σ)(hl:i<listed.size)(hu:listed.getD i true=false):∃ s1 s2,σ=s1++i::s2∧iE σ listed=(s1.filter fun j => !listed.getD j true)++i::(s2.filter fun j => !listed.getD j true) ∧
  iE σ (listed.setIfInBounds i true)=(s1.filter fun j => !listed.getD j true)++(s2.filter fun j => !listed.getD j true):=by
 obtain ⟨s1,s2,rfl⟩:=List.append_of_mem hi;have same:∀ j,j≠i→(listed.setIfInBounds i true).getD j true=listed.getD j true:=fun j hj=>getD_set_ne true (Ne.symm hj);have jY:(listed.setIfInBounds i true).getD i true=true:=by simp[hl]
 have hnd:=List.nodup_append.1 hn;have h1:∀ j∈s1,j≠i:=fun j hj=>hnd.2.2 j hj i List.mem_cons_self;have h2:∀ j∈s2,j≠i:=fun j hj e=>(List.nodup_cons.1 hnd.2.1).1 (e▸hj);refine ⟨s1,s2,rfl,?_,?_⟩
 ·simp only[iE,List.filter_append,List.filter_cons,hu,Bool.not_false,if_true]
 ·simp only[iE,List.filter_append,List.filter_cons,jY,Bool.not_true,zz3,if_false]
  congr 1
  ·exact List.filter_congr fun j hj=>by rw[same j (h1 j hj)]
  ·exact List.filter_congr fun j hj=>by rw[same j (h2 j hj)]
structure yq (hs:List FuncId) (av:ej) (l:List Oper) (gs:List au) (σ:List Nat):Prop where
 WO:σ.Nodup
 lt:∀ i∈σ,i<gs.length
 all:∀ i,i<gs.length→i∈σ
 ok:∀ g∈gs,tc g.op=true∧iA av g=true
 len:σ.length=gs.length
 ln:∀ i o,l[i]?=some o→∀ k∈dT o,k<i
 vJ:∀ (S:Nat→Prop),(∀ i o,l[i]?=some o→S i→∀ k∈dT o,S k)→∀ s1 i s2 o,σ=s1++i::s2→l[i]?=some o→(∀ k∈dT o,S k)→∀ j∈s1,¬ S j→mV hs av (gs.getD j default) (gs.getD i default)=true
theorem X2{hs:List FuncId}{av:ej}{l:List Oper}{gs:List au}{cl σ:List Nat}(hlen:gs.length=l.length)(h:te hs av (l.map dT) gs cl σ=true):yq hs av l gs σ:=by
 simp only[te,Z7,zx8,decide_eq_true_eq,List.mem_range,List.contains_eq_mem] at h;obtain ⟨⟨h1,h2,h3,h4,h5⟩,h6,h7⟩:=h;have bp:∀ i o,l[i]?=some o→(∀ k∈dT o,k<i)∧(∀ j,(cl.getD i 0).testBit j=true→j∈dT o∨∃ k∈dT o,(cl.getD k 0).testBit j=true):=by
  intro i o ho;have hi:i<l.length:=(zz6.1 ho).1;have h8:=h7 i (by omega);have hon:(l.map dT).getD i []=dT o:=by simp[zy9,ho]
  rw[hon] at h8;have hb:=Nat.eq_of_beq_eq_true h8.2;exact ⟨h8.1,fun j hj=>xL (by rw[←hb];exact hj)⟩
 refine ⟨Cy h2,h3,h4,h5,Nat.eq_of_beq_eq_true h1,fun i o ho=>(bp i o ho).1,?_⟩;intro S hS s1 i s2 o e ho hon j hj hnj;have key:∀ n i o,i≤n→l[i]?=some o→(∀ k∈dT o,S k)→∀ j,(cl.getD i 0).testBit j=true→S j:=by
  intro n
  induction n with
  |zero =>
   intro i o hi ho hon j hj;obtain ⟨h8,h9⟩:=bp i o ho;rcases h9 j hj with h | ⟨k,hk,_⟩
   ·exact hon j h
   ·have:=h8 k hk;omega
  |succ n ih =>
   intro i o hi ho hon j hj;obtain ⟨h8,h9⟩:=bp i o ho;rcases h9 j hj with h | ⟨k,hk,hjk⟩
   ·exact hon j h
   ·have hki:=h8 k hk;have hkl:k<l.length:=Nat.lt_trans hki (zz6.1 ho).1;obtain ⟨ok,hok⟩:∃ ok,l[k]?=some ok:=⟨l[k],zy0 hkl⟩
    exact ih k ok (by omega) hok (hS k ok hok (hon k hk)) j hjk
 rcases yz h6 s1 i s2 e j (.inr hj) with h | h
 ·exact absurd (key i i o (zz2 _) ho hon j h) hnj
 ·exact h
section
variable {c:ct}
theorem Uo{K:ae→Prop}{hs:List FuncId}{av:ej}{bg:Array Oper}{Q:Exit→Act→World→Prop}{o:Oper}{g:au}{rest:List au}{A:ae}{a:Act}{w:World}{Kw:Act→World→Prop}(hg:lr c.P c.n bg o=some g)(hi:dP av A)(ho:tc g.op=true∧iA av g=true)(hwp:bM c.P c.Y hs K (al (g::rest) A))(hs':bE c A a w)
  (hK:∀ B a' w',bM c.P c.Y hs K (al rest B)→dP av B→bE c B a' w'→Kw a' w'):if Region.wanted o (yielded bg a.tmps) then o.wpIn c.bl 9 c.P a w Kw Q else (∀ f,o.about c.P w a.eval=some f→c.bl.fn f)∧Kw (a.put o.dst undef) w:=by
 obtain ⟨h1,h2,h3,h4⟩:=oi hg;have step:bM c.P c.Y hs K (aX A g.dst g.op rest (al rest))→o.wpIn c.bl 9 c.P a w Kw Q:=fun h =>
  sd h1 h2.symm (by rw[h2];exact h3) (bM.one (Y:=c.Y) hi ho.1 ho.2 h) hs' (fun B a' w' hw hs2=>by
   cases hw with
   |done hk=>exact hK B a' w' hk.1 hk.2 hs2)
 simp only[al] at hwp;rcases h4 with ⟨h5,h6⟩ | ⟨j,b,t,h5,h6,h7⟩
 ·rw[h6] at hwp;have hw:Region.wanted o (yielded bg a.tmps)=true:=by simp[Region.wanted,h5]
  rw[hw,if_pos rfl];exact step hwp
 ·rw[h7] at hwp;simp only at hwp;split at hwp
  ·rename_i b' hb';rw[sj hs' h5 h6 hb'];split at hwp
   ·rename_i hbb;subst hbb;simp only[BEq.rfl,if_true];exact step hwp
   ·rename_i hbb;have:(b'==b)=false:=by simpa using hbb
    rw[this];simp only[zz3,if_false];exact ⟨fun f _=>lB c f,hK _ _ _ hwp (hi.put (fun _=>rfl) fun _ _ _ _=>rfl) (by rw[h2];exact hs'.mz h3)⟩
  ·rename_i hb';rw[sk hs' h5 h6 hb'];simp only[zz3,if_false];exact ⟨fun f _=>lB c f,hK _ _ _ hwp (hi.put (fun _=>rfl) fun _ _ _ _=>rfl) (by rw[h2];exact hs'.mz h3)⟩
  ·cases hwp
theorem G0{K:ae→Prop}{fs:List FuncId}{av:ej}{bg:Array Oper}{gs:List au}{σ:List Nat}{Q:Exit→Act→World→Prop}(hQ:∀ B a w,K B→bE c B a w→Q .normal a w)(hgs:fE c.P c.n bg bg.toList=some gs)(hd:yq fs av bg.toList gs σ) :
  ∀ (fuel:Nat) (listed:Array Bool) (A:ae) (a:Act) (w:World),listed.size=bg.size→(∀ i o,bg.toList[i]?=some o→listed.getD i false=true→∀ k∈dT o,listed.getD k false=true)→(iE σ listed).length≤fuel →
   dP av A→bM c.P c.Y fs K (al (nv gs σ listed) A)→bE c A a w→wpAnyIn c.bl 9 c.P .any bg Q fuel listed a w:=by
 obtain ⟨hlen,hat⟩:=l9 hgs;have onOf_mem:∀ (o:Oper) (e:Edge),e∈o.after→Region.binds .any e=true→e.on∈dT o:=fun o e he hb=>by
  simp only[dT,zx4,List.mem_filter];exact ⟨e,⟨by simpa using he,hb⟩,rfl⟩
 have of_onOf:∀ (o:Oper) (k:Nat),k∈dT o→∃ e∈o.after,Region.binds .any e=true∧e.on=k:=fun o k hk=>by
  simp only[dT,zx4,List.mem_filter] at hk;obtain ⟨e,⟨h1,h2⟩,h3⟩:=hk;exact ⟨e,by simpa using h1,h2,h3⟩
 have hgl:gs.length=bg.size:=by rw[hlen,zx6]
 have last:∀ (listed:Array Bool) (A:ae) (a:Act) (w:World),listed.size=bg.size→Region.ready .any bg listed=[]→bM c.P c.Y fs K (al (nv gs σ listed) A)→bE c A a w→Q .normal a w:=by
  intro listed A a w hsz hr hwp hs;have hnone:iE σ listed=[]:=by
   have all:∀ n,∀ i,i<n→i<bg.size→listed.getD i true=true:=by
    intro n
    induction n with
    |zero=>intro i hi;omega
    |succ n ih =>
     intro i hi his;cases hb:listed.getD i true with
     |true=>rfl
     |false =>
      exfalso
      have ho:bg[i]?=some bg[i]:=zw7 his;have:i∈Region.ready .any bg listed:=mem_ready.2 ⟨hb,bg[i],ho,fun e he hbd=>by
       have hlt:=hd.ln i bg[i] (by simp) e.on (onOf_mem _ e he hbd);have h1:=ih e.on (by omega) (by omega);have h2:e.on<listed.size:=by omega
       simpa[Array.getD_eq_getD_getElem?,h2] using h1⟩
      rw[hr] at this;cases this
   simp only[iE];refine List.filter_eq_nil_iff.2 fun i hi =>?_;have:=all (i+1) i (by omega) (by rw[←hgl];exact hd.lt i hi);simp only[this,Bool.not_true,zz3,not_false_eq_true]
  simp only[nv,hnone,zy5,al] at hwp;cases hwp with
  |done hk=>exact hQ A a w hk hs
 intro fuel
 induction fuel with
 |zero =>
  intro listed A a w hsz hcl hcnt hinv hwp hs;have hnone:iE σ listed=[]:=List.length_eq_zero_iff.1 (by omega);have hr:Region.ready .any bg listed=[]:=by
   refine List.eq_nil_iff_forall_not_mem.2 fun i hi =>?_;obtain ⟨h1,o,ho,_⟩:=mem_ready.1 hi;have:i∈iE σ listed:=by
    simp only[iE,List.mem_filter,h1,Bool.not_false,and_true];exact hd.all i (by rw[hgl];exact (zy1.1 ho).1)
   rw[hnone] at this;cases this
  exact ⟨hr,last listed A a w hsz hr hwp hs⟩
 |succ fuel ih =>
  intro listed A a w hsz hcl hcnt hinv hwp hs;refine ⟨fun hr=>last listed A a w hsz hr hwp hs,fun i hi =>?_⟩;obtain ⟨hun,o,ho,hall⟩:=mem_ready.1 hi;have hin:i<bg.size:=(zy1.1 ho).1;obtain ⟨s1,s2,hσ,e1,e2⟩:=YD hd.WO (hd.all i (by omega)) (by omega) hun;have hol:bg.toList[i]?=some o:=by simpa using ho
  obtain ⟨g,hgi,hcg⟩:=hat i o hol;have hon:∀ k∈dT o,listed.getD k false=true:=fun k hk=>by
   obtain ⟨e,h1,h2,h3⟩:=of_onOf o k hk;exact h3▸hall e h1 h2
  have hgd:gs.getD i default=g:=by simp[zy9,hgi]
  have hwp':bM c.P c.Y fs K (al (g::nv gs σ (listed.setIfInBounds i true)) A):=by
   simp only[nv,e1,zx5,zz1,hgd] at hwp;simp only[nv,e2,zx5];refine bM.pS hinv (fun j hj =>?_) hwp;obtain ⟨k,hk,rfl⟩:=zx4.1 hj;obtain ⟨hk1,hk2⟩:=List.mem_filter.1 hk;have:=hd.vJ (fun k=>listed.getD k false=true) hcl s1 i s2 o hσ hol hon k hk1 (by
    have hks:k<listed.size:=by
     have:=hd.lt k (by rw[hσ];exact List.mem_append_left _ hk1);omega
    simp[Array.getD_eq_getD_getElem?,hks] at hk2 ⊢;exact hk2)
   rw[hgd] at this;refine ⟨this,(hd.ok _ ?_).2⟩;have hkl:=hd.lt k (by rw[hσ];exact List.mem_append_left _ hk1);rw[zy9,zy0 hkl];exact List.getElem_mem _
  unfold wpOpIn;rw[ho];refine Uo hcg hinv (hd.ok g (List.mem_of_getElem? hgi)) hwp' hs fun B a' w' hw hiB hs'=>ih _ B a' w' (by simpa using hsz) ?_ ?_ hiB hw hs'
  ·intro m om hom hm k hk;by_cases hmi:m=i
   ·subst hmi;rw[hol,v6] at hom;subst hom;exact getD_set_true (hon k hk)
   ·rw[getD_set_ne false (Ne.symm hmi)] at hm;exact getD_set_true (hcl m om hom hm k hk)
  ·have:(iE σ listed).length=(iE σ (listed.setIfInBounds i true)).length+1:=by
    rw[e1,e2];simp;omega
   omega
def j9(σ:List Nat)(gs:List au):List au:=σ.map fun i=>gs.getD i default
theorem U.YA{Q:Exit→ae→Prop}{A:ae}{on:List (List Nat)}{gs:List au}(hs:List FuncId)(av:ej)(cl σ:List Nat)(hd:te hs av on gs cl σ=true)(hi:dP av A)(h:∀ K:ae→Prop,(∀ B,Q .normal B→K B)→bM c.P c.Y hs K (al (j9 σ gs) A)):U c (.bY (some on) gs) Q A:=by
 intro code hc a w hs';cases code <;>simp only[dY] at hc <;>try (first | (cases hc;done) | ((repeat' split at hc) <;>cases hc;done))
 rename_i id bg draw;split at hc
 ·rename_i gs' hgs;split at hc
  case isFalse=>cases hc
  rename_i hok;simp only[v6,bj.bY.injEq] at hc;obtain ⟨he,rfl⟩:=hc;cases draw with
  |false=>cases he
  |true =>
   simp only[cond_true,v6] at he;subst he;simp only[Bool.not_true,Bool.false_or] at hok;have hp:=X2 (l9 hgs).1 hd;refine wpIn_region_any hok (G0 (K:=Q .normal) (fun B a w hk hs=>⟨B,hk,hs⟩) hgs hp bg.size (Array.replicate bg.size false) A a _ (by simp) ?_ ?_ hi ?_ ?_)
   ·intro i o _ h
    exfalso
    simp only[Array.getD_eq_getD_getElem?,Array.getElem?_replicate] at h;split at h <;>simp at h
   ·refine Nat.le_trans (List.length_filter_le _ _) ?_;rw[hp.len,(l9 hgs).1,zx6];exact zz2 _
   ·have hall:iE σ (Array.replicate bg.size false)=σ:=by
     simp only[iE];refine List.filter_eq_self.2 fun i hi =>?_;have h1:=hp.lt i hi;rw[(l9 hgs).1,zx6] at h1;simp[h1]
    simp only[nv,hall];exact h _ fun _ hb=>hb
   ·obtain ⟨D,E,hs'⟩:=hs';exact ⟨D,E,hs'.grow (w' := { w with drawn:=w.drawn+1 }) ⟨rfl,rfl,rfl,zz2 _,fun _ _=>rfl⟩ (fun _ _ h=>h) (fun _ _ h _=>h) (fun b o h=>hs'.cS b o h)⟩
 ·cases hc
def jz(ts:List (Nat×I)):ej→Prop
 | []=>True
 |(s,ns)::av=>(cj ts s).only (fun n=>ns.contains n)=true∧jz ts av
theorem dP.of{ts:List (Nat×I)}{os:List (Nat×aj)}{av:ej}(h:jz ts av):dP av (aw ts os):=by
 intro s ns hn;simp only[aw]
 induction av with
 |nil=>cases hn
 |cons q av ih =>
  obtain ⟨s',ns'⟩:=q;simp only[jz] at h;simp only[hU,List.find?_cons] at hn;split at hn
  ·rename_i e;simp only[zz7,v6] at hn;simp only[beq_iff_eq] at e;subst e hn;exact h.1
  ·exact ih h.2 hn
end
end Go.Abs
namespace Go.Abs
open Go Go.RowKit
open Enc (enc)
theorem Y1{P:Program}(w:World)(tS tR e:TypeId)(ht:P.underlying tS=some (.slice e))(size:Nat)(hz:∀ w,(Go.sizeOf e).run P w=.ok size w)
  (a b:Addr) (la ca lb cb:Nat) (hne:a.block≠b.block) (tA tB:TypeId) (kA kB:Nat) (hsa:w.shape? a.block=some (tA,kA+1)) (hsb:w.shape? b.block=some (tB,kB+1)) (hfb:w.frozen? b=false) (hfe:w.frozen? { block:=b.block,off:=kB+1 } = false) :
  (Extern.SlicesOverlaps.overlaps #[tS,tS] #[tR] #[.slice (some a) la ca,.slice (some b) lb cb]).run P w=.ok (.bool false) w:=by
 have hnb:(a.block != b.block)=true:=by simpa using hne
 have hnb':(a.block==b.block)=false:=by simpa using hne
 change Sem.run P (α:=Value) (do
  let some t := (#[tS, tS] : Array TypeId)[0]? | stuck "slices.overlaps: no parameter types"
  let .slice elem ← underlying t | stuck "slices.overlaps: slice type expected"
  let size ←sizeOf elem
  match (some a:Option Addr),(some b:Option Addr) with
  |some a,some b =>
   if la=0∨lb=0∨size=0 then pure (Value.bool false)
   else if a.block != b.block&&(←frozen a)&&(←frozen b) then unsupported .addressObserved
   else do
    if a.block != b.block then do
     noView a;noView b
     if ← mayBeOne a b then return Value.bool ((← choose (.extern "sameAddr.stringBytes" 2)) == 1)
    pure (Value.bool (a.block==b.block&&a.off<b.off+lb*size&&b.off<a.off+la*size))
  |_,_=>pure (Value.bool false)) w=_
 by_cases h0:la=0∨lb=0∨size=0
 ·simp[run_underlying ht,hz,h0]
 ·cases hfa:w.frozen? a <;>cases hfk:w.frozen? { block:=a.block,off:=kA+1 } <;>
   simp[run_underlying ht,hz,h0,hnb,hnb',frozen,noView,viewAt,mayBeOne,stringish,shape,Sem.run,hsa,hsb,hfa,hfb,hfe,hfk]
theorem EP{P:Program}(w:World)(tS tR e:TypeId)(ht:P.underlying tS=some (.slice e))(size:Nat)(hz:∀ w,(Go.sizeOf e).run P w=.ok size w)(a:Option Addr)(b:Addr)(ca lb cb:Nat) :
  (Extern.SlicesOverlaps.overlaps #[tS,tS] #[tR] #[.slice a 0 ca,.slice (some b) lb cb]).run P w=.ok (.bool false) w:=by
 cases a with
 |none =>
  change Sem.run P (α:=Value) (do
   let some t := (#[tS, tS] : Array TypeId)[0]? | stuck "slices.overlaps: no parameter types"
   let .slice elem ← underlying t | stuck "slices.overlaps: slice type expected"
   let size ←sizeOf elem
   pure (Value.bool false)) w=_
  simp[run_underlying ht,hz]
 |some a =>
  change Sem.run P (α:=Value) (do
   let some t := (#[tS, tS] : Array TypeId)[0]? | stuck "slices.overlaps: no parameter types"
   let .slice elem ← underlying t | stuck "slices.overlaps: slice type expected"
   let size ←sizeOf elem
   if (0:Nat)=0∨lb=0∨size=0 then pure (Value.bool false)
   else if a.block != b.block&&(←frozen a)&&(←frozen b) then unsupported .addressObserved
   else do
    if a.block != b.block then do
     noView a;noView b
     if ← mayBeOne a b then return Value.bool ((← choose (.extern "sameAddr.stringBytes" 2)) == 1)
    pure (Value.bool (a.block==b.block&&a.off<b.off+lb*size&&b.off<a.off+0*size))) w=_
  simp[run_underlying ht,hz]
theorem Zg{w:World}{b o:Nat}{v:Value}(h:w.cell? ⟨b,o,none⟩=some v):∃ t k,w.shape? b=some (t,k+1):=by
 simp only[World.cell?] at h;cases hb:w.heap[b]? with
 |none=>rw[hb] at h;cases h
 |some ob =>
  rw[hb] at h;cases ob with
  |cells cs T Z4 =>
   simp only at h;have hlt:o<cs.size:=(zy1.1 (by simpa using h)).1;exact ⟨T,cs.size-1,by simp only[World.shape?,hb];congr 2;omega⟩
  |_=>cases h
theorem Bf{α:Type}[Enc α]{xs:List α}(h:xs≠[])(hs:(Enc.aL α).BY=false):(I.agg (xs.map Enc.enc)).aL.flat=false:=by
 cases xs with
 |nil=>exact absurd rfl h
 |cons x xs=>simp only[zz1,I.aL,I.cJ,bP.flat,List.all_cons,Enc.iI,hs,Bool.false_and]
theorem ZV {P : Program} {f : FuncId} {fn : Func} {tS tR e : TypeId} (hf : P.funcs[f]? = some fn) (hname : (fn.name == "runtime.NumGoroutine") = false) (hb : fn.body.isNone = true) (hn : Extern.findNext fn = none) (he : Extern.find fn = some (Extern.SlicesOverlaps.overlaps #[tS, tS] #[tR]))
  (ht:P.underlying tS=some (.slice e)) (hi:(P.info? e).isSome=true) {A:ae} {n sz sz' lo k:Nat} {p:List Nat} {y:I} {es fs:List I} (hA:A.o n=some (.box y)) (hat:y.at p=some (.agg fs)) (hy:y.size≠0) (hsz:sz'≠0) (hfl:y.aL.flat=false):yw P A f [.slice sz' es,.view n p sz lo k] (.bool false):=by
 intro c a w D E vs hP hs hargs;subst hP;obtain ⟨i,hi⟩:=zy4.1 hi;have hz:∀ w,(Go.sizeOf e).run c.P w=.ok i.size w:=fun w=>by simp[sizeOf,typeInfo,hi]
 cases hargs with
 |cons h1 hrest =>
  cases hrest with
  |cons h2 hnil =>
   cases hnil;rename_i v1 v2;refine ⟨.bool false,?_,kJ false⟩;rw[run_callFunc_extern hf hname hb hn he];obtain ⟨ad,cap,rfl,c1,c2,c3,c4⟩:=kU h1;obtain ⟨y',b,cs,T,off,d1,d2,d3,q1,q2,q3,q4,q5,q6,q7,q8,q9,q10,q11,q12,rfl⟩:=hs.view (fs:=fs) h2 (by simp only[bT,hA,hat]);rw[hA] at q1;simp only[v6,aj.box.injEq] at q1;subst q1;rcases c3 with rfl | ⟨b1,off1,cs1,rfl,r1,iB⟩
   ·rw[zw2,EP w tS tR e ht i.size hz];rfl
   ·cases es with
    |nil=>rw[zw2,EP w tS tR e ht i.size hz];rfl
    |cons e0 es =>
     have hl:=aA.length _ _ iB;have he0:=c4 e0 (by simp);have hpos:0<cs1.length:=by rw[hl];simp only[I.sizes];omega
     have hc:=r1 0 cs1[0] (zy0 hpos);obtain ⟨tA,kA,hsa⟩:=Zg hc.1;have ho:=hs.bD n;rw[hA] at ho;obtain ⟨b',cs',T',k1,k2,k3,k4,k5⟩:=ho;rw[q2] at k1;simp only[v6,bw.aE.injEq,and_true] at k1;subst k1;have hne:b1≠b:=fun e1=>k5 _ (e1▸hc.2);have hcs:cs.size≠0:=by
      have:=af.length _ _ q9;rw[zx6] at this;omega
     replace q3:=q3.plain hfl
     obtain ⟨kB,hkB⟩:∃ kB,cs.size=kB+1:=⟨cs.size-1,by omega⟩
     rw[Y1 w tS tR e ht i.size hz ⟨b1,off1,none⟩ ⟨b,off+lo*sz,none⟩ _ _ _ _ hne tA T kA kB hsa (by simp only[World.shape?,q3,hkB]) (by simp[World.frozen?,q3]) (by simp[World.frozen?,q3])];rfl
noncomputable def uz(A:ae)(d:Option Nat)(esz bytes:Nat)(z s:I)(rest:List au):I→bZ
 | .int _ m=>pN A d esz bytes z m.toNat s (c7 A esz s) (al rest)
 |_=>.fail
theorem WW(A:ae)(d:Option Nat)(rest:List au)(e esz bytes:Nat)(z:I)(s n:ay):bm A d (.jM e esz bytes z s n) rest=uz A d esz bytes z (ah A s) rest (ah A n):=by
 simp only[bm,aX];cases ah A n <;>rfl
theorem XD(A:ae)(d:Option Nat)(rest:List au)(f:FuncId)(args:List ay):bm A d (.gW f args) rest=.gW f (args.map (ah A)) d rest A:=rfl
def rO(A:ae):I→Option I
 | .nils _ | .c0 _=>some (.int .i64 ((0:Nat):Int))
 | .view n p _ lo _=>match ev (dN p (A.o n)) with
  |some fs=>some (.int .i64 ((fs.length-lo:Nat):Int))
  |none=>none
 |_=>none
theorem W8(A:ae)(d:Option Nat)(rest:List au)(x:ay):bm A d (.cap x) rest=cq (rO A (ah A x)) (cK d rest A):=by
 simp only[bm,aX,aY];cases ah A x <;>try rfl
 rename_i n p sz l0 k;simp only[rO,jR,fL];cases dN p (A.o n) with
 |none=>rfl
 |some c=>cases c <;>rfl
theorem mj(A:ae)(d:Option Nat)(rest:List au)(esz:Nat)(x y:ay):bm A d (.gx esz x y) rest=ku A d esz (al rest) (ah A x) (kg A esz (ah A y)):=rfl
section
variable {α:Type} [Enc α] {P:Program} {Y:Value→List I→List (Nat×aj)→b9→Prop} {K:ae→Prop} {A:ae} {rest:List au} {esz bytes:Nat}
theorem Ja{n lo k sz:Nat}{xs:List α}(ho:A.o n=some (.box (.agg (xs.map enc)))):rO A (.view n [] sz lo k)=some (.int .i64 ((xs.length-lo:Nat):Int)):=by
 have h2:(I.agg (xs.map (enc (α:=α)))).at []=some (.agg (xs.map enc)):=rfl;simp only[rO,dN,ho,h2,ev,I.dh,Z9]
theorem nJ{n lo k:Nat}{xs:List α}(ho:A.o n=some (.box (.agg (xs.map enc))))(h:lo+k≤xs.length):c7 A esz (.view n [] esz lo k)=some (((xs.drop lo).take k).map enc):=by
 have h1:bT A (.ptr n [])=some (.agg (xs.map enc)):=by simp only[bT,ho];rfl
 simp only[c7,h1,Z9];rw[if_pos ⟨h,trivial⟩,List.map_take,List.map_drop]
theorem xm{xs ys:List α}(h:xs.length=ys.length):I.cJ (xs.map enc)=I.cJ (ys.map enc):=by
 rw[xn,xn,h]
theorem oq{d:Option Nat}{n lo l c:Nat}{xs ys:List α}(ho:A.o n=some (.box (.agg (xs.map enc))))(hl:lo+l≤xs.length)(hc:min ys.length l=c) :
  ku A d esz (al rest) (.view n [] esz lo l) (some (ys.map enc))=al rest ((A.aQ n (.box (.agg ((xs.take lo++(ys.take c++xs.drop (lo+c))).map enc)))).aP d (.int .i64 (c:Nat))):=by
 have h2:(I.agg (xs.map (enc (α:=α)))).at []=some (.agg (xs.map enc)):=rfl;have h1:I.cJ ((ys.map (enc (α:=α))).take c)=I.cJ (((xs.map (enc (α:=α))).drop lo).take c):=by
  rw[←List.map_take,←List.map_drop,←List.map_take];exact xm (by rw[zz4,zz4,zv1];omega)
 have hc':min (ys.map (enc (α:=α))).length l=c:=by rw[Z9];exact hc
 simp only[ku,ho,h2,hc'];rw[if_pos ⟨rfl,by rw[hc'];exact h1⟩];have h3:((ys.map (enc (α:=α))).take c).length=c:=by rw[zz4,Z9];omega
 simp only[iG,fx,h3,zx5,List.map_take,List.map_drop]
theorem aZ.Hb{d:Nat}(z:α)(hs:Enc.sz α=esz){n l m:Nat}{xs:List α}(ho:A.o n=some (.box (.agg (xs.map enc))))(hl:l≤xs.length)(hm:0<m)(hr:xs.length<l+m)(hf:A.o d=none)(hb:(l+m)*bytes≤140737488355328)(hml:l+m≤maxLen)
  (h:∀ q,aZ P Y false K (al rest ((A.aQ d (.box (.agg ((xs.take l++(List.replicate m z++List.replicate q z)).map enc)))).aP (some d) (.view d [] esz 0 (l+m))))):aZ P Y false K (uz A (some d) esz bytes (enc z) (.view n [] esz 0 l) rest (.int .i64 (m:Nat))):=by
 have h1:=nJ (A:=A) (esz:=esz) (lo:=0) (k:=l) ho (by omega);have h2:(I.agg (xs.map (enc (α:=α)))).at []=some (.agg (xs.map enc)):=rfl;have h4:(xs.take l).length=l:=by rw[zz4];omega
 simp only[uz,h1,List.drop_zero,pN,ho,h2,Z9,Int.toNat_natCast];rw[if_pos ⟨hm,by omega⟩];simp only[fb,hf,Z9,h4,List.length_replicate];rw[if_pos ⟨hb,hml⟩];refine .any rfl fun q _ =>?_;have:=h q;simp only[zx5,List.map_replicate] at this;exact this
theorem yE{d:Option Nat}{e:Nat}(z:I)(hs:Enc.sz α=esz){n l:Nat}{xs ys:List α}(hy:ys≠[])(ho:A.o n=some (.box (.agg (xs.map enc))))(hr:l+ys.length≤xs.length) :
  eY A d e esz bytes z (enc ys) rest (.view n [] esz 0 l)=al rest ((A.aQ n (.box (.agg ((xs.take l++(ys++xs.drop (l+ys.length))).map enc)))).aP d (.view n [] esz 0 (l+ys.length))):=by
 have h1:=nJ (A:=A) (esz:=esz) (lo:=0) (k:=l) ho (by omega);have h2:(I.agg (xs.map (enc (α:=α)))).at []=some (.agg (xs.map enc)):=rfl;have h3:I.cJ (ys.map (enc (α:=α)))=I.cJ (((xs.map (enc (α:=α))).drop l).take ys.length):=by
  rw[←List.map_drop,←List.map_take];exact xm (by rw[zz4,zv1];omega)
 simp only[eY,h1,kW A esz ys hs,ep];rw[if_neg (by simpa using hy)];simp only[ho,h2,Z9,zz5];rw[if_pos hr,if_pos ⟨rfl,by rw[Z9,zz5];exact h3⟩];simp only[iG,fx,Z9,zx5,List.map_take,List.map_drop]
theorem aZ.G4{d e:Nat}(z:α)(hs:Enc.sz α=esz){n l:Nat}{xs ys:List α}(hy:ys≠[])(ho:A.o n=some (.box (.agg (xs.map enc))))(hl:l≤xs.length)(hr:xs.length<l+ys.length)(hf:A.o d=none)(hb:(l+ys.length)*bytes≤140737488355328)(hml:l+ys.length≤maxLen)
  (h:∀ q,aZ P Y false K (al rest ((A.aQ d (.box (.agg ((xs.take l++(ys++List.replicate q z)).map enc)))).aP (some d) (.view d [] esz 0 (l+ys.length))))):aZ P Y false K (eY A (some d) e esz bytes (enc z) (enc ys) rest (.view n [] esz 0 l)):=by
 have h1:=nJ (A:=A) (esz:=esz) (lo:=0) (k:=l) ho (by omega);have h2:(I.agg (xs.map (enc (α:=α)))).at []=some (.agg (xs.map enc)):=rfl;have h4:(xs.take l).length=l:=by rw[zz4];omega
 simp only[eY,h1,List.drop_zero,kW A esz ys hs,ep];rw[if_neg (by simpa using hy)];simp only[ho,h2,Z9,zz5];rw[if_neg (by omega)];simp only[fb,hf,Z9,h4];rw[if_pos ⟨hb,hml⟩];refine .any rfl fun q _ =>?_;have:=h q;simp only[zx5,List.map_replicate] at this;exact this
theorem aZ.G5{d e q0:Nat}(z:α){l:List α}(hs:Enc.sz α=esz)(hl:l≠[])(hf:A.o d=none)(hb:l.length*bytes≤140737488355328)(hml:l.length≤maxLen)
  (h:∀ m,aZ P Y false K (al rest ((A.aQ d (.box (.agg ((l++List.replicate m z).map enc)))).aP (some d) (.view d [] esz 0 l.length)))):aZ P Y false K (eY A (some d) e esz bytes (enc z) (enc l) rest (.nils q0)):=by
 have hne:l.map (enc (α:=α))≠[]:=by simpa using hl
 have h1:c7 A esz (.nils q0)=some []:=rfl;simp only[eY,h1,kW A esz l hs,ep,if_neg hne,fb,hf,zw2,zz5,Z9,if_pos (y6 hb hml),zy3];refine .any rfl fun m _ =>?_;have:=h m;simp only[zx5,List.map_replicate] at this;exact this
end
theorem Zj{n:Nat}{p:List Nat}{sz k total i:Nat}(h:i≤k)(hk:k≤total):∃ y,iX n p sz 0 k total (some (.int .i64 i)) none none=some y:=by
 simp only[iX,gJ];rw[if_pos ⟨by omega,by omega,by omega⟩];split <;>exact ⟨_,rfl⟩
theorem vZ(k:Nat):cj [] k=.dc:=rfl
def gD(av:List Nat):List (Nat×I)→List (Nat×I)
 | []=>[]
 |(s,v)::ts=>if av.contains s=true then (s,v)::gD av ts else gD av ts
theorem VY(av:List Nat):gD av []=[]:=rfl
theorem VX(av:List Nat)(s:Nat)(v:I)(ts:List (Nat×I)):gD av ((s,v)::ts)=if av.contains s=true then (s,v)::gD av ts else gD av ts:=rfl
theorem Co(av:List Nat)(t:Nat):∀ ts,cj (gD av ts) t=.dc∨cj (gD av ts) t=cj ts t
 | []=>.inl rfl
 |(s,v)::ts=>by
  simp only[gD];have ih:=Co av t ts;by_cases hs:av.contains s=true
  ·rw[if_pos hs];simp only[cj];split
   ·exact .inr rfl
   ·exact ih
  ·rw[if_neg hs];simp only[cj];split
   ·rename_i e;subst e
    left
    have:∀ ts,cj (gD av ts) t=.dc:=by
     intro ts
     induction ts with
     |nil=>rfl
     |cons q ts ih2 =>
      obtain ⟨s',v'⟩:=q;simp only[gD];split
      ·rename_i h';simp only[cj];have:t≠s':=fun e=>hs (e▸h');rw[if_neg this];exact ih2
      ·exact ih2
    exact this ts
   ·exact ih
theorem U.qn(av:List Nat){c:ct}{x:bj}{Q:Exit→ae→Prop}{ts:List (Nat×I)}{os:List (Nat×aj)}(h:U c x Q (aw (gD av ts) os)):U c x Q (aw ts os):=by
 refine U.sub ?_ h;rintro cc a w ⟨D,E,hs⟩;refine ⟨D,E,hs.sz,hs.er,fun t =>?_,hs.dn,hs.cO,hs.cS,hs.bD,hs.cD,hs.dG,hs.eN,hs.cE,hs.eV,hs.fy⟩;simp only[aw];rcases Co av t ts with e | e
 ·rw[e];simp[aR]
 ·rw[e];exact hs.dK t
theorem B1:(∀ av,gD av []=[])∧(∀ av s v ts,gD av ((s,v)::ts)=if av.contains s=true then (s,v)::gD av ts else gD av ts)∧(∀ (a:Nat) l b,(a::l).contains b=(b==a||l.contains b))∧(∀ b:Nat,([]:List Nat).contains b=false)∧(∀ b,(false||b)=b)∧(∀ b,(true||b)=true)∧(∀ b,(b||true)=true)∧(∀ b,(b||false)=b)∧((false=true)=False) :=
 ⟨VY,VX,fun _ _ _=>List.contains_cons,fun _=>rfl,fun _=>rfl,fun _=>rfl,fun b=>by cases b <;>rfl,fun b=>by cases b <;>rfl,by simp⟩
end Go.Abs
namespace Go.Abs
open Go Go.RowKit
open Enc (enc)
def v7:Option aj→Option (List I×List I)
 |some (.cn ks vs)=>some (ks,vs)
 |_=>none
noncomputable def wj(A:ae)(n:Nat)(rest:List au):Option (List I×List I)→bZ
 |some (ks,vs)=>al rest (A.aQ n (.cn ks vs))
 |none=>.fail
noncomputable def wi(A:ae)(n:Nat)(ty:cm)(k v:I)(rest:List au):Option aj→bZ
 |some (.cn ks vs)=>wj A n rest (qw ty k v ks vs)
 |_=>.fail
noncomputable def wh(A:ae)(ty:cm)(k v:I)(rest:List au):I→bZ
 | .mref n=>wi A n ty k v rest (A.o n)
 |_=>.fail
noncomputable def we(A:ae)(d:Nat)(rest:List au):Option aj→bZ
 |none=>al rest ((A.aQ d (.cn [] [])).put d (.mref d))
 |some _=>.fail
noncomputable def wg(A:ae)(d:Nat)(e:TypeId)(sz:Nat)(rest:List au):Option aj→bZ
 |none=>al rest ((A.aQ d (.bF e sz [])).put d (.own d 0))
 |some _=>.fail
open Classical in
noncomputable def sT(A:ae)(d bytes:Nat)(z:I)(rest:List au):I→bZ
 | .int _ n=>if 0≤n∧n.toNat*bytes≤281474976710656∧n.toNat≤maxLen then al rest ((A.aQ d (.box (.agg (List.replicate n.toNat z)))).put d (.view d [] 1 0 n.toNat)) else .fail
 |_=>.fail
noncomputable def sS(A:ae)(d bytes:Nat)(z n:I)(rest:List au):Option aj→bZ
 |none=>sT A d bytes z rest n
 |some _=>.fail
noncomputable def w6(A:ae)(d:Nat)(rest:List au):I→bZ
 | .da ks vs=>al rest ((A.aQ d (.it ks vs (List.range ks.length) none)).put d (.c8 d))
 |_=>.fail
noncomputable def tz(A:ae)(d:Nat)(x:I)(rest:List au):Option aj→bZ
 |none=>w6 A d rest x
 |some _=>.fail
def vc:Option aj→Option I
 |some (.it ks vs _ cur)=>rY ks vs cur
 |_=>none
def vb(A:ae):I→Option I
 | .c8 n=>vc (A.o n)
 |_=>none
open Classical in
noncomputable def CA(A:ae)(d:Option Nat)(n:Nat)(rest:List au):Option aj→bZ
 |some (.it ks vs left _)=>if left=[] then al rest (A.aP d (.tuple [.bool false])) else
   .any (fun i=>i∈left) fun i=>match ks[i]?,vs[i]? with
    |some kk,some x=>al rest ((A.aQ n (.it ks vs (left.filter (· != i)) (some i))).aP d (.tuple [.bool true,kk,x]))
    |_,_=>.fail
 |_=>.fail
noncomputable def wq(A:ae)(d:Option Nat)(rest:List au):I→bZ
 | .c8 n=>CA A d n rest (A.o n)
 |_=>.fail
section
variable (d:Option Nat) (rest:List au) (A:ae)
theorem Xt(x:ay):bm A d (.nilC x) rest=cq (nd (ah A x)) (cK d rest A):=rfl
theorem Xx(neg:Bool)(x y:ay):bm A d (.ptrE neg x y) rest=cq (my neg (iw (ah A x)) (iw (ah A y))) (cK d rest A):=rfl
theorem Xm(ty:cm)(z:I)(ok:Bool)(m k:ay):bm A d (.lk ty z ok m k) rest=cq (qq ty z ok (ah A k) (gj A (ah A m))) (cK d rest A):=rfl
theorem Wv(n:Nat):gj A (.mref n)=v7 (A.o n):=by
 simp only[gj];cases A.o n with
 |none=>rfl
 |some y=>cases y <;>rfl
theorem Xr(ty:cm)(m k v:ay):bm A none (.j4 ty m k v) rest=wh A ty (ah A k) (ah A v) rest (ah A m):=by
 simp only[bm,aX];cases ah A m <;>rfl
theorem Xo(d:Nat):bm A (some d) .kK rest=we A d rest (A.o d):=by
 simp only[bm,aX];cases A.o d <;>rfl
theorem Xp(d:Nat)(e:TypeId)(sz:Nat):bm A (some d) (.jF e sz) rest=wg A d e sz rest (A.o d):=by
 simp only[bm,aX];cases A.o d <;>rfl
theorem Xq(d e bytes:Nat)(z:I)(n:ay):bm A (some d) (.jG e bytes z n) rest=sS A d bytes z (ah A n) rest (A.o d):=by
 simp only[bm,aX];cases A.o d with
 |some _=>rfl
 |none=>simp only[sS];cases ah A n <;>rfl
theorem Xy(d:Nat)(x:ay):bm A (some d) (.kd x) rest=tz A d (ah A x) rest (A.o d):=by
 simp only[bm,aX];cases A.o d with
 |some _=>rfl
 |none=>simp only[tz];cases ah A x <;>rfl
theorem Xb(x:ay):bm A d (.ent x) rest=cq (vb A (ah A x)) (cK d rest A):=by
 simp only[bm,aX,aY];cases ah A x <;>rfl
theorem Xv(x:ay):bm A d (.j5 x) rest=wq A d rest (ah A x):=by
 simp only[bm,aX];cases ah A x <;>rfl
end
theorem WE:(∀ rest A d e sz,bm A (some d) (.jF e sz) rest=wg A d e sz rest (A.o d))∧(∀ A d e sz rest,wg A d e sz rest none=al rest ((A.aQ d (.bF e sz [])).put d (.own d 0))) :=
 ⟨fun rest A d e sz=>Xp rest A d e sz,fun _ _ _ _ _=>rfl⟩
theorem sM :
  (∀ d rest A x,bm A d (.nilC x) rest=cq (nd (ah A x)) (cK d rest A))∧(∀ n p,nd (.ptr n p)=some (.ptr n p))∧(∀ x,nd (.ref x)=some (.ref x)) ∧
  (∀ d rest A neg x y,bm A d (.ptrE neg x y) rest=cq (my neg (iw (ah A x)) (iw (ah A y))) (cK d rest A))∧(iw .nilp=some true)∧(∀ n p,iw (.ptr n p)=some false)∧(∀ x,iw (.ref x)=some false) ∧
  (my false (some true) (some true)=some (.bool true))∧(my false (some false) (some true)=some (.bool false))∧(my true (some true) (some true)=some (.bool false))∧(my true (some false) (some true)=some (.bool true)) ∧
  (∀ d rest A ty z ok m k,bm A d (.lk ty z ok m k) rest=cq (qq ty z ok (ah A k) (gj A (ah A m))) (cK d rest A))∧(∀ A n,gj A (.mref n)=v7 (A.o n))∧(∀ A ks vs,gj A (.da ks vs)=some (ks,vs))∧(∀ ks vs,v7 (some (.cn ks vs))=some (ks,vs)) ∧
  (∀ ty z ok k ks vs,qq ty z ok k (some (ks,vs))=qt ok (qu ty z k ks vs))∧(∀ v b,qt false (some (v,b))=some v)∧(∀ v b,qt true (some (v,b))=some (.tuple [v,.bool b])) ∧
  (∀ rest A ty m k v,bm A none (.j4 ty m k v) rest=wh A ty (ah A k) (ah A v) rest (ah A m))∧(∀ A ty k v rest n,wh A ty k v rest (.mref n)=wi A n ty k v rest (A.o n))∧(∀ A n ty k v rest ks vs,wi A n ty k v rest (some (.cn ks vs))=wj A n rest (qw ty k v ks vs)) ∧
  (∀ A n rest ks vs,wj A n rest (some (ks,vs))=al rest (A.aQ n (.cn ks vs))) ∧
  (∀ rest A d,bm A (some d) .kK rest=we A d rest (A.o d))∧(∀ A d rest,we A d rest none=al rest ((A.aQ d (.cn [] [])).put d (.mref d))) ∧
  (∀ rest A d e bytes z n,bm A (some d) (.jG e bytes z n) rest=sS A d bytes z (ah A n) rest (A.o d))∧(∀ A d bytes z n rest,sS A d bytes z n rest none=sT A d bytes z rest n) ∧
  (∀ rest A d x,bm A (some d) (.kd x) rest=tz A d (ah A x) rest (A.o d))∧(∀ A d x rest,tz A d x rest none=w6 A d rest x)∧(∀ A d rest ks vs,w6 A d rest (.da ks vs)=al rest ((A.aQ d (.it ks vs (List.range ks.length) none)).put d (.c8 d))) ∧
  (∀ d rest A x,bm A d (.ent x) rest=cq (vb A (ah A x)) (cK d rest A))∧(∀ A n,vb A (.c8 n)=vc (A.o n))∧(∀ ks vs l cur,vc (some (.it ks vs l cur))=rY ks vs cur) ∧
  (∀ d rest A x,bm A d (.j5 x) rest=wq A d rest (ah A x))∧(∀ A d rest n,wq A d rest (.c8 n)=CA A d n rest (A.o n)) :=
 ⟨Xt,fun _ _=>rfl,fun _=>rfl,Xx,rfl,fun _ _=>rfl,fun _=>rfl,rfl,rfl,rfl,rfl,Xm,Wv,fun _ _ _=>rfl,fun _ _=>rfl,fun _ _ _ _ _ _=>rfl,fun _ _=>rfl,fun _ _=>rfl,
  fun rest A ty m k v=>Xr rest A ty m k v,fun _ _ _ _ _ _=>rfl,fun _ _ _ _ _ _ _ _=>rfl,fun _ _ _ _ _=>rfl,fun rest A d=>Xo rest A d,fun _ _ _=>rfl,fun rest A d e bytes z n=>Xq rest A d e bytes z n,fun _ _ _ _ _ _=>rfl,
  fun rest A d x=>Xy rest A d x,fun _ _ _ _=>rfl,fun _ _ _ _ _=>rfl,Xb,fun _ _=>rfl,fun _ _ _ _=>rfl,Xv,fun _ _ _ _=>rfl⟩
theorem wD:(∀ n p z lo k,bN none (.view n p z lo k)=true)∧(∀ n,bN none (.mref n)=true)∧(∀ n p,bN none (.ptr n p)=true)∧(∀ x,bN none (.ref x)=true)∧bN none .nilp=true∧bN none .di=true∧bN none (.raw (.map none))=true∧(∀ ks vs,bN none (.da ks vs)=true)∧(∀ {α:Type} [Enc α] (l:List α),bN none (enc l)=true) :=
 ⟨fun _ _ _ _ _=>rfl,fun _=>rfl,fun _ _=>rfl,fun _=>rfl,rfl,rfl,rfl,fun _ _=>rfl,fun l=>by simp[AH,Mp]⟩
theorem sU{A:ae}{d bytes:Nat}{z:I}{rest:List au}{n:Nat}(h1:n*bytes≤281474976710656)(h2:n≤maxLen):sT A d bytes z rest (.int .i64 n)=al rest ((A.aQ d (.box (.agg (List.replicate n z)))).put d (.view d [] 1 0 n)):=by
 simp only[sT,Int.toNat_natCast];rw[if_pos ⟨Int.natCast_nonneg n,h1,h2⟩]
section
variable {α:Type} [Enc α]
theorem Zs{A:ae}{n i:Nat}{xs:List α}(v u:α){rest:List au}(hA:Enc.gC α=false)(h:i<xs.length):eb A none n [i] (.agg (xs.map enc)) (enc v) rest (some (enc u))=al rest (A.aQ n (.box (.agg ((xs.set i v).map enc)))):=by
 rw[eP (eQ v) (by rw[AH,hA];rfl) ((ed v).trans (ed u).symm)];have h2:(xs.map (enc (α:=α)))[i]?=some (enc (xs[i])):=by simp[h]
 simp only[I.dI,h2,List.map_set]
end
theorem VP{m sz lo l i:Nat}{fs:List I}(h:i<l):mW m [] sz lo l sz (i:Int) (some fs)=some (.ptr m [lo+i]):=by rw[VO h];rfl
theorem Ai:(∀ {α:Type} [Enc α] (x:α),(enc x).bC=true)∧(∀ n p z lo k,(I.view n p z lo k).bC=false)∧(∀ n,(I.mref n).bC=false)∧(∀ n p,(I.ptr n p).bC=false)∧(∀ n k,(I.own n k).bC=false) :=
 ⟨@kz,fun _ _ _ _ _=>rfl,fun _=>rfl,fun _ _=>rfl,fun _ _=>rfl⟩
end Go.Abs
namespace Go.Abs
open Go Go.RowKit
def rP(on:List (List Nat)):List Nat:=on.foldl (fun acc ks=>acc++[nQ acc ks]) []
def u5(d:Option (List (List Nat)))(gs:List au):Bool:=match d with
 |none=>true
 |some on=>rX on gs (rP on)
section
variable {c:ct} {Q:Exit→ae→Prop} {A:ae} {d:Option (List (List Nat))} {on:List (List Nat)} {gs:List au}
theorem U.iC(hd:u5 d gs=true)(h:∀ K:ae→Prop,(∀ B,Q .normal B→K B)→aZ c.P c.Y d.isSome K (al gs A)):U c (.bY d gs) Q A:=by
 cases d with
 |none=>exact U.bY (cl:=[]) rfl h
 |some on=>exact U.bY (cl:=rP on) hd h
theorem U.dV{y:bj}(hd:u5 d gs=true)(h:∀ K:ae→Prop,(∀ B,U c y Q B→K B)→aZ c.P c.Y d.isSome K (al gs A)):U c (.seq (.bY d gs) y) Q A :=
 U.seq (U.iC hd h)
theorem U.lJ(hs:List FuncId)(av:ej)(σ:List Nat)(hd:te hs av on gs (rP on) σ=true)(hi:dP av A)(h:∀ K:ae→Prop,(∀ B,Q .normal B→K B)→bM c.P c.Y hs K (al (j9 σ gs) A)):U c (.bY (some on) gs) Q A :=
 U.YA hs av (rP on) σ hd hi h
def fX(c:ct):bj→(Exit→ae→Prop)→ae→Prop
 | .seq x y,Q,A=>fX c x (cT (fun B=>U c y Q B) Q) A
 | .block id x,Q,A=>fX c x (lq id Q) A
 | .skip,Q,A=>Q .normal A
 | .exit id,Q,A=>Q (.exit id) A
 | .ret,Q,A=>Q .ret A
 | .cond b x y,Q,A=>az (ah A b) (U c x Q A) (U c y Q A)
 |x,Q,A=>U c x Q A
def VM:bj→Bool
 | .seq _ _ | .block _ _ | .skip | .exit _ | .ret | .cond _ _ _=>true
 |_=>false
theorem fX.uB:∀ (x:bj) {Q:Exit→ae→Prop} {A:ae},fX c x Q A→U c x Q A
 | .seq x y,_,_,h=>U.seq (fX.uB x h)
 | .block id x,_,_,h=>U.block (fX.uB x h)
 | .skip,_,_,h=>U.skip h
 | .exit _,_,_,h=>U.exit h
 | .ret,_,_,h=>U.ret h
 | .cond _ _ _,_,_,h=>U.hJ h
 | .bY _ _,_,_,h | .loop _,_,_,h | .scope _,_,_,h | .label,_,_,h | .pQ,_,_,h | .nB _ _ _ _,_,_,h=>h
theorem U.of{x:bj}(_:VM x=true)(h:fX c x Q A):U c x Q A:=fX.uB x h
theorem aK :
  (∀ c x y Q A,fX c (.seq x y) Q A=fX c x (cT (fun B=>U c y Q B) Q) A)∧(∀ c id x Q A,fX c (.block id x) Q A=fX c x (lq id Q) A)∧(∀ c Q A,fX c .skip Q A=Q .normal A)∧(∀ c id Q A,fX c (.exit id) Q A=Q (.exit id) A)∧(∀ c Q A,fX c .ret Q A=Q .ret A) ∧
  (∀ c b x y Q A,fX c (.cond b x y) Q A=az (ah A b) (U c x Q A) (U c y Q A))∧(∀ c d gs Q A,fX c (.bY d gs) Q A=U c (.bY d gs) Q A)∧(∀ c x Q A,fX c (.loop x) Q A=U c (.loop x) Q A)∧(∀ c f ps x y Q A,fX c (.nB f ps x y) Q A=U c (.nB f ps x y) Q A) ∧
  (∀ k Q A,cT k Q .normal A=k A)∧(∀ k Q A,cT k Q .ret A=Q .ret A)∧(∀ k Q A i,cT k Q (.exit i) A=Q (.exit i) A)∧(∀ i Q A,lq i Q .normal A=Q .normal A)∧(∀ i Q A,lq i Q .ret A=Q .ret A)∧(∀ i Q A j,lq i Q (.exit j) A=if j=i then Q .normal A else Q (.exit j) A) ∧
  (∀ p q,az (.bool true) p q=p)∧(∀ p q,az (.bool false) p q=q)∧(type_of% @B1) :=
 ⟨fun _ _ _ _ _=>rfl,fun _ _ _ _ _=>rfl,fun _ _ _=>rfl,fun _ _ _ _=>rfl,fun _ _ _=>rfl,fun _ _ _ _ _ _=>rfl,fun _ _ _ _ _=>rfl,fun _ _ _ _=>rfl,fun _ _ _ _ _ _ _=>rfl,fun _ _ _=>rfl,fun _ _ _=>rfl,fun _ _ _ _=>rfl,fun _ _ _=>rfl,fun _ _ _=>rfl,fun _ _ _ _=>rfl,
  fun p q=>by simp[az],fun p q=>by simp[az],B1⟩
theorem az.aI{t:Bool}{p q:Prop}(h1:t=true→p)(h2:t=false→q):az (.bool t) p q:=⟨h1,h2⟩
theorem U.aJ{g:au}{r:List au}(hd:u5 d gs=true)(e:gs=g::r)(h:∀ K:ae→Prop,(∀ B,Q .normal B→K B)→aZ c.P c.Y d.isSome K (al (g::r) A)):U c (.bY d gs) Q A :=
 U.iC hd (e▸h)
theorem aZ.aG(av:List Nat){P:Program}{Y:Value→List I→List (Nat×aj)→b9→Prop}{dr:Bool}{x:bj}{K:ae→Prop}{ts:List (Nat×I)}{os:List (Nat×aj)}(hK:∀ B,U c x Q B→K B)(h:U c x Q (aw (gD av ts) os)):aZ P Y dr K (.done (aw ts os)) :=
 .done (hK _ (U.qn av h))
theorem bM.aG(av:List Nat){P:Program}{Y:Value→List I→List (Nat×aj)→b9→Prop}{hs:List FuncId}{x:bj}{K:ae→Prop}{ts:List (Nat×I)}{os:List (Nat×aj)}(hK:∀ B,U c x Q B→K B)(h:U c x Q (aw (gD av ts) os)):bM P Y hs K (.done (aw ts os)) :=
 .done (hK _ (U.qn av h))
end
section
variable {c:ct} {A:ae} {o:Oper}
theorem zX{P:Program}{m:Nat}{bg:Array Oper}{l:List Oper}{gs:List au}(h:fE P m bg (o::l)=some gs):∃ g gs',gs=g::gs'∧lr P m bg o=some g∧fE P m bg l=some gs':=by
 simp only[fE] at h;split at h
 ·rename_i g gs' h1 h2;simp only[v6] at h;exact ⟨g,gs',h.symm,h1,h2⟩
 ·cases h
end
def tD(P:Program)(f:FuncId)(ch:List PanicEntry)(vs:Array Value)(w:World)(R:Ending→World→Prop):Prop :=
 Calls P f vs w fun e w'=>e=.panicked ch∧R (.returned (.tuple #[])) w'
theorem tD.mono{P:Program}{f:FuncId}{ch:List PanicEntry}{vs:Array Value}{w:World}{R R':Ending→World→Prop}(h:tD P f ch vs w R)(hr:∀ e w',R e w'→R' e w'):tD P f ch vs w R' :=
 Calls.mono h fun _ _ q=>⟨q.1,hr _ _ q.2⟩
def o8(post:List (Nat×aj)→Prop):b9:=fun r os'=>r=.tuple []∧post os'
def pC(P:Program)(f:FuncId)(ch:List PanicEntry)(args:List I)(os:List (Nat×aj))(post:List (Nat×aj)→Prop):Prop :=
 dZ P f=true∧mJ (tD P f ch) (fun w _ E=>eJ P w (bU E)) args os (o8 post)
def wJ(ch:List PanicEntry)(post:List (Nat×aj)→Prop):Exit→ae→Prop
 | .panic ch',A=>ch'=ch∧jd [] (o8 post) A
 |_,_=>False
theorem Ce{P:Program}{n:Nat}{w:World}{D:aH}{E:aN}{Y:Value→List I→List (Nat×aj)→b9→Prop}{post:List (Nat×aj)→Prop}{fn:Func}{A:ae}{D':aH}{E':aN}{ch:List PanicEntry}(h:jd [] (o8 post) A){R:World→Prop}(hR:∀ v w',fK w D E (o8 post) v w'→R w') :
  ∀ (ds:List Deferred) (a:Act) (w':World),a.defers=ds→aM ⟨P,w,D,n,bU E,E,Y,none,none⟩ A a w' D' E'→LeavesInM Fence.wide 9 P fn a.tmps (fun e w'=>e=.panicked ch∧R w') ds (.panicking ch) w'
 | [],a,w',_,hs=>by
  obtain ⟨v,h1,h2⟩:=hs.sC (fn := { fn with results := #[] }) (rs:=[]) rfl h;exact ⟨rfl,hR v w' h2⟩
 |d::ds,a,w',hd,hs=>by
  obtain ⟨Bs,h1,_⟩:=hs.er;rw[hd] at h1;cases Bs with
  |nil=>cases h1
  |cons B Bs =>
   simp only[zz1,zy7] at h1;obtain ⟨rfl,rfl⟩:=h1;obtain ⟨k1,k2⟩:=hs.Aj rfl hd;exact ⟨by simp,.inl ⟨B,_,rfl,run_takeDeferred k1,Ce h hR _ { a with defers:=Bs.map _ } _ rfl k2⟩⟩
theorem Wi{w:World}{D:aH}{E:aN}{post:List (Nat×aj)→Prop}{v:Value}{w':World}(h:fK w D E (o8 post) v w'):∃ v' D' E' r os',Ending.returned (.tuple #[])=.returned v'∧o8 post r os'∧aR w' D' E' r v'∧jq (fun b=>w.heap.size≤b∨bU E b) w' D' E' (aD os') ∧
   eH (fun b=>w.heap.size≤b∨bU E b) w w'∧(∀ b o,D b o→D' b o)∧(∀ b o,D' b o→b<w'.heap.size)∧(∀ b o,D' b o→b<w.heap.size→¬ bU E b→D b o) ∧
   (∀ n e,E n=some e→aC os' n=true→∃ e',E' n=some e'∧e.eD e')∧gq w D w':=by
 obtain ⟨D',E',r,os',h1,h2,h3⟩:=h;refine ⟨_,D',E',r,os',rfl,h1,?_,h3⟩;obtain ⟨rfl,_⟩:=h1;simp only[aR];exact ⟨[],by simp,by simp[ao]⟩
theorem pC.mk{P:Program}{f:FuncId}{fn:Func}{x:bj}{ch:List PanicEntry}{args:List I}{os:List (Nat×aj)}{post:List (Nat×aj)→Prop}(hf:P.funcs[f]?=some fn)(hcall:dZ P f=true)(hc:(fn.body.bind (dY P fn.ntmps))=some x)
  (hn:args.length≤fn.ntmps) (hn2:fn.ntmps≤1000000) (hos:∀ m,aC os m=true→1000000≤m) (h:I.fB args→∀ (w:World) (D:aH) (E:aN),U ⟨P,w,D,fn.ntmps,bU E,E,fO,none,none⟩ x (wJ ch post) (aw (bH 0 args) os)):pC P f ch args os post:=by
 obtain ⟨body,hb,hc'⟩:=zw6.1 hc;refine ⟨hcall,fun w D E vs hl hD ho ab =>?_⟩;have hlen:=qS ab;have hsim:=xz (P:=P) (n:=fn.ntmps) (Y:=fO) hD ho ab (by omega) (fun m hm=>⟨Nat.le_trans hn2 (hos m hm),hos m hm⟩) (pA hl);refine (callsIn_wide (n:=9)).1 (callsIn_of_wp_marks hf hb trivial ?_);refine wpIn_mono (((h (pj _ _ ab) w D E).sub (tO args os)) body hc' _ w ⟨D,E,hsim⟩) ?_;rintro e a w' ⟨A,hq,D',E',hs⟩;cases e <;>simp only[wJ] at hq
 obtain ⟨rfl,hq⟩:=hq;exact Ce hq (fun v w' h=>Wi h) a.defers a w' rfl hs
section
variable {c:ct} {A:ae} {Q:Exit→ae→Prop}
theorem sh{dr:Bool}{K:ae→Prop}{bg:Array Oper}{Q:Exit→Act→World→Prop}{l2:List Oper}(hQ:∀ B a w,K B→bE c B a w→wpListIn c.bl 9 c.P bg Q l2 a w):∀ (l:List Oper) (gs:List au) (A:ae) (a:Act) (w:World),fE c.P c.n bg l=some gs→aZ c.P c.Y dr K (al gs A) →
  bE c A a w→wpListIn c.bl 9 c.P bg Q (l++l2) a w
 | [],gs,A,a,w,hc,hwp,hs=>by
  simp only[fE,v6] at hc;subst hc;simp only[al] at hwp;cases hwp with
  |done hk=>exact hQ A a w hk hs
 |o::l,gs,A,a,w,hc,hwp,hs=>by
  simp only[fE] at hc;split at hc
  case h_2=>cases hc
  rename_i g gs' hg hgs;simp only[v6] at hc;subst hc;obtain ⟨h1,h2,h3,h4⟩:=oi hg;have step:aZ c.P c.Y dr K (aX A g.dst g.op gs' (al gs'))→o.wpIn c.bl 9 c.P a w (wpListIn c.bl 9 c.P bg Q (l++l2)) Q:=fun h =>
   sd h1 h2.symm (by rw[h2];exact h3) h hs (fun B a' w' hw hs'=>sh hQ l gs' B a' w' hgs hw hs')
  simp only[zz8,wpListIn];simp only[al] at hwp;rcases h4 with ⟨h5,h6⟩ | ⟨j,b,t,h5,h6,h7⟩
  ·rw[h6] at hwp;have hw:Region.wanted o (yielded bg a.tmps)=true:=by simp[Region.wanted,h5]
   rw[hw,if_pos rfl];exact step hwp
  ·rw[h7] at hwp;simp only at hwp;split at hwp
   ·rename_i b' hb';rw[sj hs h5 h6 hb'];split at hwp
    ·rename_i hbb;subst hbb;simp only[BEq.rfl,if_true];exact step hwp
    ·rename_i hbb;have:(b'==b)=false:=by simpa using hbb
     rw[this];simp only[zz3,if_false];exact ⟨fun f _=>lB c f,sh hQ l gs' _ _ w hgs hwp (by rw[h2];exact hs.mz h3)⟩
   ·rename_i hb';rw[sk hs h5 h6 hb'];simp only[zz3,if_false];exact ⟨fun f _=>lB c f,sh hQ l gs' _ _ w hgs hwp (by rw[h2];exact hs.mz h3)⟩
   ·cases hwp
theorem zW{P:Program}{m:Nat}{bg:Array Oper}{g:au}{gs2:List au} : ∀ {l:List Oper} {gs1:List au},fE P m bg l=some (gs1++g::gs2)→∃ l1 o l2,l=l1++o::l2∧fE P m bg l1=some gs1∧lr P m bg o=some g
 | [],gs1,h=>by simp[fE] at h
 |o::l,[],h=>by
  obtain ⟨g',gs',e,h1,h2⟩:=zX h;simp only[zy3,zy7] at e;obtain ⟨rfl,rfl⟩:=e;exact ⟨[],o,l,rfl,rfl,h1⟩
 |o::l,k::gs1,h=>by
  obtain ⟨g',gs',e,h1,h2⟩:=zX h;simp only[zz8,zy7] at e;obtain ⟨rfl,rfl⟩:=e;obtain ⟨l1,o',l2,rfl,q1,q2⟩:=zW h2;exact ⟨o::l1,o',l2,rfl,by simp only[fE,h1,q1],q2⟩
inductive pI (P:Program) (Q:Exit→ae→Prop) (f:FuncId) (avs:List I):ae→Prop where
 |mk {ts:List (Nat×I)} {os0:List (Nat×aj)} (aE:Bool) (ρ:List (Nat×Nat)) (os:List (Nat×aj)) (cargs:List I) (ch:List PanicEntry) (post:List (Nat×aj)→Prop):pC P f ch cargs os post→eX ρ os os0→gr aE (aw ts (cZ (iT ρ os) os0)) ρ os avs cargs →
  (∀ os',post os'→dL aE ρ os os0 (.tuple []) os')→(∀ os',post os'→Q (.panic ch) (aw ts (df ρ os'++os0)))→pI P Q f avs (aw ts os0)
inductive lZ (P:Program) (Q:Exit→ae→Prop):bt→ae→Prop where
 |call {f:FuncId} {args:List ay} {A:ae} : pI P Q f (args.map (ah A)) A→lZ P Q (.call f args) A
 |fq {x:ay} {args:List ay} {f:Nat} {caps:List I} {A:ae} : ah A x=.func f caps→pI P Q (kE f) (hE f (args.map (ah A)) caps) A→lZ P Q (.fq x args) A
 |kM {x:ay} {t:TypeId} {A:ae} : ah A x=.iface t (.agg [])→Q (.panic [{ v:=.iface t (.agg #[]),recovered:=false }]) A→lZ P Q (.prim .kM [x]) A
theorem wK{o:Oper}{g:bt}{f:FuncId}{avs:List I}{vs:List Value}{a:Act}{w:World}{D:aH}{E:aN}{Kw:Act→World→Prop}(hop0:cA c.P o=some g)(h:pI c.P Q f avs A)(hs:aM c A a w D E)(hall:ee (aR w D E) avs vs)
  (hrun:dZ c.P f=true→(execOp a.eval o).run c.P w=.ok (.enter f vs.toArray) w):o.wpIn c.bl 9 c.P a w Kw (sE c Q):=by
 cases h with
 |mk aE ρ os cargs ch post hspec hgv ha hb hrest =>
  have hu:=hspec.2.use hs aE (fun h=>h.mono) ⟨fun _ _=>hs.oL,fun _=>hs.oL⟩ hgv ha (fun r os' hp=>by obtain ⟨rfl,hp⟩:=hp;exact hb os' hp) hall;refine ⟨js,?_⟩;rw[jK hop0,hrun hspec.1,Oper.uponIn_enter];refine ⟨u2 c,Ad (Calls.mono hu ?_)⟩;rintro e w' ⟨rfl,v,r,os',D2,E2,he,⟨rfl,hp⟩,hs',ab,_⟩;exact ⟨_,hrest os' hp,D2,E2,hs'⟩
theorem X0{o:Oper}{g:bt}{a:Act}{w:World}{Kw:Act→World→Prop}(hop:cA c.P o=some g)(h:lZ c.P Q g A)(hsim:bE c A a w):o.wpIn c.bl 9 c.P a w Kw (sE c Q):=by
 have hop0:=hop;obtain ⟨D,E,hs⟩:=hsim;cases h with
 |call h =>
  unfold cA at hop;split at hop <;>try (first | (simp at hop;done) | ((repeat' split at hop) <;>simp at hop;done))
  rename_i f' xs ts ho;split at hop
  case isFalse=>simp at hop
  simp only[t7,bt.call.injEq] at hop;obtain ⟨ys,hys,rfl,rfl⟩:=hop;have e:xs.map a.eval=(xs.toList.map a.eval).toArray:=by apply Array.ext';simp
  refine wK (vs:=xs.toList.map a.eval) hop0 h hs (km hs xs.toList ts.toList ys hys) fun hc =>?_;simp only[execOp,ho,resolve,Act.eval,Deferred.ofValue,Sem.run_bind,Sem.run_pure,Result.andThen_ok,invoke,Array.append_empty,Array.empty_append,mA hc];rw[←e]
 |fq hx h =>
  rename_i x args f caps;unfold cA at hop;split at hop <;>try (first | (simp at hop;done) | ((repeat' split at hop) <;>simp at hop;done))
  rename_i y xs ts _ ho;split at hop
  case h_2=>cases hop
  rename_i y' ys h1 h2;simp only[v6,bt.fq.injEq] at hop;obtain ⟨rfl,rfl⟩:=hop;have ab:=bn hs h1;rw[hx] at ab;obtain ⟨cs,q1,q2⟩:=ab;simp only[af] at q2;obtain ⟨vs,q3,q4⟩:=q2;have hval:a.eval y=jh f vs:=by simpa[ba,I.isAgg,q3] using q1.symm
  have e:xs.map a.eval=(xs.toList.map a.eval).toArray:=by apply Array.ext';simp
  have hargs:=km hs xs.toList ts.toList ys h2;rcases Nat.lt_or_ge f 1000000 with hf | hf
  ·rw[vk hf,vj hf] at h;rw[mb hf] at hval;refine wK (vs:=xs.toList.map a.eval++vs) hop0 h hs (hargs.append (pf q4)) fun hc =>?_;simp only[execOp,ho,resolve,hval,Deferred.ofValue,Sem.run_bind,Sem.run_pure,Result.andThen_ok,invoke,Array.empty_append,mA hc];rw[e];simp
  ·obtain ⟨g,rfl⟩:∃ g:Nat,f=g+1000000:=⟨Nat.sub f 1000000,(Nat.sub_add_cancel hf).symm⟩
   rw[AY,AX] at h;rw[qb] at hval;refine wK (vs:=vs++xs.toList.map a.eval) hop0 h hs ((pf q4).append hargs) fun hc =>?_;simp only[execOp,ho,resolve,hval,Deferred.ofValue,Sem.run_bind,Sem.run_pure,Result.andThen_ok,invoke,Array.append_empty,mA hc];rw[e];simp

 |kM hx hq =>
  rename_i x t;unfold cA at hop;split at hop <;>try (first | (simp at hop;done) | ((repeat' split at hop) <;>simp at hop;done))
  rename_i x0 ho;simp only[t7,bt.prim.injEq,zy7,and_true,true_and] at hop;obtain ⟨y,hy,rfl⟩:=hop;have ab:=bn hs hy;rw[hx] at ab;obtain ⟨cs,q1,q2⟩:=ab;simp only[af] at q2;obtain ⟨u,cs',q3,q4,q5⟩:=q2;simp only[aA] at q5;subst q5;have hu:u=.agg #[]:=by simpa[ba,I.isAgg] using q4
  have hval:a.eval x0=.iface t (.agg #[]):=by simpa[ba,I.isAgg,q3,hu] using q1.symm
  have hrun:(execOp a.eval o).run c.P w=.halt (.panic (.iface t (.agg #[]))) w:=by simp[execOp,ho,hval,Instr.panic,goPanic]
  refine ⟨js,?_⟩;rw[jK hop0,hrun,Oper.uponIn_panic];exact ⟨A,hq,D,E,hs⟩
theorem U.Yz{gs:List au}(k:Nat){g:bt}{dst:Option Nat}(hk:gs=gs.take k++⟨dst,g,none⟩::gs.drop (k+1))(h:∀ K:ae→Prop,(∀ B,lZ c.P Q g B→K B)→aZ c.P c.Y false K (al (gs.take k) A)):U c (.bY none gs) Q A:=by
 intro code hc a w hs;cases code <;>simp only[dY] at hc <;>try (first | (cases hc;done) | ((repeat' split at hc) <;>cases hc;done))
 rename_i id bg draw;split at hc
 case h_2=>cases hc
 rename_i gs' hgs;split at hc
 case isFalse=>cases hc
 simp only[v6,bj.bY.injEq] at hc;obtain ⟨hdr,rfl⟩:=hc;cases draw with
 |true=>simp at hdr
 |false =>
  refine wpIn_region_list ?_;rw[hk] at hgs;obtain ⟨l1,o,l2,hl,h1,h2⟩:=zW hgs;rw[hl];refine sh (K:=lZ c.P Q g) (fun B a' w' hp hs' =>?_) l1 _ A a w h1 (h _ fun _ hb=>hb) hs;obtain ⟨q1,q2,q3,q4⟩:=oi h2;have wn:Region.wanted o (yielded bg a'.tmps)=true:=by
   rcases q4 with ⟨a5,_⟩ | ⟨_,_,_,_,_,a5⟩
   ·simp[Region.wanted,a5]
   ·simp at a5
  simp only[wpListIn,wn,if_true];exact X0 q1 hp hs'
theorem U.lK{gs gs1 gs2:List au}{g:bt}{dst:Option Nat}(e:gs=gs1++⟨dst,g,none⟩::gs2)(h:∀ K:ae→Prop,(∀ B,lZ c.P Q g B→K B)→aZ c.P c.Y false K (al gs1 A)):U c (.bY none gs) Q A:=by
 subst e;refine U.Yz gs1.length (g:=g) (dst:=dst) ?_ fun K hK =>?_
 ·simp
 ·simpa using h K hK
end
section
variable {P:Program} {n:Nat} {w:World} {D:aH} {E:aN} {rs:List bB} {post:b9} {fn:Func} {ch:List PanicEntry} {f:FuncId} {N b:Nat}
theorem oM{bl:Fence}{m:Nat}{tmps:Array Value}{R R':Ending→World→Prop}(hr:∀ e w,R e w→R' e w):∀ (ds:List Deferred) (u:FrameMode) (w:World),LeavesInM bl m P fn tmps R ds u w→LeavesInM bl m P fn tmps R' ds u w
 | [],u,w,h=>by
  cases u with
  |run=>exact h
  |returning=>obtain ⟨v,h1,h2⟩:=h;exact ⟨v,h1,hr _ _ h2⟩
  |panicking c=>exact hr _ _ h
 |d::ds,u,w,h=>by
  obtain ⟨h1,h2⟩:=h;refine ⟨h1,?_⟩;rcases h2 with ⟨r,w',k1,k2,k3⟩ | ⟨k1,fv,cap,g,args,k2,k3,k4,k5⟩
  ·exact .inl ⟨r,w',k1,k2,oM hr ds u w' k3⟩
  ·refine .inr ⟨k1,fv,cap,g,args,k2,k3,k4,k5.mono fun e u' w' h =>?_⟩;cases e with
   |returned v=>exact oM hr ds _ w' h
   |panicked c=>exact oM hr ds _ w' h
   |outgrown=>exact hr _ _ h
def qR(P:Program)(fn:Func)(rest:Code)(slots:List Nat)(a:Act)(vs:Array Value)(w:World)(R:Ending→World→Prop):Prop :=
 vs.toList=slots.map (fun t=>a.tmps.getD t undef)→rest.wpIn Fence.wide 9 P (bodyPostM Fence.wide 9 P fn R) a w
theorem qR.mono{rest:Code}{slots:List Nat}{a:Act}{vs:Array Value}{w:World}{R R':Ending→World→Prop}(h:qR P fn rest slots a vs w R)(hr:∀ e w,R e w→R' e w):qR P fn rest slots a vs w R':=fun ab=>by
 refine wpIn_mono (h ab) fun e a' w' q =>?_;cases e <;>simp only[bodyPostM] at q ⊢ <;>first
  |exact oM hr _ _ _ q
  |exact hr _ _ q
  |exact q
theorem FI{w:World}{D:aH}{E:aN}(g:Nat→Value):∀ (slots:List Nat) (args:List I),ao w D E args (slots.map g)→∀ t,aR w D E (cj (slots.zip args) t) (g t)
 | [],args,h,t=>by simp[cj,aR]
 |s::slots,[],h,t=>by simp[cj,aR]
 |s::slots,x::args,h,t=>by
  simp only[ao,zz1] at h;obtain ⟨v,rest,cs,e,h1,h2,h3⟩:=h;simp only[zy7] at e;obtain ⟨rfl,rfl⟩:=e;simp only[List.zip_cons_cons,cj];split
  ·rename_i hk;subst hk;exact fG h1 h2
  ·exact FI g slots args h3 t
end
abbrev rS(P:Program)(w:World)(D:aH)(n:Nat)(E:aN)(b:Option (List Deferred)):ct:=⟨P,w,D,n,bU E,E,fO,none,b⟩
theorem aM.Wg{P:Program}{n:Nat}{w:World}{D:aH}{E:aN}{dF:Option (List Deferred)}{post:b9}{A:ae}{a:Act}{w':World}{D':aH}{E':aN}{r:I}{v:Value}{os:List (Nat×aj)}
  (hs:aM (rS P w D n E dF) A a w' D' E') (h1:∀ m z,aD os m=some z→A.o m=some z∧z.only (aC os)=true∧z.eB=true) (hf:r.flat=true) (ab:aR w' D' E' r v) (hp:post r os):fK w D E post v w':=by
 obtain ⟨D2,E2,hw,e2,e2n,q1,q2,q3,q4,q5,q6⟩:=hs.vU h1;exact ⟨D2,E2,r,os,hp,aR.flat hf ab,q1,q2,q3,q4,q5,q6⟩
def ka(b:Nat):Value:=.pointer (some ⟨b,0,none⟩)
def rv(P:Program)(f:FuncId)(k:Nat):Prop:=dZ P f=true∧∀ (bs:List Nat) (w:World),bs.length=k →
 CallsDIn Fence.wide 8 P f (bs.map ka).toArray .returning w fun e u' w'=>(∃ v,e=.returned v)∧u'=.returning∧w'=w
def nG(A:ae):List Nat→List I→ae
 |N::Ns,z::zs=>nG (A.aQ N (.box z)) Ns zs
 |_,_=>A
def kY(E:aN):List Nat→List Nat→List I→Prop
 | [],[],[]=>True
 |N::Ns,b::bs,z::zs=>E N=some (.aE b z.aL)∧kY E Ns bs zs
 |_,_,_=>False
def nX(A:ae):List Nat→List I→Prop
 | [],[]=>True
 |N::Ns,z::zs=>(∃ x,A.o N=some (.box x)∧x.aL=z.aL)∧nX A Ns zs
 |_,_=>False
def rp(P:Program)(f:FuncId)(ch:List PanicEntry)(zs:List I):Prop:=dZ P f=true∧∀ (c:ct) (A:ae) (a:Act) (w:World) (D:aH) (E:aN) (Ns bs:List Nat),c.P=P→aM c A a w D E→kY E Ns bs zs→nX A Ns zs →
 CallsDIn Fence.wide 8 P f (bs.map ka).toArray (.panicking ch) w fun e u' w'=>(∃ v,e=.returned v)∧settle u'=.returning∧aM c (nG A Ns zs) a w' D E
def jQ(f:FuncId)(vs:List Value):Deferred := { target:=.fn (.func f) vs.toArray,args := #[] }
def qI(rs:List bB)(post:b9)(ch:List PanicEntry)(Ns:List Nat)(zs:List I):Exit→ae→Prop
 | .ret,A=>nX A Ns zs∧jd rs post A
 | .panic ch',A=>ch'=ch∧nX A Ns zs∧jd rs post (nG A Ns zs)
 |_,_=>False
theorem kY.len{E:aN} : ∀ {Ns bs:List Nat} {zs:List I},kY E Ns bs zs→bs.length=zs.length∧Ns.length=zs.length
 | [],[],[],_=>⟨rfl,rfl⟩
 |_::Ns,_::bs,_::zs,h=>by
  have:=kY.len h.2;simp[this.1,this.2]
 | [],_::_,_,h=>h.elim
 | [],[],_::_,h=>h.elim
 |_::_,[],_,h=>h.elim
 |_::_,_::_,[],h=>h.elim
section
variable {P:Program} {n:Nat} {w:World} {D:aH} {E:aN} {rs:List bB} {post:b9} {fn:Func} {ch:List PanicEntry} {f:FuncId} {Ns bs:List Nat} {zs:List I}
theorem yV{A:ae}{a:Act}{w':World}{D':aH}{E':aN}{dF:Option (List Deferred)}(hs:aM ⟨P,w,D,n,bU E,E,fO,none,dF⟩ A a w' D' E'):∀ {Ns bs:List Nat} {zs:List I},kY E Ns bs zs→nX A Ns zs→kY E' Ns bs zs
 | [],[],[],_,_=>trivial
 |N::Ns,b::bs,z::zs,h,hx=>by
  refine ⟨?_,yV hs h.2 hx.2⟩;obtain ⟨x,hx,_⟩:=hx.1;have hob:c6 _ w' D' E' N (some (.box x)):=hx▸hs.bD N;rcases hs.vt (n:=N) (e:=.aE b z.aL) h.1 rfl with k | k
  ·exact absurd k (qz hob)
  ·exact k
 | [],_::_,_,h,_=>h.elim
 | [],[],_::_,h,_=>h.elim
 |_::_,[],_,h,_=>h.elim
 |_::_,_::_,[],h,_=>h.elim
theorem Cf(hrs:gv P fn.results.toList=some rs)(hEN:kY E Ns bs zs){A:ae}{D':aH}{E':aN}{u:FrameMode}(hx:nX A Ns zs)
  (hcase:(u=.returning∧jd rs post A∧rv P f zs.length)∨(u=.panicking ch∧jd rs post (nG A Ns zs)∧rp P f ch zs)) :
  ∀ (ds:List Deferred) (a:Act) (w':World),a.defers=ds→aM ⟨P,w,D,n,bU E,E,fO,none,some [jQ f (bs.map ka)]⟩ A a w' D' E'→LeavesInM Fence.wide 9 P fn a.tmps (fun e w'=>∃ v,e=.returned v∧fK w D E post v w') ds u w'
 | [],a,w',hd,hs=>by
  have h1:a.defers=[jQ f (bs.map ka)]:=hs.er;rw[hd] at h1;cases h1
 |d::ds,a,w',hd,hs=>by
  have h1:a.defers=[jQ f (bs.map ka)]:=hs.er;rw[hd] at h1;simp only[zy7] at h1;obtain ⟨rfl,rfl⟩:=h1;refine ⟨by rcases hcase with ⟨rfl,_⟩ | ⟨rfl,_⟩ <;>simp,.inr ⟨fun _=>by decide,.func f,(bs.map ka).toArray,f,(bs.map ka).toArray,rfl,?_,fun _ _=>trivial,?_⟩⟩
  ·have hcb:dZ P f=true:=by rcases hcase with ⟨_,_,h⟩ | ⟨_,_,h⟩ <;>exact h.1
   simp only[jQ,invoke,mA hcb,Array.empty_append]
  ·rcases hcase with ⟨rfl,hr,hi⟩ | ⟨rfl,hr,hc⟩
   ·refine (hi.2 bs w' hEN.len.1).mono ?_;rintro e u' w'' ⟨⟨v,rfl⟩,rfl,rfl⟩;obtain ⟨v,h1,h2⟩:=hs.sC hrs hr;exact ⟨v,h1,v,rfl,h2⟩
   ·refine (hc.2 _ A a w' D' E' Ns bs rfl hs (yV hs hEN hx) hx).mono ?_;rintro e u' w'' ⟨⟨v,rfl⟩,hu,hs2⟩;obtain ⟨v,h1,h2⟩:=hs2.sC hrs hr;simp only[hu];exact ⟨v,h1,v,rfl,h2⟩
theorem Da{w:World}{D:aH}{E:aN} : ∀ {Ns:List Nat} {zs:List I} {vs:List Value},ee (aR w D E) (Ns.map fun N=>.ptr N []) vs→(∀ q∈Ns.zip zs,∃ b,E q.1=some (.aE b q.2.aL))→Ns.length=zs.length→∃ bs,vs=bs.map ka∧kY E Ns bs zs
 | [],[],_,.nil,_,_=>⟨[],rfl,trivial⟩
 |N::Ns,z::zs,_,.cons h hs,hb,hl=>by
  obtain ⟨bs,rfl,h2⟩:=Da (zs:=zs) hs (fun q hq=>hb q (by simp[hq])) (by simpa using hl);obtain ⟨b,aq⟩:=hb (N,z) (by simp);obtain ⟨b',aL,off,p1,p2,rfl⟩:=kT h;simp only at aq;rw[aq] at p1;simp only[v6,bw.aE.injEq] at p1;obtain ⟨rfl,rfl⟩:=p1;have hoff:off=0:=by
   cases hz:z.aL <;>rw[hz] at p2 <;>simpa[bP.off] using p2.symm
  subst hoff;exact ⟨b::bs,rfl,aq,h2⟩
 | [],_::_,_,_,_,hl=>by simp at hl
 |_::_,[],_,_,_,hl=>by simp at hl
theorem rC{α:Type}{R:I→Value→Prop}{f:α→I}{g:α→Value}(h:∀ x,R (f x) (g x)):∀ l:List α,ee R (l.map f) (l.map g)
 | []=>.nil
 |x::l=>.cons (h x) (rC h l)
theorem YL{rest:Code}{x:bj}{slots:List Nat}{a:Act}{args:List I}{os:List (Nat×aj)}{tss:List Nat}(hrs:gv P fn.results.toList=some rs)(hx:dY P n rest=some x)(hsz:a.tmps.size=n)(hd:a.defers=[jQ f (tss.map fun t=>a.tmps.getD t undef)])(hos:∀ m,aC os m=true→n≤m∧1000000≤m)
  (hts:tss.map (cj (slots.zip args))=Ns.map fun N=>.ptr N []) (hl:Ns.length=zs.length) (hN:∀ q∈Ns.zip zs,∃ y,aD os q.1=some (.box y)∧y.aL=q.2.aL) (hi:rv P f zs.length) (hc:rp P f ch zs)
  (hAW:∀ (w:World) (D:aH) (E:aN) (d:Deferred),U ⟨P,w,D,n,bU E,E,fO,none,some [d]⟩ x (qI rs post ch Ns zs) (aw (slots.zip args) os)):mJ (qR P fn rest slots a) (fun w _ E=>eJ P w (bU E)) args os post:=by
 intro w D E vs hl0 hD ho ab hvs;have hvs':vs=slots.map (fun t=>a.tmps.getD t undef):=by simpa using hvs
 subst hvs';have htm:=FI (fun t=>a.tmps.getD t undef) slots args ab;have hp:=rC htm tss;rw[hts] at hp;obtain ⟨bs,hbs,hat⟩:=Da (zs:=zs) hp (fun q hq=>by
  obtain ⟨y,h1,h2⟩:=hN q hq;have hob:c6 _ w D E q.1 (some (.box y)):=h1▸ho.bD q.1;obtain ⟨b',cs,T,e1,_⟩:=hob;exact ⟨b',by rw[e1,h2]⟩) hl
 rw[hbs] at hd;have hsim:aM ⟨P,w,D,n,bU E,E,fO,none,some [jQ f (bs.map ka)]⟩ (aw (slots.zip args) os) a w D E:=by
  refine ⟨hsz,hd,htm,eH.refl _ _,fun _ _ h _=>h,hD,fun m =>?_,ho.cD,fun m e h=>.inr ⟨e,h,.refl e⟩,fun m hm =>?_,fun _ _ h=>h,pA hl0,.refl _ _⟩
  ·have h:=ho.bD m;simp only[aw];cases hx:aD os m with
   |none=>rw[hx] at h;exact h
   |some x=>rw[hx] at h;exact c6.jE h fun e b he hb=>.inr ⟨m,e,he,hb⟩
  ·refine hos m ?_;cases hx:aD os m with
   |none=>have h:=ho.bD m;rw[hx] at h;exact absurd h hm
   |some x=>simp[aC,hx]
 refine wpIn_mono ((hAW w D E _) rest hx a w ⟨D,E,hsim⟩) ?_;rintro e a' w' ⟨A,hq,D',E',hs⟩;have bf:∀ e w',(∃ v,e=Ending.returned v∧fK w D E post v w')→∃ v D' E' r os',e=.returned v∧post r os'∧aR w' D' E' r v∧jq (fun b=>w.heap.size≤b∨bU E b) w' D' E' (aD os') ∧
   eH (fun b=>w.heap.size≤b∨bU E b) w w'∧(∀ b o,D b o→D' b o)∧(∀ b o,D' b o→b<w'.heap.size)∧(∀ b o,D' b o→b<w.heap.size→¬ bU E b→D b o) ∧
   (∀ n e,E n=some e→aC os' n=true→∃ e',E' n=some e'∧e.eD e')∧gq w D w':=fun e w' ⟨v,h1,D',E',r,os',h2⟩=>⟨v,D',E',r,os',h1,h2⟩
 cases e <;>simp only[qI] at hq
 ·obtain ⟨h1,h2⟩:=hq;exact oM bf _ _ _ (Cf (ch:=ch) hrs hat h1 (.inl ⟨rfl,h2,hi⟩) a'.defers a' w' rfl hs)
 ·obtain ⟨rfl,h1,h2⟩:=hq;exact oM bf _ _ _ (Cf hrs hat h1 (.inr ⟨rfl,h2,hc⟩) a'.defers a' w' rfl hs)
end
def px:List ay→Option (List Nat)
 | []=>some []
 | .t n::l=>(px l).map (n :: ·)
 |_=>none
theorem FJ:∀ {l:List ay} {ts:List Nat},px l=some ts→l=ts.map .t
 | [],ts,h=>by simp only[px,v6] at h;subst h;rfl
 | .t n::l,ts,h=>by
  simp only[px,t7] at h;obtain ⟨r,h1,rfl⟩:=h;rw[FJ h1];rfl
 | .c _::_,_,h=>by simp[px] at h
def u1(P:Program)(n:Nat):Code→Option (bj×FuncId×List Nat×Nat×bj)
 | .seq iU (.seq (.region _ bg false) rest)=>match bg.toList with
  | [o1,o2]=>match lr P n bg o1,o2.op with
   |some ⟨some t5,.mk g caps,none⟩,.defer { callee:=.value (.tmp t),args,.. } =>if t=t5∧args = #[]∧o2.guard=none∧o2.dst=none then (match dY P n iU,dY P n rest,px caps with
     |some x0,some x,some tss=>some (x0,g,tss,t5,x)
     |_,_,_=>none)
    else none
   |_,_=>none
  |_=>none
 |_=>none
structure GG (P:Program) (n:Nat) (x:bj) (rs:List bB) (post:b9) (ch:List PanicEntry) (g:FuncId) (tss:List Nat) (t5:Nat) (tsl:List (Nat×I)) (os0:List (Nat×aj)) (ρ:List (Nat×Nat)) (os1:List (Nat×aj)) (slots:List Nat) (cargs:List I) (Ns:List Nat) (zs:List I) (post1:b9):Prop where
 bp:tss.map (cj tsl)=Ns.map fun N=>.ptr (bo ρ N) []
 BJ:eX ρ os1 os0
 arg:gr false (aw ((t5,.func g (Ns.map fun N=>.ptr (bo ρ N) []))::tsl) (cZ (iT ρ os1) os0)) ρ os1 (slots.map (cj ((t5,.func g (Ns.map fun N=>.ptr (bo ρ N) []))::tsl))) cargs
 yL:∀ r os',post1 r os'→dL false ρ os1 os0 r os'
 Fk:tss.map (cj (slots.zip cargs))=Ns.map fun N=>.ptr N []
 len:Ns.length=zs.length
 box:∀ q∈Ns.zip zs,∃ y,aD os1 q.1=some (.box y)∧y.aL=q.2.aL
 mc:∀ m,aC os1 m=true→n≤m∧1000000≤m
 rest:∀ (w:World) (D:aH) (E:aN) (d:Deferred),U ⟨P,w,D,n,bU E,E,fO,none,some [d]⟩ x (qI rs post1 ch Ns zs) (aw (slots.zip cargs) os1)
 ln:∀ r os',post1 r os'→∃ osF,r.flat=true∧r.aT (bo ρ)=r∧(∀ m z,aD osF m=some z→aD (df ρ os'++os0) m=some z∧z.only (aC osF)=true∧z.eB=true)∧post r osF
theorem Db{w:World}{D:aH}{E:aN}{ρ:List (Nat×Nat)} : ∀ {Ns:List Nat} {vs vs':List Value},ee (aR w D E) (Ns.map fun N=>.ptr (bo ρ N) []) vs→ee (aR w D E) (Ns.map fun N=>.ptr (bo ρ N) []) vs'→vs=vs'
 | [],_,_,.nil,.nil=>rfl
 |N::Ns,_,_,.cons h hs,.cons h' hs'=>by
  obtain ⟨b1,sh1,off1,p1,p2,rfl⟩:=kT h;obtain ⟨b2,sh2,off2,q1,q2,rfl⟩:=kT h';rw[p1] at q1;simp only[v6,bw.aE.injEq] at q1;obtain ⟨rfl,rfl⟩:=q1;rw[p2] at q2;simp only[v6] at q2;subst q2;rw[Db hs hs']
theorem eW.XE{P:Program}{f:FuncId}{fn:Func}{x0 x:bj}{g:FuncId}{tss:List Nat}{t5:Nat}{rs:List bB}{args:List I}{os:List (Nat×aj)}{post:b9}{ch:List PanicEntry}{zs:List I}(hf:P.funcs[f]?=some fn)(hcall:dZ P f=true)(hc:(fn.body.bind (u1 P fn.ntmps))=some (x0,g,tss,t5,x))
  (hrs:gv P fn.results.toList=some rs) (hn:args.length≤fn.ntmps) (hn2:fn.ntmps≤1000000) (hos:∀ m,aC os m=true→1000000≤m) (hi:rv P g zs.length) (hca:rp P g ch zs) (hts:tss.contains t5=false)
  (h:I.fB args→∀ (w:World) (D:aH) (E:aN),U ⟨P,w,D,fn.ntmps,bU E,E,fO,none,some []⟩ x0 (cT (fun B=>∃ tsl os0 ρ os1 slots cargs Ns post1,B=aw tsl os0∧GG P fn.ntmps x rs post ch g tss t5 tsl os0 ρ os1 slots cargs Ns zs post1) (fun _ _=>False)) (aw (bH 0 args) os)):eW P f args os post:=by
 obtain ⟨body,hb,hc⟩:=zw6.1 hc;refine ⟨hcall,fun w D E vs hl hD ho ab =>?_⟩;have hlen:=qS ab;have s0:=xz (P:=P) (n:=fn.ntmps) (Y:=fO) hD ho ab (by omega) (fun m hm=>⟨Nat.le_trans hn2 (hos m hm),hos m hm⟩) (pA hl);have hsim:aM (rS P w D fn.ntmps E (some [])) (nO args os) { tmps:=vs.toArray++Array.replicate (fn.ntmps-vs.toArray.size) undef,defers:=[] } w D E :=
  ⟨s0.sz,rfl,s0.dK,s0.dn,s0.cO,s0.cS,s0.bD,s0.cD,s0.dG,s0.eN,s0.cE,pA hl,s0.fy⟩
 obtain ⟨RR,hRR⟩:∃ RR:Ending→World→Prop,RR=fun e w'=>∃ v,e=.returned v∧fK w D E post v w':=⟨_,rfl⟩
 refine Calls.mono (R:=RR) ?_ (fun e w' q=>by rw[hRR] at q;obtain ⟨v,he,D',E',r,os',k⟩:=q;exact ⟨v,D',E',r,os',he,k⟩);refine (callsIn_wide (n:=9)).1 (callsIn_of_wp_marks hf hb trivial ?_);unfold u1 at hc;split at hc
 case h_2=>cases hc
 rename_i iU id bg rest;split at hc
 case h_2=>cases hc
 rename_i o1 o2 hops;split at hc
 case h_2=>cases hc
 rename_i t5' g' caps t dargs _ hg1 ho2;split at hc
 case isFalse=>cases hc
 rename_i hok;obtain ⟨ht,hda,hgd,hdst⟩:=hok;split at hc
 case h_2=>cases hc
 rename_i y0 y tss' hx0 hx htt;simp only[v6,Prod.mk.injEq] at hc;obtain ⟨e1,e2,e3,e4,e5⟩:=hc;subst e4 ht hda e1 e2 e3 e5;have hcaps:=FJ htt;subst hcaps;refine wpIn_seq ?_;have hw0:=((h (pj _ _ ab) w D E).sub (tO args os)) iU hx0 _ w ⟨D,E,hsim⟩;refine wpIn_mono hw0 ?_;rintro e a1 w1 ⟨B,hq,D1,E1,hs1⟩;cases e <;>simp only[cT] at hq
 obtain ⟨tsl,os0,ρ,os1,slots,cargs,Ns,post1,rfl,R⟩:=hq;simp only[Exit.then];refine wpIn_seq (wpIn_region_list ?_);rw[hops];obtain ⟨q1,q2,q3,q4⟩:=oi hg1;simp only at q1 q2;have wn1:∀ a:Act,Region.wanted o1 (yielded bg a.tmps)=true:=fun a=>by
  rcases q4 with ⟨a5,_⟩ | ⟨_,_,_,_,_,a5⟩
  ·simp[Region.wanted,a5]
  ·simp at a5
 have wn2:∀ a:Act,Region.wanted o2 (yielded bg a.tmps)=true:=fun a=>by simp[Region.wanted,hgd]
 simp only[wpListIn,wn1,if_true];have hmk:aY (aw tsl os0) (.mk g' (tss'.map .t))=some (.func g' (Ns.map fun N=>.ptr (bo ρ N) [])):=by
  have e:(tss'.map ay.t).map (ah (aw tsl os0))=Ns.map fun N=>.ptr (bo ρ N) []:=by
   rw[←R.bp,List.map_map];rfl
  simp only[aY,e];rw[if_pos];simp[I.cC]
 have d1:=(Dd (c:=rS P w D fn.ntmps E (some [])) q1 hmk).does q3;rw[←q2] at d1;refine d1.wp q1 ⟨D1,E1,hs1⟩ fun a2 w2 hs2 =>?_;obtain ⟨D2,E2,hs2⟩:=hs2;simp only[wn2,if_true];rw[Ct] at hs2
 -- the deferred call
 have hglt:=Ac hi.1;have hfv:=hs2.dK t;simp only[aw,cj,if_true] at hfv;obtain ⟨fc,f1,f2⟩:=hfv;simp only[af] at f2;obtain ⟨fvs,f3,f4⟩:=f2;have hval:a2.tmps.getD t undef=.func (.func g') #[] fvs.toArray:=by
  rw[←mb hglt];simpa[ba,I.isAgg,f3] using f1.symm
 have htl:tss'.map (cj ((t,.func g' (Ns.map fun N=>.ptr (bo ρ N) []))::tsl))=Ns.map fun N=>.ptr (bo ρ N) []:=by
  rw[←R.bp];refine List.map_congr_left fun k hk =>?_;simp only[cj];rw[if_neg];intro e;have:tss'.contains k=true:=by simpa using hk
  rw[e,hts] at this;cases this
 have hfvs:fvs=tss'.map fun k=>a2.tmps.getD k undef:=by
  refine Db (w:=w2) (D:=D2) (E:=E2) (ρ:=ρ) (pf f4) ?_;have:=rC (f:=cj ((t,.func g' (Ns.map fun N=>.ptr (bo ρ N) []))::tsl)) (g:=fun k=>a2.tmps.getD k undef) (fun k=>hs2.dK k) tss'
  rwa [htl] at this
 have hdf:a2.defers=[]:=hs2.er;obtain ⟨a3,ha3⟩:∃ a3:Act,a3 = { a2 with defers:=[jQ g' (tss'.map fun k=>a2.tmps.getD k undef)] } :=⟨_,rfl⟩
 have hrun:(o2.semAt Fence.wide.round a2.eval).run P w2=.ok (.defer (jQ g' (tss'.map fun k=>a2.tmps.getD k undef))) w2:=by
  show (execOp a2.eval o2).run P w2=_
  have he:a2.eval (.tmp t)=.func (.func g') #[] fvs.toArray:=hval;simp[execOp,ho2,resolve,he,Deferred.ofValue,jQ,hfvs]
 refine ⟨fun _ _=>trivial,?_⟩;rw[hrun,Oper.uponIn_defer,hdf,hdst];simp only[Exit.then];have hput:({ tmps:=a2.tmps,defers:=[jQ g' (tss'.map fun k=>a2.tmps.getD k undef)] } : Act).put none undef=a3:=by rw[ha3];rfl
 rw[hput]
 -- the rest
 have hand:=YL (P:=P) (n:=fn.ntmps) (fn:=fn) (f:=g') (Ns:=Ns) (zs:=zs) (ch:=ch) (slots:=slots) (a:=a3) (args:=cargs) (os:=os1) (tss:=tss') hrs hx (by rw[ha3];exact hs2.sz) (by rw[ha3]) R.mc R.Fk R.len R.box hi hca R.rest;have hs3:aM (rS P w D fn.ntmps E (some [jQ g' (tss'.map fun k=>a2.tmps.getD k undef)])) (aw ((t,.func g' (Ns.map fun N=>.ptr (bo ρ N) []))::tsl) os0) a3 w2 D2 E2:=by
  rw[ha3];exact ⟨hs2.sz,rfl,hs2.dK,hs2.dn,hs2.cO,hs2.cS,hs2.bD,hs2.cD,hs2.dG,hs2.eN,hs2.cE,pA hl,hs2.fy⟩
 have hall:∀ l:List Nat,ee (aR w2 D2 E2) (l.map (cj ((t,.func g' (Ns.map fun N=>.ptr (bo ρ N) []))::tsl))) (l.map fun k=>a3.tmps.getD k undef):=fun l=>rC (fun k=>hs3.dK k) l;have hus:=hand.use hs3 false (fun h hr=>h.mono hr) ⟨(fun h=>by cases h),fun _=>hs3.oL⟩ R.BJ R.arg R.yL (hall slots);refine qR.mono hus ?_ (by simp);rintro e w' ⟨v,r,os',D4,E4,rfl,hp,hs4,hv4,_⟩;rw[hRR];obtain ⟨osF,g1,g2,g3,g4⟩:=R.ln r os' hp;rw[g2] at hv4;exact ⟨v,rfl,hs4.Wg g3 g1 hv4 g4⟩
end Go.Abs
