/-
  A part of the proof that the law RollScans returns true for every input; five variables of Go's library start as the text lays them (the card ties them); conditions: none beyond the statement's own. (part 3 of 6)
-/
import Derived.Test.YtoffnnjbplgnaaaGreatDoorChecked
import Derived.KernelRfl
import Derived.RangeFuncIn
import Derived.Laws.Externs
import Derived.RecoverIn
import Derived.ProofKit
import Derived.SizedLaws
import Derived.Test.YtoffnnjbplgnaaaGreatDoorNab
set_option linter.unusedSimpArgs false
set_option linter.unusedVariables false
set_option maxHeartbeats 16000000
set_option maxRecDepth 100000
namespace Go.Abs
open Go Go.RowKit
def cj(ts:List (Nat×I)):List (Nat×I)→Prop
 | []=>True
 |(k,v)::r=>b8 ts k=v∧cj ts r
def cn(os:List (Nat×ah)):List (Nat×ah)→Prop
 | []=>True
 |(k,v)::r=>aJ os k=some v∧cn os r
def cm(p:Nat→Bool):List (Nat×I)→Prop
 | []=>True
 |(_,v)::r=>v.only p=true∧cm p r
theorem wi{ts:List (Nat×I)} : ∀ {ts':List (Nat×I)},cj ts ts'→∀ k,b8 ts' k=.cT∨b8 ts' k=b8 ts k
 | [],_,k=>.inl rfl
 |(j,v)::r,h,k=>by
  simp only[cj] at h;simp only[b8];split
  ·rename_i hk;subst hk;exact .inr h.1.symm
  ·exact wi h.2 k
theorem DA{os:List (Nat×ah)} : ∀ {os':List (Nat×ah)},cn os os'→∀ k,aJ os' k=none∨aJ os' k=aJ os k
 | [],_,k=>.inl rfl
 |(j,v)::r,h,k=>by
  simp only[cn] at h;simp only[aJ];split
  ·rename_i hk;subst hk;exact .inr h.1.symm
  ·exact DA h.2 k
theorem Bi{p:Nat→Bool} : ∀ {ts:List (Nat×I)},cm p ts→∀ k,(b8 ts k).only p=true
 | [],_,k=>by simp[b8,I.only]
 |(j,v)::r,h,k=>by
  simp only[cm] at h;simp only[b8];split
  ·exact h.1
  ·exact Bi h.2 k
theorem Bh{p:Nat→Bool} : ∀ {os:List (Nat×ah)},bQ p os→∀ k x,aJ os k=some x→x.only p=true
 | [],_,k,x,hx=>by simp[aJ] at hx
 |(j,v)::r,h,k,x,hx=>by
  simp only[bQ] at h;simp only[aJ] at hx;split at hx
  ·simp only[v6] at hx;subst hx;exact h.1
  ·exact Bh h.2 k x hx
theorem bw.cK{ts ts':List (Nat×I)}{os os':List (Nat×ah)}(h1:cj ts ts')(h2:cn os os')(h3:cm (aB os') ts')(h4:bQ (aB os') os'):bw (ay ts os) (ay ts' os'):=by
 rintro c a w ⟨D,E,hs⟩;have hp:∀ n,aB os' n=true→(if aB os' n then E n else none)=E n:=fun n hn=>by simp[hn]
 refine ⟨D,fun n=>if aB os' n then E n else none,hs.sz,hs.eb,fun t =>?_,hs.de,hs.cH,hs.cJ,fun n =>?_,fun n m e e' b h1 h2 h3 h4 =>?_,fun n e hn =>?_,hs.eB,hs.cq,hs.eF,hs.eV⟩
 ·have:=wi h1 t;rcases this with h | h
  ·simp only[ay];rw[h];simp[aO]
  ·refine aO.dy (p:=aB os') hp (Bi h3 t) ?_;have:=hs.dx t;simp only[ay] at *;rw[h];exact this
 ·have ho:=hs.bx n;simp only[ay] at *;rcases DA h2 n with h | h
  ·rw[h];simp[cW,aB,h]
  ·rw[h];by_cases hin:aJ os n=none
   ·rw[hin];simp[cW,aB,h,hin]
   ·have aq:(if aB os' n then E n else none)=E n:=hp n (by simp[aB,h];cases hh:aJ os n <;>simp_all);cases hx:aJ os n with
    |none=>exact absurd hx hin
    |some x =>
     have hon:=Bh h4 n x (h.trans hx);rw[hx] at ho;cases x with
     |box x =>
      obtain ⟨b,cs,T,k1,k2,k3,k4,k5⟩:=ho;exact ⟨b,cs,T,aq.trans k1,k2,k3,af.dy hp _ _ (by simpa[ah.only] using hon) k4,k5⟩
     |bC T sz es =>
      obtain ⟨az,k1,k2,k3⟩:=ho;refine ⟨az,aq.trans k1,k2,?_⟩;cases az with
      |none=>exact k3
      |some bc =>
       obtain ⟨b,cap⟩:=bc;obtain ⟨cs,pre,rest,q1,q2,q3,q4,q5⟩:=k3;exact ⟨cs,pre,rest,q1,q2,q3,aC.dy hp _ _ (by simpa[ah.only] using hon) q4,q5⟩
     |dJ T xs =>
      obtain ⟨az,k1,k2,k3⟩:=ho;exact ⟨az,aq.trans k1,k2,k3⟩
     |c8 x =>
      obtain ⟨b,k1,k2⟩:=ho;exact ⟨b,aq.trans k1,k2⟩
     |bZ ks vs =>
      obtain ⟨b,es,ck,k1,k2,k3,k4,k5,k6,k7⟩:=ho;simp only[ah.only,Z0] at hon;exact ⟨b,es,ck,aq.trans k1,k2,k3,k4,al.dy hp _ _ hon.1 k5,al.dy hp _ _ hon.2 k6,k7⟩
     |it ks vs left cur =>
      obtain ⟨r,b,es,ck,dm,se,la,k1,k2,k3,k4,k5,k6,k7⟩:=ho;simp only[ah.only,Z0] at hon;exact ⟨r,b,es,ck,dm,se,la,aq.trans k1,k2,k3,k4,al.dy hp _ _ hon.1 k5,al.dy hp _ _ hon.2 k6,k7⟩
 ·refine hs.ct n m e e' b ?_ ?_ h3 h4
  ·split at h1
   ·exact h1
   ·cases h1
  ·split at h2
   ·exact h2
   ·cases h2
 ·by_cases hi:aB os' n=true
  ·simp only[hi,if_true];exact hs.dv n e hn
  ·simp only[hi];exact .inl rfl
def bB:Nat→List I→List (Nat×I)
 |_,[]=>[]
 |k,a::aS9=>(k,a)::bB (k+1) aS9
theorem AI:∀ (aS9:List I) (k t:Nat),b8 (bB k aS9) t=if t<k then .cT else (aS9[t-k]?).getD .cT
 | [],k,t=>by simp[bB,b8]
 |a::aS9,k,t=>by
  simp only[bB,b8,AI aS9 (k+1) t];by_cases h:t=k
  ·subst h;simp
  ·rw[if_neg h];by_cases h2:t<k
   ·rw[if_pos (by omega),if_pos h2]
   ·rw[if_neg (by omega),if_neg h2,show t-k=(t-(k+1))+1 from by omega];simp
theorem sP(args:List I)(os:List (Nat×ah)):bw (mV args os) (ay (bB 0 args) os):=by
 rintro c a w ⟨D,E,hs⟩;refine ⟨D,E,hs.sz,hs.eb,fun t =>?_,hs.de,hs.cH,hs.cJ,hs.bx,hs.ct,hs.dv,hs.eB,hs.cq,hs.eF,hs.eV⟩;have:=hs.dx t;simp only[ay,AI,mV,Nat.not_lt_zero,if_false,Nat.sub_zero] at *;cases h:args[t]? with
 |none=>simp[aO]
 |some x=>simpa[Y7,h] using this
theorem W6(args:List I):bw (mU args) (ay (bB 0 args) []):=sP args []
theorem u5(ts:List (Nat×I))(os:List (Nat×ah))(d:Nat)(v:I):(ay ts os).put d v=ay ((d,v)::ts) os:=rfl
theorem AO(ts:List (Nat×I))(os:List (Nat×ah))(d:Nat)(v:I):(ay ts os).aM (some d) v=ay ((d,v)::ts) os:=rfl
theorem Uu(A:ab)(v:I):A.aM none v=A:=rfl
theorem rU(ts:List (Nat×I))(os:List (Nat×ah))(d:Nat)(x:ah):(ay ts os).aP d x=ay ts ((d,x)::os):=rfl
theorem Uv(ts:List (Nat×I))(os:List (Nat×ah))(k:Nat):(ay ts os).t k=b8 ts k:=rfl
theorem Ut(ts:List (Nat×I))(os:List (Nat×ah))(k:Nat):(ay ts os).o k=aJ os k:=rfl
theorem cg(j:Nat)(v:I)(r:List (Nat×I))(k:Nat):b8 ((j,v)::r) k=if k=j then v else b8 r k:=rfl
theorem dR(j:Nat)(v:ah)(r:List (Nat×ah))(k:Nat):aJ ((j,v)::r) k=if k=j then some v else aJ r k:=rfl
theorem Uk(k:Nat):aJ [] k=none:=rfl
theorem KJ(A:ab)(k:Nat):ae A (.t k)=A.t k:=rfl
theorem KI(A:ab)(x:I):ae A (.c x)=x:=rfl
noncomputable def cB(d:Option Nat)(rest:List ar)(A:ab)(v:I):bW:=ao rest (A.aM d v)
theorem TP(d:Option Nat)(rest:List ar)(A:ab)(v:I):cB d rest A v=ao rest (A.aM d v):=rfl
theorem FV(v:I)(k:I→bW):b7 (some v) k=k v:=rfl
theorem Fb(A:ab):ao [] A=.done A:=rfl
noncomputable def bn(A:ab)(d:Option Nat)(op:bq)(rest:List ar):bW:=aU A d op rest (ao rest)
noncomputable def fP(x:I)(b:Bool)(d:Option Nat)(op:bq)(rest:List ar)(A:ab):bW :=
 match x with
 | .bool b'=>if b'=b then bn A d op rest else ao rest (A.aM d .undef)
 | .undef=>ao rest (A.aM d .undef)
 |_=>.fail
theorem aX.guard{P:Program}{Y:Value→List I→List (Nat×ah)→bY→Prop}{dr:Bool}{K:ab→Prop}{x b:Bool}{d:Option Nat}{op:bq}{rest:List ar}{A:ab}(h1:x=b→aX P Y dr K (bn A d op rest))(h2:x = !b→aX P Y dr K (ao rest (A.aM d .undef))):aX P Y dr K (fP (.bool x) b d op rest A):=by
 unfold fP;by_cases h:x=b
 ·simp only[if_pos h];exact h1 h
 ·simp only[if_neg h];exact h2 (by cases x <;>cases b <;>simp_all)
def I.cZ:I→Option (List I)
 | .agg fs=>some fs
 |_=>none
def ni(p:List Nat):Option I→Option I
 |some f=>f.at p
 |none=>none
def kr(i:Nat)(p:List Nat):Option (List I)→Option I
 |some fs=>ni p fs[i]?
 |none=>none
theorem qG(c:I):c.at []=some c:=by cases c <;>rfl
theorem Fv(c:I)(i:Nat)(p:List Nat):c.at (i::p)=kr i p c.cZ:=by
 cases c <;>first | rfl | (rename_i fs;simp only[I.at,kr,I.cZ,ni])
def oo(fs:List I)(i:Nat)(p:List Nat)(v:I):Option I→I
 |some f=>.agg (fs.set i (f.dp p v))
 |none=>.agg fs
def mO(c:I)(i:Nat)(p:List Nat)(v:I):Option (List I)→I
 |some fs=>oo fs i p v fs[i]?
 |none=>c
theorem fi(c v:I):c.dp [] v=v:=by cases c <;>rfl
theorem sI(c:I)(i:Nat)(p:List Nat)(v:I):c.dp (i::p) v=mO c i p v c.cZ:=by
 cases c <;>first | rfl | (rename_i fs;simp only[I.dp,mO,I.cZ];cases fs[i]? <;>rfl)
def dE(p:List Nat):Option ah→Option I
 |some (.box c)=>c.at p
 |_=>none
def fk(A:ab):I→Option I
 | .ref x=>some x
 | .ptr n p=>dE p (A.o n)
 |_=>none
theorem jr(A:ab)(x:I):bN A x=fk A x:=by
 cases x <;>first | rfl | (rename_i n p;simp only[bN,fk];cases A.o n with | none=>rfl | some y=>cases y <;>rfl)
def lI(s:Option Nat)(x:I):Option I:=if bU s x=true then some x else none
def fu(s:Option Nat):Option I→Option I
 |some x=>lI s x
 |none=>none
open Classical in
noncomputable def fE(fs:List I)(f off:Nat)(y:I):Option I:=if f<fs.length∧I.sizes (fs.take f)=off then some y else none
noncomputable def o7(n:Nat)(p:List Nat)(f off:Nat):Option (List I)→Option I
 |some fs=>fE fs f off (.ptr n (p++[f]))
 |none=>none
noncomputable def oZ(fs:List I)(f off:Nat):Option I→Option I
 |some v=>fE fs f off (.ref v)
 |none=>none
noncomputable def qX(f off:Nat):Option (List I)→Option I
 |some fs=>oZ fs f off fs[f]?
 |none=>none
def en:Option I→Option (List I)
 |some x=>x.cZ
 |none=>none
noncomputable def lz(A:ab)(f off:Nat):I→Option I
 | .ref c=>qX f off c.cZ
 | .ptr n p=>o7 n p f off (en (dE p (A.o n)))
 |_=>none
theorem VU(A:ab)(f off:Nat)(x:av):aT A (.fa f off x)=lz A f off (ae A x):=by
 simp only[aT];generalize ae A x=y;cases y with
 |ref c =>
  cases c <;>simp only[lz,I.cZ,qX]
  rename_i fs;cases h:fs[f]? with
  |none=>simp[oZ]
  |some v =>
   have hl:f<fs.length:=(Z6.1 h).1;simp only[oZ,fE,hl,true_and]

 |ptr n p =>
  simp only[lz,jr,fk];cases dE p (A.o n) with
  |none=>simp[en,o7]
  |some c =>
   cases c <;>simp only[en,I.cZ,o7]
   simp only[fE]

 |_=>simp only[lz]
noncomputable def re(f off:Nat)(s:Option Nat):Option (List I)→Option I
 |some fs=>match fs[f]? with
  |some v=>(fE fs f off v).bind (lI s)
  |none=>none
 |none=>none
theorem VV(A:ab)(f off:Nat)(s:Option Nat)(x:av):aT A (.fl f off s x)=re f off s (ae A x).cZ:=by
 simp only[aT];generalize ae A x=y;cases y <;>simp only[re,I.cZ]
 rename_i fs;cases h:fs[f]? with
 |none=>rfl
 |some v =>
  have hl:f<fs.length:=(Z6.1 h).1;simp only[fE,hl,true_and];by_cases h1:I.sizes (fs.take f)=off <;>by_cases h2:bU s v=true <;>simp[h1,h2,lI]
open Classical in
noncomputable def ic(k:Int)(n:Nat)(y:Option I):Option I:=if 0≤k∧k<n then y else none
noncomputable def iG(n esz:Nat)(fs:List I)(y:Option I):Option I:=if gx n esz fs=true then y else none
noncomputable def nI(n esz:Nat)(k:Int):Option (List I)→Option I
 |some fs=>iG n esz fs ((fs[k.toNat]?).map .ref)
 |none=>none
noncomputable def ph(n esz m:Nat)(p:List Nat)(k:Int):Option (List I)→Option I
 |some fs=>iG n esz fs (some (.ptr m (p++[k.toNat])))
 |none=>none
noncomputable def mb(A:ab)(n esz:Nat)(k:Int):I→Option I
 | .ref c=>ic k n (nI n esz k c.cZ)
 | .ptr m p=>ic k n (ph n esz m p k (en (dE p (A.o m))))
 |_=>none
noncomputable def pg(A:ab)(n esz:Nat)(x:I):I→Option I
 | .int _ k=>mb A n esz k x
 |_=>none
theorem VW(A:ab)(n esz:Nat)(x i:av):aT A (.ia n esz x i)=pg A n esz (ae A x) (ae A i):=by
 simp only[aT];generalize ae A x=y;generalize ae A i=z;cases z <;>simp only[pg]
 rename_i kk k;cases y with
 |ref c =>
  simp only[mb,ic];split
  ·cases c <;>simp only[I.cZ,nI,iG]
  ·rfl
 |ptr m p =>
  simp only[mb,ic,jr,fk];split
  ·cases dE p (A.o m) with
   |none=>simp[en,ph]
   |some c=>cases c <;>simp only[en,I.cZ,ph,iG]
  ·rfl
 |_=>simp only[mb];split <;>rfl
open Classical in
noncomputable def mf(m:Nat)(p:List Nat)(sz lo l esz:Nat)(k:Int):Option (List I)→Option I
 |some _=>if sz=esz∧0≤k∧k<l then some (.ptr m (p++[lo+k.toNat])) else none
 |none=>none
open Classical in
noncomputable def iX(A:ab)(esz:Nat)(k:Int):I→Option I
 | .slice sz es=>if sz=esz∧0≤k∧k<es.length then (es[k.toNat]?).map .ref else none
 | .own m l=>match A.o m with
  |some (.bC _ sz es)=>if l=es.length∧sz=esz∧0≤k∧k<es.length then (es[k.toNat]?).map .ref else none
  |_=>none
 | .view m p sz lo l=>mf m p sz lo l esz k (en (dE p (A.o m)))
 |_=>none
noncomputable def po(A:ab)(esz:Nat)(x:I):I→Option I
 | .int _ k=>iX A esz k x
 |_=>none
theorem VX(A:ab)(esz:Nat)(x i:av):aT A (.is esz x i)=po A esz (ae A x) (ae A i):=by
 simp only[aT];generalize ae A x=y;generalize ae A i=z;cases z <;>simp only[po]
 cases y <;>simp only[iX]
 ·split <;>simp_all
 ·rename_i m p sz lo l;simp only[jr,fk];cases dE p (A.o m) with
  |none=>rfl
  |some c=>cases c <;>simp only[en,I.cZ,mf]
noncomputable def mg(n esz:Nat)(s:Option Nat)(k:Int):Option (List I)→Option I
 |some fs=>ic k n (iG n esz fs (fu s fs[k.toNat]?))
 |none=>none
noncomputable def pw(n esz:Nat)(s:Option Nat)(x:I):I→Option I
 | .int _ k=>mg n esz s k x.cZ
 |_=>none
theorem VY(A:ab)(n esz:Nat)(s:Option Nat)(x i:av):aT A (.ix n esz s x i)=pw n esz s (ae A x) (ae A i):=by
 simp only[aT];generalize ae A x=y;generalize ae A i=z;cases z <;>simp only[pw]
 rename_i kk k;cases y <;>simp only[I.cZ,mg]
 case agg fs =>
  simp only[ic,iG];split
  ·split
   ·cases fs[k.toNat]? <;>rfl
   ·rfl
  ·rfl
 all_goals (split <;>rfl)
def jy(A:ab):I→Option I
 | .slice _ es=>some (.int .i64 es.length)
 | .nils _=>some (.int .i64 0)
 | .c0 _=>some (.int .i64 0)
 | .own m l=>match A.o m with | some (.bC _ _ es)=>if l=es.length then some (.int .i64 es.length) else none | _=>none
 | .view _ _ _ _ k=>some (.int .i64 k)
 |_=>none
theorem V0(A:ab)(x:av):aT A (.len x)=jy A (ae A x):=by
 simp only[aT];generalize ae A x=y;cases y <;>rfl
open Classical in
noncomputable def ql(n esz:Nat)(fs:List I)(y:I):Option I:=if gx n esz fs=true∧n≤maxLen∧n≠0 then some y else none
noncomputable def qm(n esz m:Nat)(p:List Nat):Option (List I)→Option I
 |some fs=>ql n esz fs (.view m p esz 0 n)
 |none=>none
noncomputable def DM(n esz:Nat):Option (List I)→Option I
 |some fs=>ql n esz fs (.slice esz fs)
 |none=>none
noncomputable def mY(A:ab)(n esz:Nat):I→Option I
 | .ptr m p=>qm n esz m p (en (dE p (A.o m)))
 | .ref c=>DM n esz c.cZ
 |_=>none
theorem V1(A:ab)(n esz:Nat)(x:av):aT A (.va n esz x)=mY A n esz (ae A x):=by
 simp only[aT];generalize ae A x=y;cases y with
 |ptr m p =>
  simp only[mY,jr,fk];cases dE p (A.o m) with
  |none=>simp[en,qm]
  |some c=>cases c <;>simp only[en,I.cZ,qm,ql] <;>(split <;>simp_all)
 |ref c=>cases c <;>simp only[mY,I.cZ,DM,ql] <;>(split <;>simp_all)
 |_=>simp only[mY]
theorem VZ(A:ab)(s:Option Nat)(x:av):aT A (.ld s x)=fu s (fk A (ae A x)):=by
 simp only[aT,jr];cases fk A (ae A x) <;>simp only[fu,lI]
noncomputable def pO(A:ab)(d:Option Nat)(a b:av)(rest:List ar):I→bW
 | .bool t=>ao rest (A.aM d (if t then ae A a else ae A b))
 |_=>.fail
noncomputable def qk(op:UnOp)(x:I):Option I:=match op,x with
  | .not,.bool b=>some (.bool !b)
  | .neg,.int k n=>some (.int k (k.wrap (0-n)))
  | .xor,.int k n=>some (.int k (nq k n))
  |_,_=>none
def uh(i:Nat):I→Option I
 | .tuple fs=>fs[i]?
 |_=>none
def tN(k:IntKind):I→Option I
 | .int _ n=>some (.int k (k.wrap n))
 |_=>none
noncomputable def tn(A:ab)(d:Nat)(z:I)(rest:List ar):Option ah→bW
 |none=>ao rest ((A.aP d (.box z)).put d (.ptr d []))
 |some _=>.fail
noncomputable def qJ(A:ab)(d:Nat)(z:I)(rest:List ar)(v:Bool):bW:=if v=true then ao rest ((A.aP d (.box z)).put d (.ptr d [])) else .fail
noncomputable def qI(A:ab)(d:Nat)(z:I)(rest:List ar):Option ah→bW
 |none=>qJ A d z rest z.cw
 |some _=>.fail
open Classical in
noncomputable def er(A:ab)(s:Option Nat)(n:Nat)(p:List Nat)(b v:I)(rest:List ar):Option I→bW
 |some old=>if vk s v old then ao rest (A.aP n (.box (b.dp p v))) else .fail
 |none=>.fail
noncomputable def sO(A:ab)(s:Option Nat)(n:Nat)(p:List Nat)(v:I)(rest:List ar):Option ah→bW
 |some (.box b)=>er A s n p b v rest (b.at p)
 |_=>.fail
noncomputable def sN(A:ab)(s:Option Nat)(v:I)(rest:List ar):I→bW
 | .ptr n p=>sO A s n p v rest (A.o n)
 |_=>.fail
noncomputable def oQ(A:ab)(d:Option Nat)(args:List I)(rest:List ar):I→bW
 | .func f caps=>.call (jU f) (gy f args caps) (bD true A (gy f args caps)) (bD false A (gy f args caps)) d rest A
 | .raw v=>.kE v args d rest A
 |_=>.fail
section
variable (d:Option Nat) (rest:List ar) (A:ab)
theorem EV(op:bq):ao (⟨d,op,none⟩::rest) A=bn A d op rest:=rfl
theorem EW(op:bq)(t:Nat)(b:Bool):ao (⟨d,op,some (t,b)⟩::rest) A=fP (A.t t) b d op rest A:=rfl
theorem SJ(op:bq):fP (.bool true) true d op rest A=bn A d op rest:=by simp[fP]
theorem SG(op:bq):fP (.bool false) false d op rest A=bn A d op rest:=by simp[fP]
theorem SI(op:bq):fP (.bool true) false d op rest A=ao rest (A.aM d .undef):=by simp[fP]
theorem SH(op:bq):fP (.bool false) true d op rest A=ao rest (A.aM d .undef):=by simp[fP]
theorem SK(op:bq)(b:Bool):fP .undef b d op rest A=ao rest (A.aM d .undef):=rfl
theorem Vb(x:av):bn A d (.mv x) rest=ao rest (A.aM d (ae A x)):=rfl
theorem Vf(c a b:av):bn A d (.pick c a b) rest=pO A d a b rest (ae A c):=by
 simp only[bn,aU,aT];cases ae A c <;>simp only[b7,pO]
theorem UI(op:BinOp)(x y:av):bn A d (.bin op x y) rest=b7 (bE op (ae A x) (ae A y)) (cB d rest A):=rfl
theorem US(ty:bX)(neg:Bool)(x y:av):bn A d (.eqv ty neg x y) rest=b7 ((bP ty (ae A x) (ae A y)).map fun b=>.bool (if neg then !b else b)) (cB d rest A):=rfl
theorem Vk(op:UnOp)(x:av):bn A d (.un op x) rest=b7 (qk op (ae A x)) (cB d rest A):=rfl
theorem UQ(k:IntKind)(x:av):bn A d (.conv k x) rest=b7 (tN k (ae A x)) (cB d rest A):=by
 simp only[bn,aU,aT];cases ae A x <;>rfl
theorem U0(s:Option Nat)(x:av):bn A d (.ld s x) rest=b7 (fu s (fk A (ae A x))) (cB d rest A):=by rw[←VZ];rfl
theorem UU(f off:Nat)(x:av):bn A d (.fa f off x) rest=b7 (lz A f off (ae A x)) (cB d rest A):=by rw[←VU];rfl
theorem UW(f off:Nat)(s:Option Nat)(x:av):bn A d (.fl f off s x) rest=b7 (re f off s (ae A x).cZ) (cB d rest A):=by rw[←VV];rfl
theorem UX(n esz:Nat)(x i:av):bn A d (.ia n esz x i) rest=b7 (pg A n esz (ae A x) (ae A i)) (cB d rest A):=by rw[←VW];rfl
theorem UY(esz:Nat)(x i:av):bn A d (.is esz x i) rest=b7 (po A esz (ae A x) (ae A i)) (cB d rest A):=by rw[←VX];rfl
theorem UZ(n esz:Nat)(s:Option Nat)(x i:av):bn A d (.ix n esz s x i) rest=b7 (pw n esz s (ae A x) (ae A i)) (cB d rest A):=by rw[←VY];rfl
theorem U4(x:av):bn A d (.len x) rest=b7 (jy A (ae A x)) (cB d rest A):=by rw[←V0];rfl
theorem Vl(n esz:Nat)(x:av):bn A d (.va n esz x) rest=b7 (mY A n esz (ae A x)) (cB d rest A):=by rw[←V1];rfl
theorem UJ(zs:List I)(ps:List (Nat×av)):bn A d (.bld zs ps) rest=b7 ((fy zs (ps.map fun p=>(p.1,ae A p.2))).map .agg) (cB d rest A):=rfl
theorem UT(x:av)(i:Nat):bn A d (.ext x i) rest=b7 (uh i (ae A x)) (cB d rest A):=by
 simp only[bn,aU,aT];cases ae A x <;>rfl
theorem U7(f:FuncId)(caps:List av):bn A d (.mk f caps) rest=b7 (if ((caps.map (ae A)).all fun y=>y.cw)=true then some (.func f (caps.map (ae A))) else none) (cB d rest A):=rfl
theorem UF(d:Nat)(z:I):bn A (some d) (.alloc z) rest=tn A d z rest (A.o d):=by
 simp only[bn,aU];cases A.o d <;>rfl
theorem UK(d:Nat)(x:av):bn A (some d) (.box x) rest=qI A d (ae A x) rest (A.o d):=by
 simp only[bn,aU];cases A.o d <;>simp only[qI,qJ]
theorem Vj(s:Option Nat)(x v:av):bn A none (.aV s x v) rest=sN A s (ae A v) rest (ae A x):=by
 simp only[bn,aU];cases ae A x <;>simp only[sN]
 rename_i n p;cases A.o n with
 |none=>rfl
 |some y =>
  cases y <;>simp only[sO]
  rename_i b;cases b.at p <;>simp only[er]
theorem UM(f:FuncId)(args:List av):bn A d (.call f args) rest=.call f (args.map (ae A)) (bD true A (args.map (ae A))) (bD false A (args.map (ae A))) d rest A:=rfl
theorem UN(x:av)(args:List av):bn A d (.eT x args) rest=oQ A d (args.map (ae A)) rest (ae A x):=by
 simp only[bn,aU];cases ae A x <;>rfl
end
end Go.Abs
namespace Go.Abs
open Go Go.RowKit
mutual
/-- Closed,and as a result is told: no nil slice but as the empty one. -/
def I.done:I→Bool
 | .agg fs=>I.iD fs
 | .slice _ es=>I.b9 es
 | .ref x=>x.bu
 | .func f caps=>decide (f<1000000)&&I.iD caps
 | .iface _ v=>v.bu
 | .cV ks vs=>I.b9 ks&&I.b9 vs
 | .bool _ | .int _ _ | .ak _ | .nilp | .c7 | .cM | .any | .raw _=>true
 |_=>false
def I.iD:List I→Bool
 | []=>true
 |x::xs=>x.done&&I.iD xs
end
mutual
theorem tV:∀ x:I,x.done=true→x.bu=true
 | .agg fs,h=>by simp only[I.done,I.bu] at *;exact tW fs h
 | .slice _ es,h=>by simpa only[I.done,I.bu] using h
 | .ref x,h=>by simpa only[I.done,I.bu] using h
 | .func _ caps,h=>by simp only[I.done,I.bu,Z0] at *;exact tW caps h.2
 | .iface _ v,h=>by simpa only[I.done,I.bu] using h
 | .bool _,_ | .int _ _,_ | .ak _,_ | .nilp,_ | .c7,_ | .cM,_ | .any,_ | .raw _,_=>by simp[I.bu]
 | .cV _ _,h=>by simpa only[I.done,I.bu] using h
 | .nils _,h | .c0 _,h | .ptr _ _,h | .own _ _,h | .view _ _ _ _ _,h | .mref _,h | .cQ _,h | .undef,h | .cT,h | .tuple _,h=>by simp[I.done] at h
theorem tW:∀ xs:List I,I.iD xs=true→I.b9 xs=true
 | [],_=>rfl
 |x::xs,h=>by
  simp only[I.iD,I.b9,Z0] at *;exact ⟨tV x h.1,tW xs h.2⟩
end
mutual
theorem zt(aA:Bool)(A:ab):∀ x:I,x.done=true→ba aA A x=some x
 | .agg fs,h=>by simp only[I.done,ba] at *;rw[ux aA A fs h];rfl
 | .slice _ es,h=>by simp only[I.done] at h;simp[ba,h]
 | .ref x,h=>by simp only[I.done] at h;simp[ba,h]
 | .func _ caps,h=>by simp only[I.done,ba,Z0,decide_eq_true_eq] at *;rw[if_pos h.1,ux aA A caps h.2];rfl
 | .iface _ v,h=>by simp only[I.done] at h;simp[ba,h]
 | .bool _,_ | .int _ _,_ | .ak _,_ | .nilp,_ | .c7,_ | .cM,_ | .any,_ | .raw _,_=>by simp[ba]
 | .cV _ _,h=>by simp only[I.done] at h;simp[ba,h]
 | .nils _,h | .c0 _,h | .ptr _ _,h | .own _ _,h | .view _ _ _ _ _,h | .mref _,h | .cQ _,h | .undef,h | .cT,h | .tuple _,h=>by simp[I.done] at h
theorem ux(aA:Bool)(A:ab):∀ xs:List I,I.iD xs=true→bD aA A xs=some xs
 | [],_=>by simp[bD]
 |x::xs,h=>by
  simp only[I.iD,Z0] at h;simp only[bD,zt aA A x h.1,ux aA A xs h.2]
end
theorem Kq{x:I}(h:x.done=true):x.cw=true:=by cases x <;>simp_all[I.done,I.cw]
class Enc (α:Type) where
 enc:α→I
 sz:Nat
 aK:bK
 gz:Bool
 done:∀ x,(enc x).done=true
 size:∀ x,(enc x).size=sz
 ir:∀ x,(enc x).aK=aK
 agg:∀ x,(enc x).isAgg=gz
open Enc (enc)
instance:Enc Int where
 enc n:=.int .i64 n
 sz:=1
 aK:=.one
 gz:=false
 done _:=rfl
 size _:=by simp[I.size]
 ir _:=by simp[I.aK]
 agg _:=rfl
instance:Enc Bool where
 enc b:=.bool b
 sz:=1
 aK:=.one
 gz:=false
 done _:=rfl
 size _:=by simp[I.size]
 ir _:=by simp[I.aK]
 agg _:=rfl
theorem oR{α:Type}[Enc α](l:List α):I.b9 (l.map enc)=true:=by
 induction l with
 |nil=>rfl
 |cons x l ih=>simp only[Z4,I.b9,tV _ (Enc.done x),ih,Bool.and_self]
theorem Kr{α:Type}[Enc α](l:List α):I.iD (l.map enc)=true:=by
 induction l with
 |nil=>rfl
 |cons x l ih=>simp only[Z4,I.iD,Enc.done x,ih,Bool.and_self]
theorem WS{α:Type}[Enc α](l:List α):I.sizes (l.map enc)=l.length*Enc.sz α:=by
 rw[I.fY (sz:=Enc.sz α) _ (by simp only[X0];rintro x ⟨y,_,rfl⟩;exact Enc.size y)];simp
theorem vW{α:Type}[Enc α](l:List α):I.cI (l.map enc)=List.replicate l.length (Enc.aK α):=by
 induction l with
 |nil=>rfl
 |cons x l ih=>simp only[Z4,I.cI,Enc.ir x,ih,Y4,List.replicate_succ]
instance {α:Type} [Enc α]:Enc (List α) where
 enc l:=.slice (Enc.sz α) (l.map enc)
 sz:=1
 aK:=.one
 gz:=false
 done l:=by simp only[I.done];exact oR l
 size _:=by simp[I.size]
 ir _:=by simp[I.aK]
 agg _:=rfl
structure dS (n:Nat) (α:Type) where
 l:List α
 h:l.length=n
instance {n:Nat} {α:Type} [Enc α]:Enc (dS n α) where
 enc x:=.agg (x.l.map enc)
 sz:=n*Enc.sz α
 aK:=.eG (List.replicate n (Enc.aK α))
 gz:=true
 done x:=by simp only[I.done];exact Kr x.l
 size x:=by simp only[I.size,WS,x.h]
 ir x:=by simp only[I.aK,vW,x.h]
 agg _:=rfl
section
variable {α:Type} [Enc α]
theorem iT(aA:Bool)(A:ab)(x:α):ba aA A (enc x)=some (enc x):=zt aA A _ (Enc.done x)
theorem jS(x:α):(enc x).bu=true:=tV _ (Enc.done x)
theorem bG(p:Nat→Bool)(x:α):(enc x).only p=true:=lJ p _ (jS x)
theorem fe(x:α):(enc x).cw=true:=Kq (Enc.done x)
theorem KA(x:α):bU none (enc x) = !(Enc.gz α):=by simp[bU,Enc.agg]
theorem ib(n:Nat)(x:α):bU (some n) (enc x)=(Enc.gz α&&Enc.sz α==n):=by simp[bU,Enc.agg,Enc.size]
theorem ly(x:α):(enc x).size=Enc.sz α:=Enc.size x
theorem eA(x:α):(enc x).aK=Enc.aK α:=Enc.ir x
theorem tZ(n:Int):(enc n:I)=.int .i64 n:=rfl
theorem Kx(n:Bool):(enc n:I)=.bool n:=rfl
theorem iU(l:List α):(enc l:I)=.slice (Enc.sz α) (l.map enc):=rfl
theorem uf(n esz:Nat)(l:List α)(h:l.length=n)(h2:Enc.sz α=esz):gx n esz (l.map enc)=true:=by
 simp only[gx,Z2,h,BEq.rfl,Bool.true_and,X6,X0];rintro x ⟨y,_,rfl⟩;simp[Enc.size,h2]
end
theorem dB(n:Int)(h1:-9223372036854775808≤n)(h2:n≤9223372036854775807):IntKind.i64.wrap n=n:=IntWalk.i64_in n ⟨h1,h2⟩
theorem aQ.mk{P:Program}{f:FuncId}{fn:Func}{x:bj}{rs:List bt}{args:List I}{r:I}(hf:P.funcs[f]?=some fn)(hcall:dM P f=true)(hc:(fn.body.bind (dL P fn.ntmps))=some x)
  (hrs:fK P fn.results.toList=some rs) (hn:args.length≤fn.ntmps) (h:∀ (w:World) (D:aI) (E:aN),U ⟨P,w,D,fn.ntmps,bO E,E,fq,none,none⟩ x (jH rs r) (ay (bB 0 args) [])):aQ P f args r:=by
 obtain ⟨body,hb,hc'⟩:=Option.bind_eq_some_iff.1 hc;exact aQ.r8 hf hb hcall hc' hrs hn (fun w D E=>(h w D E).sub (W6 args))
end Go.Abs
namespace Go.Abs.C
open Go Go.Abs
abbrev o(a:Nat)(x:bq):ar:=⟨some a,x,none⟩
abbrev bR(a:Nat)(x:bq)(k:Nat):ar:=⟨some a,x,some (k,true)⟩
abbrev on(a:Nat)(x:bq)(k:Nat):ar:=⟨some a,x,some (k,false)⟩
abbrev p(x:bq):ar:=⟨none,x,none⟩
abbrev aY(n:Int):av:=.c (.int .i64 n)
abbrev T:av:=.c (.bool true)
abbrev bl:av:=.c (.bool false)
abbrev m(a b:Nat):ar:=⟨some a,.mv (.t b),none⟩
abbrev cY(a b k:Nat):ar:=⟨some a,.mv (.t b),some (k,true)⟩
abbrev fp(a b k:Nat):ar:=⟨some a,.mv (.t b),some (k,false)⟩
abbrev bm(a:Nat)(n:Int):ar:=⟨some a,.mv (.c (.int .i64 n)),none⟩
abbrev l(a b:Nat):ar:=⟨some a,.ld none (.t b),none⟩
abbrev gj(a b k:Nat):ar:=⟨some a,.ld none (.t b),some (k,true)⟩
abbrev gi(a b k:Nat):ar:=⟨some a,.ld none (.t b),some (k,false)⟩
abbrev au(a s b:Nat):ar:=⟨some a,.ld (some s) (.t b),none⟩
abbrev f(a b c d:Nat):ar:=⟨some a,.fa b c (.t d),none⟩
abbrev dP(a b c d k:Nat):ar:=⟨some a,.fa b c (.t d),some (k,true)⟩
abbrev fn(a b c d k:Nat):ar:=⟨some a,.fa b c (.t d),some (k,false)⟩
abbrev ad(a b:Nat)(n:Int):ar:=⟨some a,.bin .add (.t b) (.c (.int .i64 n)),none⟩
abbrev lt(a b c:Nat):ar:=⟨some a,.bin .lss (.t b) (.t c),none⟩
abbrev and(a b c:Nat):ar:=⟨some a,.pick (.t b) (.t c) (.c (.bool false)),none⟩
abbrev or(a b c:Nat):ar:=⟨some a,.pick (.t b) (.c (.bool true)) (.t c),none⟩
abbrev no(a b:Nat):ar:=⟨some a,.un .not (.t b),none⟩
abbrev b(a c:Nat):ar:=⟨some a,.box (.t c),none⟩
abbrev s(x y:bj):bj:=.seq x y
abbrev r(g:List ar):bj:=.bS none g
abbrev bV(P:Program)(f:Func)(c:bj):Prop:=f.body.bind (dL P f.ntmps)=some c
abbrev bT(P:Program)(f:Func)(r:List bt):Prop:=fK P f.results.toList=some r
abbrev bI(P:Program)(n:FuncId):Prop:=dM P n=true
theorem e{α:Type}{a b:α}(h:a=b):a=b:=h
end Go.Abs.C
namespace Go.Proofs.YtoffnnjbplgnaaaGreatDoor
open Go Go.Abs Go.Abs.C
def PM:=[o 2 (.mv bl)]
def PN:=[o 9 (.call 14 []),m 3 9]
def PO:=[m 11 0,o 12 (.call 15 [.t 11]),m 10 12,o 13 (.ext (.t 10) 0),o 14 (.ext (.t 10) 1),m 4 13,m 5 14]
def PQ:=[m 16 0,o 17 (.call 16 [.t 16]),m 15 17,o 18 (.ext (.t 15) 0),o 19 (.ext (.t 15) 1),m 6 18,m 7 19]
def PR:=[m 20 4,m 21 6,o 22 (.call 17 [.t 20,.t 21]),m 8 22]
def PS:=[m 23 3,m 24 23,cY 25 8 24,and 26 24 25,m 27 26,cY 28 5 27,cY 29 7 27,bR 30 (.bin .eql (.t 28) (.t 29)) 27,and 31 27 30,m 2 31]
def c3:bj:=(s (r PM) (s (r PN) (s (r PO) (s (r PQ) (s (r PR) (s (r PS) .ret))))))
def mA:List bt:=[.tmp 2]
theorem HQ:bV Tryz.prog Tryz.f3 c3:=e (by kernel_rfl)
theorem I7:bT Tryz.prog Tryz.f3 mA:=e (by kernel_rfl)
theorem GH:bI Tryz.prog 3:=e (by kernel_rfl)
def Mw:=[o 0 (.mv bl)]
def Mx:=[o 21 (.bld [.int .i64 0,.int .i64 0] [(0,(aY 2))]),o 22 (.bld [.agg [.int .i64 0,.int .i64 0],.int .i64 0,.int .i64 0,.int .i64 0,.agg [.int .i64 0,.int .i64 0],.ak ⟨#[]⟩] [(0,(.t 21)),(1,(aY 5)),(2,(aY 10)),(3,(aY 12)),(5,(.c (.ak ⟨#[97]⟩)))]),o 1 (.alloc (.agg [.agg [.int .i64 0,.int .i64 0],.int .i64 0,.int .i64 0,.int .i64 0,.agg [.int .i64 0,.int .i64 0],.ak ⟨#[]⟩])),p (.aV (some 8) (.t 1) (.t 22))]
def MA:=[au 24 8 1,o 25 (.call 29 [(aY 1),.t 24]),m 23 25,o 26 (.ext (.t 23) 0),o 27 (.ext (.t 23) 1),o 28 (.ext (.t 23) 2),m 2 26,m 3 27,m 4 28]
def MB:=[m 30 2,o 31 (.call 31 [(aY 1),.t 30]),m 29 31,o 32 (.ext (.t 29) 0),o 33 (.ext (.t 29) 1),o 34 (.ext (.t 29) 2),o 5 (.alloc (.agg [.agg [.int .i64 0,.int .i64 0],.int .i64 0,.int .i64 0,.int .i64 0,.agg [.int .i64 0,.int .i64 0],.ak ⟨#[]⟩])),p (.aV (some 8) (.t 5) (.t 32)),m 6 33,m 7 34]
def MC:=[o 36 (.bld [.agg [.ak ⟨#[]⟩,.ak ⟨#[]⟩],.agg [.ak ⟨#[]⟩,.ak ⟨#[]⟩]] []),au 37 8 1,o 38 (.call 35 [.t 36,(.c (.nils 8)),.t 37]),m 35 38,o 39 (.ext (.t 35) 0),o 40 (.ext (.t 35) 1),o 41 (.ext (.t 35) 2),o 8 (.alloc (.agg [.agg [.ak ⟨#[]⟩,.ak ⟨#[]⟩],.agg [.ak ⟨#[]⟩,.ak ⟨#[]⟩]])),p (.aV (some 4) (.t 8) (.t 39)),m 9 40,m 10 41]
def MD:=[au 43 4 8,o 44 (.call 22 [.t 43,(.c (.nils 1))]),o 45 (.call 18 [.t 44]),m 42 45,o 46 (.ext (.t 42) 0),o 47 (.ext (.t 42) 1),o 11 (.alloc (.agg [.agg [.ak ⟨#[]⟩,.ak ⟨#[]⟩],.agg [.ak ⟨#[]⟩,.ak ⟨#[]⟩]])),p (.aV (some 4) (.t 11) (.t 46)),m 12 47]
def ME:=[au 49 4 8,f 50 0 0 8,f 51 1 1 50,l 52 51,o 53 (.lenT (.t 52)),o 54 (.bs 3 1 [.t 53,(aY 0),(aY 0)]),o 55 (.call 22 [.t 49,.t 54]),o 56 (.call 18 [.t 55]),m 48 56,o 57 (.ext (.t 48) 0),o 58 (.ext (.t 48) 1),o 13 (.alloc (.agg [.agg [.ak ⟨#[]⟩,.ak ⟨#[]⟩],.agg [.ak ⟨#[]⟩,.ak ⟨#[]⟩]])),p (.aV (some 4) (.t 13) (.t 57)),m 14 58]
def MF:=[au 60 4 8,f 61 0 0 8,f 62 1 1 61,l 63 62,o 64 (.lenT (.t 63)),o 65 (.bs 3 1 [.t 64,(aY 1),(aY 3)]),o 66 (.call 22 [.t 60,.t 65]),o 67 (.call 18 [.t 66]),m 59 67,o 68 (.ext (.t 59) 0),o 69 (.ext (.t 59) 1),o 15 (.alloc (.agg [.agg [.ak ⟨#[]⟩,.ak ⟨#[]⟩],.agg [.ak ⟨#[]⟩,.ak ⟨#[]⟩]])),p (.aV (some 4) (.t 15) (.t 68)),m 16 69]
def MG:=[au 71 4 8,o 72 (.call 20 [.t 71]),o 73 (.call 24 [.t 72,bl]),o 74 (.call 18 [.t 73]),m 70 74,o 75 (.ext (.t 70) 0),o 76 (.ext (.t 70) 1),o 17 (.alloc (.agg [.agg [.ak ⟨#[]⟩,.ak ⟨#[]⟩],.agg [.ak ⟨#[]⟩,.ak ⟨#[]⟩]])),p (.aV (some 4) (.t 17) (.t 75)),m 18 76]
def MH:=[m 77 4,o 78 (.bin .eql (.t 77) (aY 0)),m 79 78,cY 80 7 79,bR 81 (.bin .eql (.t 80) (aY 0)) 79,and 82 79 81,m 83 82,cY 84 10 83,bR 85 (.bin .eql (.t 84) (aY 0)) 83,and 86 83 85,m 87 86,cY 88 9 87,bR 89 (.len (.t 88)) 87,bR 90 (.bin .eql (.t 89) (aY 1)) 87,and 91 87 90,m 19 91]
def My:=[m 92 2,o 93 (.lenT (.t 92)),o 94 (.bin .gtr (.t 93) (aY 18)),m 95 94,cY 96 2 95,cY 97 2 95,bR 98 (.lenT (.t 97)) 95,bR 99 (.bin .sub (.t 98) (aY 18)) 95,bR 100 (.prim (.ss true false) [.t 96,.t 99]) 95,bR 101 (.bin .eql (.t 100) (.c (.ak ⟨#[50,32,48,32,53,32,49,48,32,49,50,32,48,32,48,32,97,10]⟩))) 95,and 102 95 101,m 20 102]
def Mz:=[m 103 19,m 104 103,cY 105 20 104,and 106 104 105,m 107 106,bR 108 (.ld (some 8) (.t 5)) 107,bR 109 (.ld (some 8) (.t 1)) 107,bR 110 (.eqv (.aV [(.aV [(.i .i64),(.i .i64)]),(.i .i64),(.i .i64),(.i .i64),(.aV [(.i .i64),(.i .i64)]),.s]) false (.t 108) (.t 109)) 107,and 111 107 110,m 112 111,cY 113 6 112,cY 114 3 112,bR 115 (.bin .eql (.t 113) (.t 114)) 112,and 116 112 115,m 117 116,dP 118 0 0 8 117,dP 119 1 1 118 117,gj 120 119 117,cY 121 2 117,bR 122 (.bin .eql (.t 120) (.t 121)) 117,and 123 117 122,m 124 123,dP 125 1 2 8 124,bR 126 (.ld (some 2) (.t 125)) 124,bR 127 (.bld [.ak ⟨#[]⟩,.ak ⟨#[]⟩] []) 124,bR 128 (.eqv (.aV [.s,.s]) false (.t 126) (.t 127)) 124,and 129 124 128,m 130 129,cY 131 12 130,bR 132 (.len (.t 131)) 130,bR 133 (.bin .eql (.t 132) (aY 0)) 130,and 134 130 133,m 135 134,cY 136 14 135,bR 137 (.len (.t 136)) 135,bR 138 (.bin .eql (.t 137) (aY 1)) 135,and 139 135 138,m 140 139,cY 141 16 140,bR 142 (.len (.t 141)) 140,bR 143 (.bin .eql (.t 142) (aY 0)) 140,and 144 140 143,m 145 144,cY 146 18 145,bR 147 (.len (.t 146)) 145,bR 148 (.bin .eql (.t 147) (aY 1)) 145,and 149 145 148,m 150 149,dP 151 0 0 17 150,dP 152 0 0 151 150,gj 153 152 150,cY 154 2 150,bR 155 (.bin .eql (.t 153) (.t 154)) 150,and 156 150 155,m 157 156,dP 158 1 2 17 157,dP 159 0 0 158 157,gj 160 159 157,cY 161 2 157,bR 162 (.bin .eql (.t 160) (.t 161)) 157,and 163 157 162,m 0 163]
def xG:bj:=(s (r Mw) (s (r Mx) (s (r MA) (s (r MB) (s (r MC) (s (r MD) (s (r ME) (s (r MF) (s (r MG) (s (r MH) (s (r My) (s (r Mz) .ret))))))))))))
def BP:List bt:=[.tmp 0]
theorem Hx:bV Tryz.prog Tryz.f14 xG:=e (by kernel_rfl)
theorem IN:bT Tryz.prog Tryz.f14 BP:=e (by kernel_rfl)
theorem Gm:bI Tryz.prog 14:=e (by kernel_rfl)
def MT:=[o 2 (.mv (.c (.nils 8))),o 3 (.mv (.c (.ak ⟨#[]⟩)))]
def MU:=[o 4 (.alloc (.nils 8))]
def MW:=[o 5 (.alloc (.int .i64 0)),o 6 (.alloc (.int .i64 0)),p (.aV none (.t 5) (aY 1)),p (.aV none (.t 6) (aY 0))]
def MX:=[m 11 0,o 12 (.call 69 [.t 11])]
def MY:=[m 7 13]
def MZ:=[l 15 5,m 16 7,o 17 (.call 70 [.t 15,.t 16]),m 14 17,o 18 (.ext (.t 14) 0),o 19 (.ext (.t 14) 1),o 20 (.ext (.t 14) 2),o 8 (.alloc (.agg [.agg [.int .i64 0,.int .i64 0],.int .i64 0,.int .i64 0,.int .i64 0,.agg [.int .i64 0,.int .i64 0],.ak ⟨#[]⟩])),p (.aV (some 8) (.t 8) (.t 18)),m 9 19,m 10 20]
def M0:=[m 21 10,no 22 21,m 23 22,gi 24 4 23,on 25 (.ld (some 8) (.t 8)) 23,on 26 (.call 71 [.t 24,.t 25]) 23,on 27 (.un .not (.t 26)) 23,or 28 23 27]
def M2:=[l 29 4,au 30 8 8,o 31 (.bs 50 8 [.t 30]),o 32 (.dK 50 8 72 (.agg [.agg [.int .i64 0,.int .i64 0],.int .i64 0,.int .i64 0,.int .i64 0,.agg [.int .i64 0,.int .i64 0],.ak ⟨#[]⟩]) (.t 29) (.t 31)),p (.aV none (.t 4) (.t 32))]
def M3:=[m 33 9,p (.aV none (.t 5) (.t 33))]
def M4:=[l 34 6,m 35 7,o 36 (.lenT (.t 35)),o 37 (.bin .add (.t 34) (.t 36)),p (.aV none (.t 6) (.t 37))]
def MV:=[l 38 4,m 39 0,l 40 6,o 41 (.prim (.ss false true) [.t 39,.t 40]),m 2 38,m 3 41]
def JN:=some [[],[],[],[1,2],[0,0],[3,4,0,1,2,3,4]]
def xI:bj:=(s (r MT) (s (r MU) (s (r MW) (s (s (r MX) (.block 0 (.mJ (.t 12) [13] (r MY) (.block 1 (s (r MZ) (s (s (r M0) (.cond (.t 28) (.exit 0) .skip)) (s (r M2) (s (r M3) (r M4))))))))) (s (.bS JN MV) .ret)))))
def BR:List bt:=[.tmp 2,.tmp 3]
theorem Hz:bV Tryz.prog Tryz.f15 xI:=e (by kernel_rfl)
theorem IQ:bT Tryz.prog Tryz.f15 BR:=e (by kernel_rfl)
theorem Gp:bI Tryz.prog 15:=e (by kernel_rfl)
def Nw:=[o 2 (.mv (.c (.nils 8))),o 3 (.mv (.c (.ak ⟨#[]⟩)))]
def Nx:=[o 4 (.mv (.c (.nils 8)))]
def ND:=[bm 5 0]
def NF:=[bm 6 1]
def NG:=[m 11 5,m 12 0,o 13 (.lenT (.t 12)),lt 14 11 13]
def NH:=[m 15 5,m 7 15]
def NI:=[m 16 7,m 17 0,o 18 (.lenT (.t 17)),lt 19 16 18,m 20 19,cY 21 0 20,cY 22 7 20,bR 23 (.prim .dm [.t 21,.t 22]) 20,bR 24 (.bin .neq (.t 23) (.c (.int .u8 10))) 20,and 25 20 24]
def NJ:=[m 26 7,ad 27 26 1,m 7 27]
def NK:=[m 28 7,m 29 0,o 30 (.lenT (.t 29)),o 31 (.bin .eql (.t 28) (.t 30))]
def NL:=[m 33 6,m 34 0,m 35 5,m 36 7,ad 37 36 1,o 38 (.prim (.ss true true) [.t 34,.t 35,.t 37]),o 39 (.call 32 [.t 33,.t 38]),m 32 39,o 40 (.ext (.t 32) 0),o 41 (.ext (.t 32) 1),o 42 (.ext (.t 32) 2),o 8 (.alloc (.agg [.agg [.int .i64 0,.int .i64 0],.int .i64 0,.int .i64 0,.int .i64 0,.agg [.int .i64 0,.int .i64 0],.ak ⟨#[]⟩])),p (.aV (some 8) (.t 8) (.t 40)),m 9 41,m 10 42]
def Ny:=[m 43 10,o 44 (.bin .neq (.t 43) (aY 0)),m 45 44,fp 46 4 45,on 47 (.ld (some 8) (.t 8)) 45,on 48 (.call 72 [.t 46,.t 47]) 45,on 49 (.un .not (.t 48)) 45,or 50 45 49]
def Nz:=[m 51 4,au 52 8 8,o 53 (.bs 50 8 [.t 52]),o 54 (.dK 50 8 72 (.agg [.agg [.int .i64 0,.int .i64 0],.int .i64 0,.int .i64 0,.int .i64 0,.agg [.int .i64 0,.int .i64 0],.ak ⟨#[]⟩]) (.t 51) (.t 53)),m 4 54]
def NA:=[m 55 9,m 6 55]
def NB:=[m 56 7,ad 57 56 1,m 5 57]
def NC:=[m 58 4,m 59 0,m 60 5,o 61 (.prim (.ss false true) [.t 59,.t 60]),m 2 58,m 3 61]
def JO:=some [[],[],[],[1,2],[0,0],[3,4,0,1,2,3,4]]
def xL:bj:=(s (r Nw) (s (r Nx) (s (r ND) (s (r NF) (s (.block 0 (.loop (s (s (r NG) (.cond (.t 14) .skip (.exit 0))) (.block 1 (s (r NH) (s (.block 2 (.loop (s (s (r NI) (.cond (.t 25) .skip (.exit 2))) (.block 3 (r NJ))))) (s (s (r NK) (.cond (.t 31) (.exit 0) .skip)) (s (r NL) (s (s (r Ny) (.cond (.t 50) (.exit 0) .skip)) (s (r Nz) (s (r NA) (r NB)))))))))))) (s (.bS JO NC) .ret))))))
def BU:List bt:=[.tmp 2,.tmp 3]
theorem HC:bV Tryz.prog Tryz.f16 xL:=e (by kernel_rfl)
theorem IU:bT Tryz.prog Tryz.f16 BU:=e (by kernel_rfl)
theorem Gu:bI Tryz.prog 16:=e (by kernel_rfl)
def NT:=[o 4 (.mv bl)]
def NU:=[m 7 0,o 8 (.len (.t 7)),m 9 1,o 10 (.len (.t 9)),o 11 (.bin .eql (.t 8) (.t 10)),m 5 11]
def NV:=[bm 6 0]
def NW:=[m 12 6,m 13 0,o 14 (.len (.t 13)),lt 15 12 14,m 16 15,cY 17 5 16,and 18 16 17]
def NX:=[m 21 0,m 22 6,o 23 (.is 8 (.t 21) (.t 22)),au 24 8 23,m 25 1,m 26 6,o 27 (.is 8 (.t 25) (.t 26)),au 28 8 27,o 29 (.eqv (.aV [(.aV [(.i .i64),(.i .i64)]),(.i .i64),(.i .i64),(.i .i64),(.aV [(.i .i64),(.i .i64)]),.s]) false (.t 24) (.t 28)),m 5 29]
def JQ:=some [[],[],[0,1],[2],[],[],[4,5],[6],[3,7],[8,0,1,2,3,4,5,6,7,8]]
def NY:=[m 19 6,ad 20 19 1,m 6 20]
def NZ:=[m 30 5,m 4 30]
def xO:bj:=(s (r NT) (s (r NU) (s (s (r NV) (.block 0 (.loop (s (s (r NW) (.cond (.t 18) .skip (.exit 0))) (s (.block 1 (.bS JQ NX)) (r NY)))))) (s (r NZ) .ret))))
def BX:List bt:=[.tmp 4]
theorem HF:bV Tryz.prog Tryz.f17 xO:=e (by kernel_rfl)
theorem IX:bT Tryz.prog Tryz.f17 BX:=e (by kernel_rfl)
theorem Gx:bI Tryz.prog 17:=e (by kernel_rfl)
def OE:=[b 1 0,o 2 (.alloc (.agg [.agg [.ak ⟨#[]⟩,.ak ⟨#[]⟩],.agg [.ak ⟨#[]⟩,.ak ⟨#[]⟩]])),o 3 (.mv (.c (.nils 8)))]
def OF:=[f 10 0 0 1,au 11 2 10,o 12 (.call 73 [.t 11]),o 13 (.call 15 [.t 12]),m 9 13,o 14 (.ext (.t 9) 0),o 15 (.ext (.t 9) 1),m 4 14,m 5 15]
def OG:=[f 17 1 2 1,au 18 2 17,o 19 (.call 73 [.t 18]),o 20 (.call 15 [.t 19]),m 16 20,o 21 (.ext (.t 16) 0),o 22 (.ext (.t 16) 1),m 6 21,m 7 22]
def OH:=[m 23 6,o 24 (.len (.t 23)),m 25 4,o 26 (.len (.t 25)),o 27 (.bin .gtr (.t 24) (.t 26))]
def OI:=[m 28 6,m 29 7,m 4 28,m 5 29]
def OJ:=[m 30 5,o 31 (.call 74 [.t 30]),o 32 (.bld [.ak ⟨#[]⟩,.ak ⟨#[]⟩] [(0,(.t 31))]),o 8 (.alloc (.agg [.ak ⟨#[]⟩,.ak ⟨#[]⟩])),p (.aV (some 2) (.t 8) (.t 32))]
def OK:=[au 33 2 8,au 34 2 8,o 35 (.bld [.agg [.ak ⟨#[]⟩,.ak ⟨#[]⟩],.agg [.ak ⟨#[]⟩,.ak ⟨#[]⟩]] [(0,(.t 33)),(1,(.t 34))]),m 36 4,p (.aV (some 4) (.t 2) (.t 35)),m 3 36]
def xQ:bj:=(s (r OE) (s (r OF) (s (s (r OG) (s (r OH) (.cond (.t 27) (r OI) .skip))) (s (r OJ) (s (r OK) .ret)))))
def B1:List bt:=[.cell 2 (some 4),.tmp 3]
theorem HJ:bV Tryz.prog Tryz.f18 xQ:=e (by kernel_rfl)
theorem I0:bT Tryz.prog Tryz.f18 B1:=e (by kernel_rfl)
theorem Gz:bI Tryz.prog 18:=e (by kernel_rfl)
def OL:=[b 1 0,o 2 (.alloc (.agg [.agg [.ak ⟨#[]⟩,.ak ⟨#[]⟩],.agg [.ak ⟨#[]⟩,.ak ⟨#[]⟩]]))]
def OM:=[f 4 0 0 1,au 5 2 4,o 6 (.call 73 [.t 5]),o 7 (.bld [.ak ⟨#[]⟩,.ak ⟨#[]⟩] [(0,(.t 6))]),o 3 (.alloc (.agg [.ak ⟨#[]⟩,.ak ⟨#[]⟩])),p (.aV (some 2) (.t 3) (.t 7))]
def ON:=[au 8 2 3,au 9 2 3,o 10 (.bld [.agg [.ak ⟨#[]⟩,.ak ⟨#[]⟩],.agg [.ak ⟨#[]⟩,.ak ⟨#[]⟩]] [(0,(.t 8)),(1,(.t 9))]),p (.aV (some 4) (.t 2) (.t 10))]
def c20:bj:=(s (r OL) (s (r OM) (s (r ON) .ret)))
def B4:List bt:=[.cell 2 (some 4)]
theorem HL:bV Tryz.prog Tryz.f20 c20:=e (by kernel_rfl)
theorem I2:bT Tryz.prog Tryz.f20 B4:=e (by kernel_rfl)
theorem GB:bI Tryz.prog 20:=e (by kernel_rfl)
def OO:=[b 2 0,o 4 (.alloc (.agg [.agg [.ak ⟨#[]⟩,.ak ⟨#[]⟩],.agg [.ak ⟨#[]⟩,.ak ⟨#[]⟩]]))]
def OP:=[f 5 0 0 2,au 6 2 5,m 7 1,o 8 (.call 75 [.t 6,.t 7,(aY 0)]),f 9 1 2 2,au 10 2 9,m 11 1,o 12 (.call 75 [.t 10,.t 11,(aY 3)]),o 13 (.bld [.agg [.ak ⟨#[]⟩,.ak ⟨#[]⟩],.agg [.ak ⟨#[]⟩,.ak ⟨#[]⟩]] [(0,(.t 8)),(1,(.t 12))]),p (.aV (some 4) (.t 4) (.t 13))]
def JR:=some [[],[0],[],[1,2],[],[4],[],[5,6,3],[3,7],[8,7,0,1,2,3,4,5,6,7,8]]
def xS:bj:=(s (r OO) (s (.bS JR OP) .ret))
def B5:List bt:=[.cell 4 (some 4)]
theorem HM:bV Tryz.prog Tryz.f22 xS:=e (by kernel_rfl)
theorem I3:bT Tryz.prog Tryz.f22 B5:=e (by kernel_rfl)
theorem GC:bI Tryz.prog 22:=e (by kernel_rfl)
def OQ:=[b 2 0,o 4 (.alloc (.agg [.agg [.ak ⟨#[]⟩,.ak ⟨#[]⟩],.agg [.ak ⟨#[]⟩,.ak ⟨#[]⟩]]))]
def OR:=[m 5 1]
def OS:=[o 6 (.bld [.ak ⟨#[]⟩,.ak ⟨#[]⟩] []),f 7 1 2 2,p (.aV (some 2) (.t 7) (.t 6))]
def OT:=[o 8 (.bld [.ak ⟨#[]⟩,.ak ⟨#[]⟩] []),f 9 0 0 2,p (.aV (some 2) (.t 9) (.t 8))]
def OU:=[au 10 4 2,p (.aV (some 4) (.t 4) (.t 10))]
def xT:bj:=(s (r OQ) (s (s (r OR) (.cond (.t 5) (r OS) (r OT))) (s (r OU) .ret)))
def B6:List bt:=[.cell 4 (some 4)]
theorem HN:bV Tryz.prog Tryz.f24 xT:=e (by kernel_rfl)
theorem I4:bT Tryz.prog Tryz.f24 B6:=e (by kernel_rfl)
theorem GD:bI Tryz.prog 24:=e (by kernel_rfl)
def OV:=[bm 4 0]
def OW:=[m 5 0,m 6 1,o 7 (.bin .rem (.t 5) (.t 6)),m 8 1,o 9 (.bin .add (.t 7) (.t 8)),m 10 1,o 11 (.bin .rem (.t 9) (.t 10)),m 4 11]
def xU:bj:=(s (r OV) (s (r OW) .ret))
def B7:List bt:=[.tmp 4]
theorem HO:bV Tryz.prog Tryz.f28 xU:=e (by kernel_rfl)
theorem I5:bT Tryz.prog Tryz.f28 B7:=e (by kernel_rfl)
theorem GF:bI Tryz.prog 28:=e (by kernel_rfl)
def OX:=[b 3 1,o 4 (.mv (.c (.ak ⟨#[]⟩))),bm 5 0,bm 6 0]
def OY:=[m 10 0,o 11 (.call 79 [.t 10]),no 12 11,m 9 12]
def OZ:=[o 4 (.mv (.c (.ak ⟨#[]⟩))),bm 5 0,bm 6 1]
def O0:=[au 14 8 3,o 15 (.call 80 [.t 14]),no 16 15,m 13 16]
def O1:=[o 4 (.mv (.c (.ak ⟨#[]⟩))),bm 5 0,bm 6 80]
def O2:=[m 18 0,au 19 8 3,o 20 (.call 81 [.t 18,.t 19]),m 17 20,o 21 (.ext (.t 17) 0),o 22 (.ext (.t 17) 1),m 7 21,m 8 22]
def O3:=[m 23 7,m 24 8,m 4 23,m 5 24,bm 6 0]
def xV:bj:=(s (r OX) (s (.block 0 (s (r OY) (.cond (.t 9) (s (r OZ) .ret) (s (r O0) (.cond (.t 13) (s (r O1) .ret) .skip))))) (s (r O2) (s (r O3) .ret))))
def B8:List bt:=[.tmp 4,.tmp 5,.tmp 6]
theorem HP:bV Tryz.prog Tryz.f29 xV:=e (by kernel_rfl)
theorem I6:bT Tryz.prog Tryz.f29 B8:=e (by kernel_rfl)
theorem GG:bI Tryz.prog 29:=e (by kernel_rfl)
def O4:=[o 4 (.alloc (.agg [.agg [.int .i64 0,.int .i64 0],.int .i64 0,.int .i64 0,.int .i64 0,.agg [.int .i64 0,.int .i64 0],.ak ⟨#[]⟩])),bm 5 0,bm 6 0]
def O5:=[m 10 0,o 11 (.call 79 [.t 10]),no 12 11]
def O6:=[o 13 (.bld [.agg [.int .i64 0,.int .i64 0],.int .i64 0,.int .i64 0,.int .i64 0,.agg [.int .i64 0,.int .i64 0],.ak ⟨#[]⟩] []),p (.aV (some 8) (.t 4) (.t 13)),bm 5 0,bm 6 1]
def O7:=[m 15 0,m 16 1,o 17 (.call 70 [.t 15,.t 16]),m 14 17,o 18 (.ext (.t 14) 0),o 19 (.ext (.t 14) 1),o 20 (.ext (.t 14) 2),o 7 (.alloc (.agg [.agg [.int .i64 0,.int .i64 0],.int .i64 0,.int .i64 0,.int .i64 0,.agg [.int .i64 0,.int .i64 0],.ak ⟨#[]⟩])),p (.aV (some 8) (.t 7) (.t 18)),m 8 19,m 9 20]
def O8:=[m 21 9,no 22 21]
def O9:=[o 23 (.bld [.agg [.int .i64 0,.int .i64 0],.int .i64 0,.int .i64 0,.int .i64 0,.agg [.int .i64 0,.int .i64 0],.ak ⟨#[]⟩] []),p (.aV (some 8) (.t 4) (.t 23)),bm 5 0,bm 6 87]
def Pa:=[au 24 8 7,m 25 8,p (.aV (some 8) (.t 4) (.t 24)),m 5 25,bm 6 0]
def xW:bj:=(s (r O4) (s (s (r O5) (.cond (.t 12) (s (r O6) .ret) .skip)) (s (r O7) (s (s (r O8) (.cond (.t 22) (s (r O9) .ret) .skip)) (s (r Pa) .ret)))))
def B9:List bt:=[.cell 4 (some 8),.tmp 5,.tmp 6]
theorem HR:bV Tryz.prog Tryz.f31 xW:=e (by kernel_rfl)
theorem I8:bT Tryz.prog Tryz.f31 B9:=e (by kernel_rfl)
theorem GI:bI Tryz.prog 31:=e (by kernel_rfl)
def Pb:=[o 4 (.alloc (.agg [.agg [.int .i64 0,.int .i64 0],.int .i64 0,.int .i64 0,.int .i64 0,.agg [.int .i64 0,.int .i64 0],.ak ⟨#[]⟩])),bm 5 0,bm 6 0]
def Pc:=[m 16 0,o 17 (.call 82 [.t 16,(aY 0),(aY 1000002)]),no 18 17]
def Po:=[o 19 (.bld [.agg [.int .i64 0,.int .i64 0],.int .i64 0,.int .i64 0,.int .i64 0,.agg [.int .i64 0,.int .i64 0],.ak ⟨#[]⟩] []),p (.aV (some 8) (.t 4) (.t 19)),bm 5 0,bm 6 1]
def Pr:=[o 7 (.alloc (.agg [.int .i64 0,.int .i64 0,.int .i64 0,.int .i64 0,.int .i64 0,.int .i64 0,.int .i64 0,.int .i64 0]))]
def Ps:=[bm 8 0]
def Pt:=[bm 9 0]
def Pu:=[m 20 9,o 21 (.bin .lss (.t 20) (aY 8))]
def Pv:=[m 25 1,m 26 8,o 27 (.call 84 [.t 25,.t 26]),m 24 27,o 28 (.ext (.t 24) 0),o 29 (.ext (.t 24) 1),o 30 (.ext (.t 24) 2),m 10 28,m 11 29,m 12 30]
def Pw:=[m 31 12,no 32 31]
def Px:=[o 33 (.bld [.agg [.int .i64 0,.int .i64 0],.int .i64 0,.int .i64 0,.int .i64 0,.agg [.int .i64 0,.int .i64 0],.ak ⟨#[]⟩] []),p (.aV (some 8) (.t 4) (.t 33)),bm 5 0,bm 6 87]
def Pd:=[m 34 9,m 35 10,o 36 (.ia 8 1 (.t 7) (.t 34)),p (.aV none (.t 36) (.t 35))]
def Pe:=[m 37 11,m 8 37]
def Pf:=[m 22 9,ad 23 22 1,m 9 23]
def Pg:=[m 38 1,m 39 1,o 40 (.lenT (.t 39)),o 41 (.bin .sub (.t 40) (aY 1)),o 42 (.prim .dm [.t 38,.t 41]),o 43 (.bin .neq (.t 42) (.c (.int .u8 10))),m 44 43,fp 45 8 44,fp 46 1 44,on 47 (.lenT (.t 46)) 44,on 48 (.bin .sub (.t 47) (aY 1)) 44,on 49 (.bin .gtr (.t 45) (.t 48)) 44,or 50 44 49]
def Ph:=[o 51 (.bld [.agg [.int .i64 0,.int .i64 0],.int .i64 0,.int .i64 0,.int .i64 0,.agg [.int .i64 0,.int .i64 0],.ak ⟨#[]⟩] []),p (.aV (some 8) (.t 4) (.t 51)),bm 5 0,bm 6 87]
def Pj:=[o 52 (.ia 8 1 (.t 7) (aY 1)),l 53 52,o 54 (.ia 8 1 (.t 7) (aY 2)),l 55 54,o 56 (.bld [.int .i64 0,.int .i64 0] [(0,(.t 53)),(1,(.t 55))]),o 57 (.ia 8 1 (.t 7) (aY 3)),l 58 57,o 59 (.ia 8 1 (.t 7) (aY 4)),l 60 59,o 61 (.ia 8 1 (.t 7) (aY 5)),l 62 61,o 63 (.ia 8 1 (.t 7) (aY 6)),l 64 63,o 65 (.ia 8 1 (.t 7) (aY 7)),l 66 65,o 67 (.bld [.int .i64 0,.int .i64 0] [(0,(.t 64)),(1,(.t 66))]),m 68 1,m 69 8,m 70 1,o 71 (.lenT (.t 70)),o 72 (.bin .sub (.t 71) (aY 1)),o 73 (.prim (.ss true true) [.t 68,.t 69,.t 72]),o 74 (.bld [.agg [.int .i64 0,.int .i64 0],.int .i64 0,.int .i64 0,.int .i64 0,.agg [.int .i64 0,.int .i64 0],.ak ⟨#[]⟩] [(0,(.t 56)),(1,(.t 58)),(2,(.t 60)),(3,(.t 62)),(4,(.t 67)),(5,(.t 73))]),o 13 (.alloc (.agg [.agg [.int .i64 0,.int .i64 0],.int .i64 0,.int .i64 0,.int .i64 0,.agg [.int .i64 0,.int .i64 0],.ak ⟨#[]⟩])),p (.aV (some 8) (.t 13) (.t 74))]
def JS:=some [[],[0],[],[2],[1,3],[],[5],[],[7],[],[9],[],[11],[],[13],[12,14],[],[],[],[18],[19],[16,17,20],[4,6,8,10,15,21],[],[23,22,0,1,2,3,4,5,6,7,8,9,10,11,12,13,14,15,16,17,18,19,20,21,22,23]]
def Pk:=[au 75 8 13,o 76 (.call 34 [.t 75]),o 77 (.bin .neq (.t 76) (aY 0))]
def Pl:=[o 78 (.bld [.agg [.int .i64 0,.int .i64 0],.int .i64 0,.int .i64 0,.int .i64 0,.agg [.int .i64 0,.int .i64 0],.ak ⟨#[]⟩] []),p (.aV (some 8) (.t 4) (.t 78)),bm 5 0,bm 6 87]
def Pm:=[m 80 0,au 81 8 13,o 82 (.call 83 [.t 80,.t 81]),m 79 82,o 83 (.ext (.t 79) 0),o 84 (.ext (.t 79) 1),m 14 83,m 15 84]
def Pn:=[m 85 14,m 86 1,o 87 (.bin .neq (.t 85) (.t 86))]
def Pp:=[o 88 (.bld [.agg [.int .i64 0,.int .i64 0],.int .i64 0,.int .i64 0,.int .i64 0,.agg [.int .i64 0,.int .i64 0],.ak ⟨#[]⟩] []),p (.aV (some 8) (.t 4) (.t 88)),bm 5 0,bm 6 87]
def Pq:=[au 89 8 13,m 90 15,p (.aV (some 8) (.t 4) (.t 89)),m 5 90,bm 6 0]
def xX:bj:=(s (r Pb) (s (s (r Pc) (.cond (.t 18) (s (r Po) .ret) .skip)) (s (r Pr) (s (r Ps) (s (s (r Pt) (.block 0 (.loop (s (s (r Pu) (.cond (.t 21) .skip (.exit 0))) (s (.block 1 (s (r Pv) (s (s (r Pw) (.cond (.t 32) (s (r Px) .ret) .skip)) (s (r Pd) (r Pe))))) (r Pf)))))) (s (s (r Pg) (.cond (.t 50) (s (r Ph) .ret) .skip)) (s (.bS JS Pj) (s (s (r Pk) (.cond (.t 77) (s (r Pl) .ret) .skip)) (s (r Pm) (s (s (r Pn) (.cond (.t 87) (s (r Pp) .ret) .skip)) (s (r Pq) .ret)))))))))))
def Ca:List bt:=[.cell 4 (some 8),.tmp 5,.tmp 6]
theorem HS:bV Tryz.prog Tryz.f32 xX:=e (by kernel_rfl)
theorem I9:bT Tryz.prog Tryz.f32 Ca:=e (by kernel_rfl)
theorem GJ:bI Tryz.prog 32:=e (by kernel_rfl)
def Py:=[b 1 0,bm 2 0]
def Pz:=[f 3 0 0 1,au 4 2 3,o 5 (.call 85 [.t 4]),no 6 5,m 7 6,fn 8 1 2 1 7,gi 9 8 7,on 10 (.call 82 [.t 9,(aY 0),(aY 40)]) 7,on 11 (.un .not (.t 10)) 7,or 12 7 11,m 13 12,fn 14 2 3 1 13,gi 15 14 13,on 16 (.call 82 [.t 15,(aY 0),(aY 100000)]) 13,on 17 (.un .not (.t 16)) 13,or 18 13 17,m 19 18,fn 20 3 4 1 19,gi 21 20 19,on 22 (.call 82 [.t 21,(aY 0),(aY 100000)]) 19,on 23 (.un .not (.t 22)) 19,or 24 19 23,m 25 24,fn 26 5 7 1 25,gi 27 26 25,on 28 (.call 86 [.t 27]) 25,on 29 (.un .not (.t 28)) 25,or 30 25 29]
def PA:=[bm 2 80]
def PB:=[f 31 1 2 1,l 32 31,o 33 (.bin .eql (.t 32) (aY 0))]
def PC:=[f 34 2 3 1,l 35 34,o 36 (.bin .neq (.t 35) (aY 0)),m 37 36,fn 38 5 7 1 37,gi 39 38 37,on 40 (.bin .neq (.t 39) (.c (.ak ⟨#[]⟩))) 37,or 41 37 40,m 42 41,fn 43 4 5 1 42,on 44 (.ld (some 2) (.t 43)) 42,on 45 (.call 85 [.t 44]) 42,on 46 (.un .not (.t 45)) 42,or 47 42 46,m 48 47,fn 49 4 5 1 48,fn 50 0 0 49 48,gi 51 50 48,fn 52 0 0 1 48,fn 53 0 0 52 48,gi 54 53 48,on 55 (.bin .neq (.t 51) (.t 54)) 48,or 56 48 55,m 57 56,fn 58 4 5 1 57,fn 59 1 1 58 57,gi 60 59 57,fn 61 0 0 1 57,fn 62 1 1 61 57,gi 63 62 57,on 64 (.bin .geq (.t 60) (.t 63)) 57,or 65 57 64]
def PD:=[bm 2 80]
def PE:=[bm 2 0]
def PF:=[f 66 4 5 1,au 67 2 66,o 68 (.bld [.int .i64 0,.int .i64 0] []),o 69 (.eqv (.aV [(.i .i64),(.i .i64)]) true (.t 67) (.t 68))]
def PG:=[bm 2 80]
def PH:=[bm 2 0]
def xY:bj:=(s (r Py) (s (s (r Pz) (.cond (.t 30) (s (r PA) .ret) .skip)) (s (s (r PB) (.cond (.t 33) (s (s (r PC) (.cond (.t 65) (s (r PD) .ret) .skip)) (s (r PE) .ret)) .skip)) (s (s (r PF) (.cond (.t 69) (s (r PG) .ret) .skip)) (s (r PH) .ret)))))
def Cb:List bt:=[.tmp 2]
theorem HT:bV Tryz.prog Tryz.f34 xY:=e (by kernel_rfl)
theorem Ja:bT Tryz.prog Tryz.f34 Cb:=e (by kernel_rfl)
theorem GK:bI Tryz.prog 34:=e (by kernel_rfl)
def PI:=[b 3 0,b 5 2,o 6 (.alloc (.agg [.agg [.ak ⟨#[]⟩,.ak ⟨#[]⟩],.agg [.ak ⟨#[]⟩,.ak ⟨#[]⟩]])),o 7 (.mv (.c (.nils 8))),bm 8 0]
def PJ:=[au 9 4 3,m 10 1,o 11 (.call 87 [.t 9,.t 10]),no 12 11]
def PK:=[o 13 (.bld [.agg [.ak ⟨#[]⟩,.ak ⟨#[]⟩],.agg [.ak ⟨#[]⟩,.ak ⟨#[]⟩]] []),p (.aV (some 4) (.t 6) (.t 13)),o 7 (.mv (.c (.nils 8))),bm 8 84]
def PL:=[au 14 4 3,m 15 1,au 16 8 5,o 17 (.call 88 [.t 14,.t 15,.t 16]),o 18 (.ext (.t 17) 0),o 19 (.ext (.t 17) 1),o 20 (.ext (.t 17) 2),p (.aV (some 4) (.t 6) (.t 18)),m 7 19,m 8 20]
def xZ:bj:=(s (r PI) (s (s (r PJ) (.cond (.t 12) (s (r PK) .ret) .skip)) (s (r PL) .ret)))
def Cc:List bt:=[.cell 6 (some 4),.tmp 7,.tmp 8]
theorem HU:bV Tryz.prog Tryz.f35 xZ:=e (by kernel_rfl)
theorem Jb:bT Tryz.prog Tryz.f35 Cc:=e (by kernel_rfl)
theorem GL:bI Tryz.prog 35:=e (by kernel_rfl)
def PT:=[b 2 0,b 3 1,o 4 (.alloc (.agg [.nils 8])),bm 5 0]
def PU:=[au 9 1 2,o 10 (.call 92 [.t 9]),no 11 10,m 8 11]
def PZ:=[o 12 (.bld [.nils 8] []),p (.aV (some 1) (.t 4) (.t 12)),bm 5 81]
def P0:=[au 14 8 3,o 15 (.call 80 [.t 14]),no 16 15,m 13 16]
def P1:=[o 17 (.bld [.nils 8] []),p (.aV (some 1) (.t 4) (.t 17)),bm 5 80]
def P2:=[au 19 1 2,f 20 0 0 3,au 21 2 20,o 22 (.call 94 [.t 19,.t 21]),m 18 22,o 23 (.ext (.t 18) 0),o 24 (.ext (.t 18) 1),m 6 23,m 7 24]
def P3:=[m 26 7,m 27 26,dP 28 0 0 2 27,gj 29 28 27,cY 30 6 27,bR 31 (.is 8 (.t 29) (.t 30)) 27,bR 32 (.ld (some 8) (.t 31)) 27,bR 33 (.ld (some 8) (.t 3)) 27,bR 34 (.eqv (.aV [(.aV [(.i .i64),(.i .i64)]),(.i .i64),(.i .i64),(.i .i64),(.aV [(.i .i64),(.i .i64)]),.s]) false (.t 32) (.t 33)) 27,and 35 27 34,m 25 35]
def JV:=some [[],[0],[1],[2,1],[1],[3,4,1],[5,1],[1],[6,7,1],[1,8],[9,1]]
def P4:=[f 36 0 0 2,l 37 36,o 38 (.call 93 [.t 37]),o 39 (.bld [.nils 8] [(0,(.t 38))]),p (.aV (some 1) (.t 4) (.t 39)),bm 5 0]
def P5:=[m 41 7,m 40 41]
def P6:=[o 42 (.bld [.nils 8] []),p (.aV (some 1) (.t 4) (.t 42)),bm 5 82]
def PV:=[f 44 0 0 2,l 45 44,o 46 (.call 100 [.t 45]),f 47 0 0 3,f 48 0 0 47,l 49 48,o 50 (.ix 6 1 none (.t 46) (.t 49)),f 51 0 0 3,f 52 1 1 51,l 53 52,lt 54 50 53,m 43 54]
def JT:=some [[],[0],[1],[],[3],[4],[2,5],[],[7],[8],[6,9],[10,2]]
def PW:=[o 55 (.bld [.nils 8] []),p (.aV (some 1) (.t 4) (.t 55)),bm 5 83]
def PX:=[f 57 0 0 2,l 58 57,o 59 (.len (.t 58)),o 60 (.bin .eql (.t 59) (aY 60)),m 56 60]
def PY:=[o 61 (.bld [.nils 8] []),p (.aV (some 1) (.t 4) (.t 61)),bm 5 2]
def uz:=[f 62 0 0 2,l 63 62,o 64 (.call 93 [.t 63]),m 65 6,au 66 8 3,o 67 (.bs 50 8 [.t 66]),o 68 (.call 101 [.t 64,.t 65,.t 67]),o 69 (.bld [.nils 8] [(0,(.t 68))]),p (.aV (some 1) (.t 4) (.t 69)),bm 5 0]
def JU:=some [[],[0],[1],[],[],[4],[2,3,5,2],[6],[7,6,0,1,2,3,4,5,6,7],[8,0,1,2,3,4,5,6,7,8]]
def x8:bj:=(s (r PT) (s (.block 0 (s (r PU) (.cond (.t 8) (s (r PZ) .ret) (s (r P0) (.cond (.t 13) (s (r P1) .ret) .skip))))) (s (r P2) (s (.block 1 (s (.bS JV P3) (.cond (.t 25) (s (r P4) .ret) (s (r P5) (.cond (.t 40) (s (r P6) .ret) (s (.bS JT PV) (.cond (.t 43) (s (r PW) .ret) (s (r PX) (.cond (.t 56) (s (r PY) .ret) .skip))))))))) (s (.bS JU uz) .ret)))))
def Cd:List bt:=[.cell 4 (some 1),.tmp 5]
theorem HV:bV Tryz.prog Tryz.f44 x8:=e (by kernel_rfl)
theorem Jc:bT Tryz.prog Tryz.f44 Cd:=e (by kernel_rfl)
theorem GM:bI Tryz.prog 44:=e (by kernel_rfl)
def P7:=[b 1 0,o 2 (.mv (.c (.c7)))]
def P8:=[o 3 (.mk 122 [.t 1]),m 2 3]
def x9:bj:=(s (r P7) (s (r P8) .ret))
def Ce:List bt:=[.tmp 2]
theorem HW:bV Tryz.prog Tryz.f69 x9:=e (by kernel_rfl)
theorem Jd:bT Tryz.prog Tryz.f69 Ce:=e (by kernel_rfl)
theorem GN:bI Tryz.prog 69:=e (by kernel_rfl)
def zP:=[o 4 (.alloc (.agg [.agg [.int .i64 0,.int .i64 0],.int .i64 0,.int .i64 0,.int .i64 0,.agg [.int .i64 0,.int .i64 0],.ak ⟨#[]⟩])),o 5 (.alloc (.int .i64 0)),o 6 (.alloc (.bool false))]
def P9:=[m 15 1,o 16 (.call 125 [.t 15,(.c (.ak ⟨#[10]⟩))]),m 14 16,o 17 (.ext (.t 14) 0),o 18 (.ext (.t 14) 1),m 7 17,m 8 18]
def Qf:=[m 19 8,no 20 19]
def zS:=[o 21 (.bld [] []),o 22 (.prim (.lF 176) [.t 21]),p (.prim .j6 [.t 22])]
def Qg:=[bm 9 0]
def Qh:=[o 10 (.alloc (.agg [.int .i64 0,.int .i64 0,.int .i64 0,.int .i64 0,.int .i64 0,.int .i64 0,.int .i64 0]))]
def zT:=[m 24 7,o 25 (.call 126 [.t 24]),m 23 25,o 26 (.ext (.t 23) 0),o 27 (.ext (.t 23) 1),m 9 26,m 7 27]
def Qi:=[bm 28 0]
def Qj:=[o 29 (.bin .lss (.t 28) (aY 7))]
def Qk:=[m 30 28,m 11 30]
def zQ:=[m 32 11,m 33 7,o 34 (.call 126 [.t 33]),m 31 34,o 35 (.ext (.t 31) 0),o 36 (.ext (.t 31) 1),o 37 (.ia 7 1 (.t 10) (.t 32)),p (.aV none (.t 37) (.t 35)),m 7 36]
def Qa:=[ad 38 28 1,m 28 38]
def Qb:=[o 39 (.ia 7 1 (.t 10) (aY 0)),l 40 39,o 41 (.ia 7 1 (.t 10) (aY 1)),l 42 41,o 43 (.bld [.int .i64 0,.int .i64 0] [(0,(.t 40)),(1,(.t 42))]),o 44 (.ia 7 1 (.t 10) (aY 2)),l 45 44,o 46 (.ia 7 1 (.t 10) (aY 3)),l 47 46,o 48 (.ia 7 1 (.t 10) (aY 4)),l 49 48,o 50 (.ia 7 1 (.t 10) (aY 5)),l 51 50,o 52 (.ia 7 1 (.t 10) (aY 6)),l 53 52,o 54 (.bld [.int .i64 0,.int .i64 0] [(0,(.t 51)),(1,(.t 53))]),m 55 7,o 56 (.bld [.agg [.int .i64 0,.int .i64 0],.int .i64 0,.int .i64 0,.int .i64 0,.agg [.int .i64 0,.int .i64 0],.ak ⟨#[]⟩] [(0,(.t 43)),(1,(.t 45)),(2,(.t 47)),(3,(.t 49)),(4,(.t 54)),(5,(.t 55))]),p (.aV (some 8) (.t 4) (.t 56))]
def Qc:=[au 57 8 4,o 58 (.call 80 [.t 57]),no 59 58]
def zR:=[o 60 (.bld [] []),o 61 (.prim (.lF 176) [.t 60]),p (.prim .j6 [.t 61])]
def Qd:=[m 63 0,au 64 8 4,o 65 (.call 81 [.t 63,.t 64]),m 62 65,o 66 (.ext (.t 62) 0),o 67 (.ext (.t 62) 1),m 12 66,p (.aV none (.t 5) (.t 67))]
def Qe:=[m 68 12,m 69 1,o 70 (.bin .neq (.t 68) (.t 69)),m 71 70,fp 72 9 71,gi 73 5 71,on 74 (.bin .neq (.t 72) (.t 73)) 71,or 75 71 74]
def uA:=[o 76 (.bld [] []),o 77 (.prim (.lF 176) [.t 76]),p (.prim .j6 [.t 77])]
def uB:=[au 78 8 4,l 79 5,p (.aV (some 8) (.t 4) (.t 78)),p (.aV none (.t 5) (.t 79)),p (.aV none (.t 6) T)]
def JW:=some [[],[],[0,0],[1,2,0,1,2],[3,0,1,2,3]] -- DRAW BAD
def sq:List bt:=[.cell 4 (some 8),.cell 5 none,.cell 6 none]
theorem Je:bT Tryz.prog Tryz.f70 sq:=e (by kernel_rfl)
theorem GO:bI Tryz.prog 70:=e (by kernel_rfl)
def Ql:=[b 3 1,o 4 (.mv bl)]
def Qm:=[m 5 0,o 6 (.len (.t 5)),o 7 (.bin .lss (.t 6) (aY 60)),m 8 7,cY 9 0 8,bR 10 (.call 100 [.t 9]) 8,dP 11 0 0 3 8,dP 12 0 0 11 8,gj 13 12 8,bR 14 (.ix 6 1 none (.t 10) (.t 13)) 8,dP 15 0 0 3 8,dP 16 1 1 15 8,gj 17 16 8,bR 18 (.bin .eql (.t 14) (.t 17)) 8,and 19 8 18,m 4 19]
def JX:=some [[],[0],[1],[2],[3],[4,3,3],[3],[6,3],[7,3],[5,8,3],[3],[10,3],[11,3],[9,12,3],[3,13],[14,5,0,1,2,3,4,5,6,7,8,9,10,11,12,13,14]]
def ya:bj:=(s (r Ql) (s (.bS JX Qm) .ret))
def Cf:List bt:=[.tmp 4]
theorem HX:bV Tryz.prog Tryz.f71 ya:=e (by kernel_rfl)
theorem Jf:bT Tryz.prog Tryz.f71 Cf:=e (by kernel_rfl)
theorem GP:bI Tryz.prog 71:=e (by kernel_rfl)
def Qn:=[b 3 1,o 4 (.mv bl)]
def Qo:=[au 5 8 3,o 6 (.call 34 [.t 5]),o 7 (.bin .eql (.t 6) (aY 0)),m 8 7,cY 9 0 8,bR 10 (.len (.t 9)) 8,bR 11 (.bin .lss (.t 10) (aY 60)) 8,and 12 8 11,m 13 12,dP 14 0 0 3 13,dP 15 1 1 14 13,gj 16 15 13,cY 17 0 13,bR 18 (.call 102 [.t 17]) 13,dP 19 0 0 3 13,dP 20 0 0 19 13,gj 21 20 13,bR 22 (.ix 6 1 none (.t 18) (.t 21)) 13,bR 23 (.bin .eql (.t 16) (.t 22)) 13,and 24 13 23,m 4 24]
def JY:=some [[],[0],[1],[2,1],[3],[4,3],[5,3],[3,6],[7,3],[8],[9,8],[10,8],[8],[12,8,8],[8],[14,8],[15,8],[13,16,8],[11,17,8],[8,18],[19,13,0,1,2,3,4,5,6,7,8,9,10,11,12,13,14,15,16,17,18,19]]
def yb:bj:=(s (r Qn) (s (.bS JY Qo) .ret))
def Cg:List bt:=[.tmp 4]
theorem HY:bV Tryz.prog Tryz.f72 yb:=e (by kernel_rfl)
theorem Jg:bT Tryz.prog Tryz.f72 Cg:=e (by kernel_rfl)
theorem GQ:bI Tryz.prog 72:=e (by kernel_rfl)
def Qp:=[b 1 0,o 2 (.mv (.c (.ak ⟨#[]⟩)))]
def Qq:=[f 3 0 0 1,l 4 3,f 5 1 1 1,l 6 5,o 7 (.bin .add (.t 4) (.t 6)),m 2 7]
def yc:bj:=(s (r Qp) (s (r Qq) .ret))
def Ch:List bt:=[.tmp 2]
theorem HZ:bV Tryz.prog Tryz.f73 yc:=e (by kernel_rfl)
theorem Jh:bT Tryz.prog Tryz.f73 Ch:=e (by kernel_rfl)
theorem GR:bI Tryz.prog 73:=e (by kernel_rfl)
def Qr:=[o 2 (.mv (.c (.ak ⟨#[]⟩)))]
def Qs:=[m 3 0,o 4 (.call 127 [.t 3]),m 2 4]
def yd:bj:=(s (r Qr) (s (r Qs) .ret))
def Ci:List bt:=[.tmp 2]
theorem H0:bV Tryz.prog Tryz.f74 yd:=e (by kernel_rfl)
theorem Ji:bT Tryz.prog Tryz.f74 Ci:=e (by kernel_rfl)
theorem GS:bI Tryz.prog 74:=e (by kernel_rfl)
def Qt:=[b 3 0,o 6 (.alloc (.agg [.ak ⟨#[]⟩,.ak ⟨#[]⟩]))]
def kL:=[f 9 1 1 3,l 10 9,m 11 1,m 12 2,f 13 1 1 3,l 14 13,o 15 (.lenT (.t 14)),ad 16 15 1,o 17 (.call 121 [.t 11,.t 12,.t 16]),o 18 (.prim (.ss false true) [.t 10,.t 17]),o 19 (.eC (.t 18)),m 7 19]
def JZ:=some [[],[0],[],[],[],[4],[5],[6],[2,3,7],[1,8],[9],[10,8,0,1,2,3,4,5,6,7,8,9,10]]
def Qu:=[m 20 1,m 21 2,ad 22 21 1,o 23 (.call 121 [.t 20,.t 22,(aY 2)]),o 24 (.bin .eql (.t 23) (aY 1)),m 25 24,cY 26 7 25,bR 27 (.len (.t 26)) 25,bR 28 (.bin .gtr (.t 27) (aY 0)) 25,and 29 25 28]
def Qv:=[m 30 7,m 31 1,m 32 2,ad 33 32 2,m 34 7,o 35 (.len (.t 34)),o 36 (.call 121 [.t 31,.t 33,.t 35]),o 37 (.is 1 (.t 30) (.t 36)),p (.aV none (.t 37) (.c (.int .u8 63)))]
def Qw:=[f 38 0 0 3,l 39 38,o 40 (.lenT (.t 39)),m 41 7,o 42 (.len (.t 41)),o 43 (.bin .add (.t 40) (.t 42)),o 44 (.jc 5 1 (.int .u8 0) (.t 43)),m 8 44]
def Qx:=[m 45 8,f 46 0 0 3,l 47 46,o 48 (.fL 1 (.t 45) (.t 47))]
def Qy:=[m 49 8,f 50 0 0 3,l 51 50,o 52 (.lenT (.t 51)),o 53 (.sl 1 (.t 49) (some (.t 52)) none none),m 54 7,o 55 (.fL 1 (.t 53) (.t 54))]
def Qz:=[m 56 8,o 57 (.b2s (.t 56)),o 58 (.bld [.ak ⟨#[]⟩,.ak ⟨#[]⟩] [(0,(.t 57))]),p (.aV (some 2) (.t 6) (.t 58))]
def c75:bj:=(s (r Qt) (s (.bS JZ kL) (s (s (r Qu) (.cond (.t 29) (r Qv) .skip)) (s (r Qw) (s (r Qx) (s (r Qy) (s (r Qz) .ret)))))))
def Cj:List bt:=[.cell 6 (some 2)]
theorem H2:bV Tryz.prog Tryz.f75 c75:=e (by kernel_rfl)
theorem Jj:bT Tryz.prog Tryz.f75 Cj:=e (by kernel_rfl)
theorem GU:bI Tryz.prog 75:=e (by kernel_rfl)
def QA:=[o 2 (.mv bl)]
def QB:=[m 3 0,o 4 (.call 128 [.t 3,(aY 0),(aY 1000002)]),m 2 4]
def yf:bj:=(s (r QA) (s (r QB) .ret))
def Ck:List bt:=[.tmp 2]
theorem H3:bV Tryz.prog Tryz.f79 yf:=e (by kernel_rfl)
theorem Jk:bT Tryz.prog Tryz.f79 Ck:=e (by kernel_rfl)
theorem GV:bI Tryz.prog 79:=e (by kernel_rfl)
def QC:=[b 1 0,o 2 (.mv bl)]
def QD:=[f 3 0 0 1,au 4 2 3,o 5 (.call 129 [.t 4]),no 6 5,m 7 6,fn 8 1 2 1 7,gi 9 8 7,on 10 (.call 128 [.t 9,(aY 0),(aY 40)]) 7,on 11 (.un .not (.t 10)) 7,or 12 7 11,m 13 12,fn 14 2 3 1 13,gi 15 14 13,on 16 (.call 105 [.t 15]) 13,on 17 (.un .not (.t 16)) 13,or 18 13 17,m 19 18,fn 20 3 4 1 19,gi 21 20 19,on 22 (.call 105 [.t 21]) 19,on 23 (.un .not (.t 22)) 19,or 24 19 23,m 25 24,fn 26 5 7 1 25,gi 27 26 25,on 28 (.call 130 [.t 27]) 25,on 29 (.un .not (.t 28)) 25,or 30 25 29]
def QE:=[o 2 (.mv bl)]
def QF:=[f 31 1 2 1,l 32 31,o 33 (.bin .eql (.t 32) (aY 0))]
def QG:=[f 34 2 3 1,l 35 34,o 36 (.bin .eql (.t 35) (aY 0)),m 37 36,dP 38 5 7 1 37,gj 39 38 37,bR 40 (.bin .eql (.t 39) (.c (.ak ⟨#[]⟩))) 37,and 41 37 40,m 42 41,dP 43 4 5 1 42,bR 44 (.ld (some 2) (.t 43)) 42,bR 45 (.call 129 [.t 44]) 42,and 46 42 45,m 47 46,dP 48 4 5 1 47,dP 49 0 0 48 47,gj 50 49 47,dP 51 0 0 1 47,dP 52 0 0 51 47,gj 53 52 47,bR 54 (.bin .eql (.t 50) (.t 53)) 47,and 55 47 54,m 56 55,dP 57 4 5 1 56,dP 58 1 1 57 56,gj 59 58 56,dP 60 0 0 1 56,dP 61 1 1 60 56,gj 62 61 56,bR 63 (.bin .lss (.t 59) (.t 62)) 56,and 64 56 63,m 2 64]
def QH:=[f 65 4 5 1,au 66 2 65,o 67 (.bld [.int .i64 0,.int .i64 0] []),o 68 (.eqv (.aV [(.i .i64),(.i .i64)]) false (.t 66) (.t 67)),m 2 68]
def c80:bj:=(s (r QC) (s (s (r QD) (.cond (.t 30) (s (r QE) .ret) .skip)) (s (s (r QF) (.cond (.t 33) (s (r QG) .ret) .skip)) (s (r QH) .ret))))
def Cl:List bt:=[.tmp 2]
theorem H4:bV Tryz.prog Tryz.f80 c80:=e (by kernel_rfl)
theorem Jl:bT Tryz.prog Tryz.f80 Cl:=e (by kernel_rfl)
theorem GW:bI Tryz.prog 80:=e (by kernel_rfl)
def QI:=[b 3 1,o 4 (.mv (.c (.ak ⟨#[]⟩))),bm 5 0]
def QJ:=[au 9 8 3,o 10 (.call 131 [.t 9]),m 6 10]
def QK:=[m 11 6,o 12 (.eC (.t 11)),o 13 (.len (.t 12)),bm 14 0]
def QL:=[lt 15 14 13]
def QM:=[o 16 (.is 1 (.t 12) (.t 14)),l 17 16,m 8 17]
def QN:=[m 18 0,o 19 (.bin .mul (aY 257) (.t 18)),m 20 8,o 21 (.conv .i64 (.t 20)),o 22 (.bin .add (.t 19) (.t 21)),ad 23 22 1,o 24 (.bin .rem (.t 23) (aY 1000003)),m 0 24]
def QO:=[ad 25 14 1,m 14 25]
def QP:=[m 26 0,o 27 (.call 132 [.t 26]),o 28 (.bin .add (.t 27) (.c (.ak ⟨#[32]⟩))),m 29 6,o 30 (.bin .add (.t 28) (.t 29)),o 31 (.bin .add (.t 30) (.c (.ak ⟨#[10]⟩))),m 32 0,m 4 31,m 5 32]
def yg:bj:=(s (r QI) (s (r QJ) (s (s (r QK) (.block 0 (.loop (s (r QL) (s (.cond (.t 15) .skip (.exit 0)) (s (.block 1 (s (r QM) (r QN))) (r QO))))))) (s (r QP) .ret))))
def Cm:List bt:=[.tmp 4,.tmp 5]
theorem H5:bV Tryz.prog Tryz.f81 yg:=e (by kernel_rfl)
theorem Jm:bT Tryz.prog Tryz.f81 Cm:=e (by kernel_rfl)
theorem GX:bI Tryz.prog 81:=e (by kernel_rfl)
def QR:=[o 6 (.mv bl)]
def QS:=[m 7 0,m 8 1,o 9 (.bin .geq (.t 7) (.t 8)),m 10 9,cY 11 0 10,cY 12 2 10,bR 13 (.bin .leq (.t 11) (.t 12)) 10,and 14 10 13,m 6 14]
def yh:bj:=(s (r QR) (s (r QS) .ret))
def Cn:List bt:=[.tmp 6]
theorem H6:bV Tryz.prog Tryz.f82 yh:=e (by kernel_rfl)
theorem Jn:bT Tryz.prog Tryz.f82 Cn:=e (by kernel_rfl)
theorem GY:bI Tryz.prog 82:=e (by kernel_rfl)
def QT:=[b 3 1,o 4 (.mv (.c (.ak ⟨#[]⟩))),bm 5 0]
def QU:=[au 8 8 3,o 9 (.call 133 [.t 8]),m 6 9]
def QV:=[bm 7 0]
def QW:=[m 10 7,m 11 6,o 12 (.lenT (.t 11)),lt 13 10 12]
def QX:=[m 16 0,o 17 (.bin .mul (aY 257) (.t 16)),m 18 6,m 19 7,o 20 (.prim .dm [.t 18,.t 19]),o 21 (.conv .i64 (.t 20)),o 22 (.bin .add (.t 17) (.t 21)),ad 23 22 1,o 24 (.bin .rem (.t 23) (aY 1000003)),m 0 24]
def QY:=[m 14 7,ad 15 14 1,m 7 15]
def QZ:=[m 25 0,o 26 (.call 134 [.t 25]),o 27 (.bin .add (.t 26) (.c (.ak ⟨#[32]⟩))),m 28 6,o 29 (.bin .add (.t 27) (.t 28)),o 30 (.bin .add (.t 29) (.c (.ak ⟨#[10]⟩))),m 31 0,m 4 30,m 5 31]
def yi:bj:=(s (r QT) (s (r QU) (s (s (r QV) (.block 0 (.loop (s (s (r QW) (.cond (.t 13) .skip (.exit 0))) (s (.block 1 (r QX)) (r QY)))))) (s (r QZ) .ret))))
def Co:List bt:=[.tmp 4,.tmp 5]
theorem H7:bV Tryz.prog Tryz.f83 yi:=e (by kernel_rfl)
theorem Jo:bT Tryz.prog Tryz.f83 Co:=e (by kernel_rfl)
theorem GZ:bI Tryz.prog 83:=e (by kernel_rfl)
def Q0:=[bm 4 0,bm 5 0,o 6 (.mv bl)]
def Q1:=[bm 7 0]
def Q3:=[m 9 1,m 8 9]
def Q4:=[m 10 8,m 11 0,o 12 (.lenT (.t 11)),lt 13 10 12,m 14 13,cY 15 8 14,cY 16 1 14,bR 17 (.bin .add (.t 16) (aY 9)) 14,bR 18 (.bin .lss (.t 15) (.t 17)) 14,and 19 14 18]
def Q5:=[m 22 0,m 23 8,o 24 (.prim .dm [.t 22,.t 23]),o 25 (.bin .eql (.t 24) (.c (.int .u8 32)))]
def Q6:=[m 26 7,m 27 8,ad 28 27 1,m 29 8,m 30 1,o 31 (.bin .gtr (.t 29) (.t 30)),m 4 26,m 5 28,m 6 31]
def Q7:=[m 32 0,m 33 8,o 34 (.prim .dm [.t 32,.t 33]),o 35 (.bin .lss (.t 34) (.c (.int .u8 48))),m 36 35,fp 37 0 36,fp 38 8 36,on 39 (.prim .dm [.t 37,.t 38]) 36,on 40 (.bin .gtr (.t 39) (.c (.int .u8 57))) 36,or 41 36 40]
def Q8:=[bm 4 0,bm 5 0,o 6 (.mv bl)]
def Q9:=[m 42 7,o 43 (.bin .mul (aY 10) (.t 42)),m 44 0,m 45 8,o 46 (.prim .dm [.t 44,.t 45]),o 47 (.bin .sub (.t 46) (.c (.int .u8 48))),o 48 (.conv .i64 (.t 47)),o 49 (.bin .add (.t 43) (.t 48)),m 7 49]
def Ra:=[m 20 8,ad 21 20 1,m 8 21]
def Q2:=[bm 4 0,bm 5 0,o 6 (.mv bl)]
def yj:bj:=(s (r Q0) (s (r Q1) (s (s (r Q3) (.block 0 (.loop (s (s (r Q4) (.cond (.t 19) .skip (.exit 0))) (s (.block 1 (s (s (r Q5) (.cond (.t 25) (s (r Q6) .ret) .skip)) (s (s (r Q7) (.cond (.t 41) (s (r Q8) .ret) .skip)) (r Q9)))) (r Ra)))))) (s (r Q2) .ret))))
def Cp:List bt:=[.tmp 4,.tmp 5,.tmp 6]
theorem H8:bV Tryz.prog Tryz.f84 yj:=e (by kernel_rfl)
theorem Jp:bT Tryz.prog Tryz.f84 Cp:=e (by kernel_rfl)
theorem G0:bI Tryz.prog 84:=e (by kernel_rfl)
def Rb:=[b 1 0,o 2 (.mv bl)]
def Rc:=[f 3 0 0 1,l 4 3,o 5 (.call 82 [.t 4,(aY 0),(aY 5)]),m 6 5,dP 7 1 1 1 6,gj 8 7 6,bR 9 (.call 82 [.t 8,(aY 0),(aY 9999)]) 6,and 10 6 9,m 2 10]
def c85:bj:=(s (r Rb) (s (r Rc) .ret))
def Cq:List bt:=[.tmp 2]
theorem H9:bV Tryz.prog Tryz.f85 c85:=e (by kernel_rfl)
theorem Jq:bT Tryz.prog Tryz.f85 Cq:=e (by kernel_rfl)
theorem G1:bI Tryz.prog 85:=e (by kernel_rfl)
def Re:=[o 2 (.mv bl)]
def Rf:=[m 4 0,o 5 (.lenT (.t 4)),o 6 (.bin .gtr (.t 5) (aY 160))]
def Rg:=[o 2 (.mv bl)]
def Rh:=[bm 3 0]
def Ri:=[m 7 3,m 8 0,o 9 (.lenT (.t 8)),lt 10 7 9]
def Rj:=[m 13 0,m 14 3,o 15 (.prim .dm [.t 13,.t 14]),o 16 (.bin .lss (.t 15) (.c (.int .u8 32))),m 17 16,fp 18 0 17,fp 19 3 17,on 20 (.prim .dm [.t 18,.t 19]) 17,on 21 (.bin .gtr (.t 20) (.c (.int .u8 126))) 17,or 22 17 21,m 23 22,fp 24 0 23,fp 25 3 23,on 26 (.prim .dm [.t 24,.t 25]) 23,on 27 (.bin .eql (.t 26) (.c (.int .u8 63))) 23,or 28 23 27]
def Rk:=[o 2 (.mv bl)]
def Rl:=[m 11 3,ad 12 11 1,m 3 12]
def Rm:=[o 2 (.mv T)]
def yk:bj:=(s (r Re) (s (s (r Rf) (.cond (.t 6) (s (r Rg) .ret) .skip)) (s (s (r Rh) (.block 0 (.loop (s (s (r Ri) (.cond (.t 10) .skip (.exit 0))) (s (.block 1 (s (r Rj) (.cond (.t 28) (s (r Rk) .ret) .skip))) (r Rl)))))) (s (r Rm) .ret))))
def Cr:List bt:=[.tmp 2]
theorem Ia:bV Tryz.prog Tryz.f86 yk:=e (by kernel_rfl)
theorem Jr:bT Tryz.prog Tryz.f86 Cr:=e (by kernel_rfl)
theorem G2:bI Tryz.prog 86:=e (by kernel_rfl)
def Rn:=[b 2 0,o 4 (.mv bl)]
def Ro:=[m 6 1,o 7 (.call 98 [.t 6]),no 8 7,m 9 8,fn 10 0 0 2 9,on 11 (.ld (some 2) (.t 10)) 9,on 12 (.call 73 [.t 11]) 9,fp 13 1 9,on 14 (.call 135 [.t 13]) 9,on 15 (.bin .neq (.t 12) (.t 14)) 9,or 16 9 15]
def Rp:=[o 4 (.mv bl)]
def Rq:=[m 17 1,o 18 (.len (.t 17)),ad 19 18 1,bm 20 0]
def Rr:=[lt 21 20 19]
def Rs:=[m 22 20,m 5 22]
def Rt:=[f 23 1 2 2,au 24 2 23,o 25 (.call 73 [.t 24]),m 26 1,m 27 5,o 28 (.sl 8 (.t 26) none (some (.t 27)) none),o 29 (.call 135 [.t 28]),o 30 (.bin .eql (.t 25) (.t 29))]
def J0:=some [[],[0],[1],[],[],[3,4],[5,2],[2,6]]
def Ru:=[o 4 (.mv T)]
def Rv:=[ad 31 20 1,m 20 31]
def Rw:=[o 4 (.mv bl)]
def yl:bj:=(s (r Rn) (s (s (r Ro) (.cond (.t 16) (s (r Rp) .ret) .skip)) (s (s (r Rq) (.block 0 (.loop (s (r Rr) (s (.cond (.t 21) .skip (.exit 0)) (s (.block 1 (s (r Rs) (s (.bS J0 Rt) (.cond (.t 30) (s (r Ru) .ret) .skip)))) (r Rv))))))) (s (r Rw) .ret))))
def Cs:List bt:=[.tmp 4]
theorem Ib:bV Tryz.prog Tryz.f87 yl:=e (by kernel_rfl)
theorem Js:bT Tryz.prog Tryz.f87 Cs:=e (by kernel_rfl)
theorem G3:bI Tryz.prog 87:=e (by kernel_rfl)
def Rx:=[b 3 0,b 5 2,o 6 (.alloc (.agg [.agg [.ak ⟨#[]⟩,.ak ⟨#[]⟩],.agg [.ak ⟨#[]⟩,.ak ⟨#[]⟩]])),o 7 (.mv (.c (.nils 8))),bm 8 0]
def Ry:=[m 13 1,au 14 8 5,o 15 (.call 136 [.t 13,.t 14])]
def uC:=[au 16 4 3,m 17 1,o 18 (.call 93 [.t 17]),p (.aV (some 4) (.t 6) (.t 16)),m 7 18,bm 8 0]
def J1:=some [[],[],[1],[0,2,0],[2,3,0,1,2,3],[4,0,1,2,3,4]]
def Rz:=[m 20 1,o 21 (.call 95 [.t 20]),au 22 8 5,o 23 (.call 44 [.t 21,.t 22]),m 19 23,o 24 (.ext (.t 19) 0),o 25 (.ext (.t 19) 1),o 9 (.alloc (.agg [.nils 8])),p (.aV (some 1) (.t 9) (.t 24)),m 10 25]
def J2:=some [[],[0],[],[1,2,1],[3],[4],[4],[],[7,5,3,0,1,2,3,4,5,7],[6,8,0,1,2,3,4,5,6,7,8]]
def RA:=[m 26 10,o 27 (.bin .neq (.t 26) (aY 0))]
def RB:=[o 28 (.bld [.agg [.ak ⟨#[]⟩,.ak ⟨#[]⟩],.agg [.ak ⟨#[]⟩,.ak ⟨#[]⟩]] []),m 29 10,p (.aV (some 4) (.t 6) (.t 28)),o 7 (.mv (.c (.nils 8))),m 8 29]
def RC:=[m 31 1,o 32 (.call 137 [.t 31]),au 33 8 5,o 34 (.call 81 [.t 32,.t 33]),m 30 34,o 35 (.ext (.t 30) 0),o 36 (.ext (.t 30) 1),m 11 35,m 12 36]
def J3:=some [[],[0],[],[1,2,1],[3],[4],[4],[5,3,0,1,2,3,4,5],[6,7,0,1,2,3,4,5,6,7]]
def RD:=[f 37 0 0 3,f 38 1 1 37,l 39 38,m 40 11,o 41 (.bin .add (.t 39) (.t 40)),f 42 0 0 3,f 43 1 1 42,p (.aV none (.t 43) (.t 41))]
def uD:=[au 44 4 3,m 45 1,o 46 (.call 93 [.t 45]),au 47 8 5,o 48 (.bs 50 8 [.t 47]),o 49 (.dK 50 8 72 (.agg [.agg [.int .i64 0,.int .i64 0],.int .i64 0,.int .i64 0,.int .i64 0,.agg [.int .i64 0,.int .i64 0],.ak ⟨#[]⟩]) (.t 46) (.t 48)),p (.aV (some 4) (.t 6) (.t 44)),m 7 49,bm 8 0]
def J4:=some [[],[],[1],[],[3],[2,4,2],[0,5,0],[5,6,0,1,2,3,4,5,6],[7,0,1,2,3,4,5,6,7]] -- DRAW BAD
def ym:bj:=(s (r Rx) (s (s (r Ry) (.cond (.t 15) (s (.bS J1 uC) .ret) .skip)) (s (s (.bS J2 Rz) (s (r RA) (.cond (.t 27) (s (r RB) .ret) .skip))) (s (.bS J3 RC) (s (r RD) (s (.bS J4 uD) .ret))))))
def Ct:List bt:=[.cell 6 (some 4),.tmp 7,.tmp 8]
theorem Ic:bV Tryz.prog Tryz.f88 ym:=e (by kernel_rfl)
theorem Jt:bT Tryz.prog Tryz.f88 Ct:=e (by kernel_rfl)
theorem G4:bI Tryz.prog 88:=e (by kernel_rfl)
def RE:=[o 2 (.mv (.c (.ak ⟨#[]⟩)))]
def RF:=[o 3 (.mv (.c (.ak ⟨#[]⟩)))]
def RG:=[bm 4 1]
def RH:=[bm 5 0]
def RI:=[m 8 5,m 9 0,o 10 (.len (.t 9)),lt 11 8 10]
def RJ:=[m 15 4,m 16 0,m 17 5,o 18 (.is 8 (.t 16) (.t 17)),au 19 8 18,o 20 (.call 83 [.t 15,.t 19]),m 14 20,o 21 (.ext (.t 14) 0),o 22 (.ext (.t 14) 1),m 6 21,m 7 22]
def RL:=[m 23 3,m 24 6,o 25 (.bin .add (.t 23) (.t 24)),m 3 25]
def RM:=[m 26 7,m 4 26]
def RN:=[m 12 5,ad 13 12 1,m 5 13]
def RO:=[m 27 3,m 2 27]
def yn:bj:=(s (r RE) (s (r RF) (s (r RG) (s (s (r RH) (.block 0 (.loop (s (s (r RI) (.cond (.t 11) .skip (.exit 0))) (s (.block 1 (s (r RJ) (s (r RL) (r RM)))) (r RN)))))) (s (r RO) .ret)))))
def Cu:List bt:=[.tmp 2]
theorem Ie:bV Tryz.prog Tryz.f90 yn:=e (by kernel_rfl)
theorem Ju:bT Tryz.prog Tryz.f90 Cu:=e (by kernel_rfl)
theorem G5:bI Tryz.prog 90:=e (by kernel_rfl)
def RP:=[b 1 0,o 2 (.mv bl)]
def RQ:=[f 6 0 0 1,l 7 6,o 8 (.len (.t 7)),bm 9 0]
def RV:=[lt 10 9 8]
def RW:=[m 11 9,o 12 (.is 8 (.t 7) (.t 9)),au 13 8 12,o 4 (.alloc (.agg [.agg [.int .i64 0,.int .i64 0],.int .i64 0,.int .i64 0,.int .i64 0,.agg [.int .i64 0,.int .i64 0],.ak ⟨#[]⟩])),m 3 11,p (.aV (some 8) (.t 4) (.t 13))]
def RX:=[au 14 8 4,o 15 (.call 80 [.t 14]),no 16 15]
def RY:=[o 2 (.mv bl)]
def RZ:=[o 17 (.bld [.int .i64 0,.int .i64 0] [(0,(.c (.int .i64 (-1))))]),o 5 (.alloc (.agg [.int .i64 0,.int .i64 0])),p (.aV (some 2) (.t 5) (.t 17))]
def R0:=[m 18 3,o 19 (.bin .gtr (.t 18) (aY 0))]
def R1:=[f 20 0 0 1,l 21 20,m 22 3,o 23 (.bin .sub (.t 22) (aY 1)),o 24 (.is 8 (.t 21) (.t 23)),f 25 0 0 24,au 26 2 25,p (.aV (some 2) (.t 5) (.t 26))]
def R2:=[f 27 0 0 4,au 28 2 27,f 29 0 0 5,l 30 29,f 31 1 1 5,l 32 31,ad 33 32 1,o 34 (.bld [.int .i64 0,.int .i64 0] [(0,(.t 30)),(1,(.t 33))]),o 35 (.eqv (.aV [(.i .i64),(.i .i64)]) true (.t 28) (.t 34)),m 36 35,dP 37 0 0 4 36,dP 38 0 0 37 36,gj 39 38 36,dP 40 0 0 5 36,gj 41 40 36,bR 42 (.bin .leq (.t 39) (.t 41)) 36,cY 43 42 36,fn 44 0 0 4 43,fn 45 1 1 44 43,gi 46 45 43,on 47 (.bin .neq (.t 46) (aY 0)) 43,bR 48 (.pick (.t 43) T (.t 47)) 36,and 49 36 48]
def RS:=[o 2 (.mv bl)]
def RT:=[ad 50 9 1,m 9 50]
def RU:=[f 51 0 0 1,l 52 51,o 53 (.len (.t 52)),o 54 (.bin .leq (.t 53) (aY 60)),m 2 54]
def yp:bj:=(s (r RP) (s (s (r RQ) (.block 0 (.loop (s (r RV) (s (.cond (.t 10) .skip (.exit 0)) (s (.block 1 (s (r RW) (s (s (r RX) (.cond (.t 16) (s (r RY) .ret) .skip)) (s (r RZ) (s (s (r R0) (.cond (.t 19) (r R1) .skip)) (s (r R2) (.cond (.t 49) (s (r RS) .ret) .skip))))))) (r RT))))))) (s (r RU) .ret)))
def Cv:List bt:=[.tmp 2]
theorem If:bV Tryz.prog Tryz.f92 yp:=e (by kernel_rfl)
theorem Jv:bT Tryz.prog Tryz.f92 Cv:=e (by kernel_rfl)
theorem G6:bI Tryz.prog 92:=e (by kernel_rfl)
def uE:=[o 2 (.mv (.c (.nils 8)))]
def pd:=[m 3 0,o 4 (.nilS false (.t 3))]
def uF:=[o 2 (.mv (.c (.nils 8)))]
def pf:=[o 5 (.bs0 8),m 6 0,o 7 (.dK 50 8 72 (.agg [.agg [.int .i64 0,.int .i64 0],.int .i64 0,.int .i64 0,.int .i64 0,.agg [.int .i64 0,.int .i64 0],.ak ⟨#[]⟩]) (.t 5) (.t 6)),m 2 7]
def tF:bj:=(s (r uE) (s (s (r pd) (.cond (.t 4) (s (r uF) .ret) .skip)) (s (r pf) .ret)))
def vy:List bt:=[.tmp 2]
theorem yI:bV Tryz.prog Tryz.f93 tF:=e (by kernel_rfl)
theorem yR:bT Tryz.prog Tryz.f93 vy:=e (by kernel_rfl)
theorem yD:bI Tryz.prog 93:=e (by kernel_rfl)
def R3:=[b 2 0,b 3 1,bm 4 0,o 5 (.mv bl)]
def R4:=[f 6 0 0 2,l 7 6,au 8 2 3,o 9 (.call 138 [.t 7,.t 8,(.c (.func 139 []))]),o 10 (.ext (.t 9) 0),o 11 (.ext (.t 9) 1),m 4 10,m 5 11]
def yq:bj:=(s (r R3) (s (r R4) .ret))
def Cw:List bt:=[.tmp 4,.tmp 5]
theorem Ig:bV Tryz.prog Tryz.f94 yq:=e (by kernel_rfl)
theorem Jw:bT Tryz.prog Tryz.f94 Cw:=e (by kernel_rfl)
theorem G7:bI Tryz.prog 94:=e (by kernel_rfl)
def R5:=[o 2 (.alloc (.agg [.nils 8]))]
def R6:=[m 4 0,o 5 (.call 93 [.t 4]),m 3 5]
def R7:=[m 6 3,o 7 (.call 141 [.t 6,(.c (.func 142 []))])]
def R8:=[m 8 3,o 9 (.bld [.nils 8] [(0,(.t 8))]),p (.aV (some 1) (.t 2) (.t 9))]
def yr:bj:=(s (r R5) (s (r R6) (s (r R7) (s (r R8) .ret))))
def Cx:List bt:=[.cell 2 (some 1)]
theorem Ih:bV Tryz.prog Tryz.f95 yr:=e (by kernel_rfl)
theorem Jx:bT Tryz.prog Tryz.f95 Cx:=e (by kernel_rfl)
theorem G8:bI Tryz.prog 95:=e (by kernel_rfl)
def R9:=[o 2 (.mv bl)]
def Sa:=[m 5 0,o 6 (.len (.t 5)),bm 7 0]
def Sb:=[lt 8 7 6]
def Sc:=[m 9 7,o 10 (.is 8 (.t 5) (.t 7)),au 11 8 10,o 4 (.alloc (.agg [.agg [.int .i64 0,.int .i64 0],.int .i64 0,.int .i64 0,.int .i64 0,.agg [.int .i64 0,.int .i64 0],.ak ⟨#[]⟩])),m 3 9,p (.aV (some 8) (.t 4) (.t 11))]
def Sd:=[au 12 8 4,o 13 (.call 80 [.t 12]),no 14 13,m 15 14,fp 16 0 15,fp 17 3 15,on 18 (.sl 8 (.t 16) none (some (.t 17)) none) 15,on 19 (.ld (some 8) (.t 4)) 15,on 20 (.call 71 [.t 18,.t 19]) 15,on 21 (.un .not (.t 20)) 15,or 22 15 21]
def J5:=some [[],[0],[1],[2,1],[3],[3],[4,5,3],[3],[6,7,3,3],[8,3],[3,9]]
def Se:=[o 2 (.mv bl)]
def Sf:=[ad 23 7 1,m 7 23]
def Sg:=[o 2 (.mv T)]
def yu:bj:=(s (r R9) (s (s (r Sa) (.block 0 (.loop (s (r Sb) (s (.cond (.t 8) .skip (.exit 0)) (s (.block 1 (s (r Sc) (s (.bS J5 Sd) (.cond (.t 22) (s (r Se) .ret) .skip)))) (r Sf))))))) (s (r Sg) .ret)))
def Cy:List bt:=[.tmp 2]
theorem Ii:bV Tryz.prog Tryz.f98 yu:=e (by kernel_rfl)
theorem Jy:bT Tryz.prog Tryz.f98 Cy:=e (by kernel_rfl)
theorem G9:bI Tryz.prog 98:=e (by kernel_rfl)
def Lc:=[o 2 (.alloc (.agg [.int .i64 0,.int .i64 0,.int .i64 0,.int .i64 0,.int .i64 0,.int .i64 0]))]
def Ld:=[o 3 (.alloc (.agg [.int .i64 0,.int .i64 0,.int .i64 0,.int .i64 0,.int .i64 0,.int .i64 0]))]
def Le:=[m 6 0,o 7 (.len (.t 6)),bm 8 0]
def Lf:=[lt 9 8 7]
def Lg:=[o 10 (.is 8 (.t 6) (.t 8)),au 11 8 10,o 5 (.alloc (.agg [.agg [.int .i64 0,.int .i64 0],.int .i64 0,.int .i64 0,.int .i64 0,.agg [.int .i64 0,.int .i64 0],.ak ⟨#[]⟩])),p (.aV (some 8) (.t 5) (.t 11))]
def Lh:=[f 12 0 0 5,f 13 0 0 12,l 14 13,o 15 (.ia 6 1 (.t 3) (.t 14)),l 16 15,ad 17 16 1,o 18 (.ia 6 1 (.t 3) (.t 14)),p (.aV none (.t 18) (.t 17))]
def Li:=[ad 19 8 1,m 8 19]
def Lj:=[au 20 6 3,p (.aV (some 6) (.t 2) (.t 20))]
def xq:bj:=(s (r Lc) (s (r Ld) (s (s (r Le) (.block 0 (.loop (s (r Lf) (s (.cond (.t 9) .skip (.exit 0)) (s (.block 1 (s (r Lg) (r Lh))) (r Li))))))) (s (r Lj) .ret))))
def BA:List bt:=[.cell 2 (some 6)]
theorem Hj:bV Tryz.prog Tryz.f100 xq:=e (by kernel_rfl)
theorem Iy:bT Tryz.prog Tryz.f100 BA:=e (by kernel_rfl)
theorem F3:bI Tryz.prog 100:=e (by kernel_rfl)
def rh:=[o 6 (.mv (.c (.nils 8)))]
def ri:=[m 10 0,m 11 1,o 12 (.sl 8 (.t 10) (some (.t 11)) none none)]
def rj:=[m 13 2,o 14 (.len (.t 13)),m 7 14]
def rl:=[m 15 7,o 16 (.bin .eql (.t 15) (aY 0))]
def Ln:=[m 17 0,m 6 17]
def rm:=[m 18 0,o 19 (.len (.t 18)),m 8 19]
def rn:=[m 20 1,m 21 8,o 22 (.bin .eql (.t 20) (.t 21))]
def pc:=[m 23 0,m 24 2,o 25 (.dK 50 8 72 (.agg [.agg [.int .i64 0,.int .i64 0],.int .i64 0,.int .i64 0,.int .i64 0,.agg [.int .i64 0,.int .i64 0],.ak ⟨#[]⟩]) (.t 23) (.t 24)),m 6 25]
def zN:=[m 26 8,m 27 7,o 28 (.bin .add (.t 26) (.t 27)),m 29 0,o 30 (.cap (.t 29)),o 31 (.bin .gtr (.t 28) (.t 30))]
def zO:=[m 32 0,m 33 1,o 34 (.sl 8 (.t 32) none (some (.t 33)) none),m 35 8,m 36 7,o 37 (.bin .add (.t 35) (.t 36)),m 38 1,o 39 (.bin .sub (.t 37) (.t 38)),o 40 (.jl 50 8 72 (.agg [.agg [.int .i64 0,.int .i64 0],.int .i64 0,.int .i64 0,.int .i64 0,.agg [.int .i64 0,.int .i64 0],.ak ⟨#[]⟩]) (.t 34) (.t 39)),m 9 40]
def zF:=[m 41 9,m 42 1,o 43 (.sl 8 (.t 41) (some (.t 42)) none none),m 44 2,o 45 (.fL 8 (.t 43) (.t 44))]
def zG:=[m 46 9,m 47 1,m 48 7,o 49 (.bin .add (.t 47) (.t 48)),o 50 (.sl 8 (.t 46) (some (.t 49)) none none),m 51 0,m 52 1,o 53 (.sl 8 (.t 51) (some (.t 52)) none none),o 54 (.fL 8 (.t 50) (.t 53))]
def JF:=some [[],[],[],[1,2],[0,3],[],[],[5,6],[4,7]]
def zH:=[m 55 9,m 6 55]
def zI:=[m 56 0,m 57 8,m 58 7,o 59 (.bin .add (.t 57) (.t 58)),o 60 (.sl 8 (.t 56) none (some (.t 59)) none),m 0 60]
def zJ:=[m 61 2,m 62 0,m 63 1,m 64 7,o 65 (.bin .add (.t 63) (.t 64)),o 66 (.sl 8 (.t 62) (some (.t 65)) none none),o 67 (.gr 143 [.t 61,.t 66]),no 68 67]
def zK:=[m 69 0,m 70 1,m 71 7,o 72 (.bin .add (.t 70) (.t 71)),o 73 (.sl 8 (.t 69) (some (.t 72)) none none),m 74 0,m 75 1,o 76 (.sl 8 (.t 74) (some (.t 75)) none none),o 77 (.fL 8 (.t 73) (.t 76))]
def JG:=some [[],[],[],[1,2],[0,3],[],[],[5,6],[4,7]]
def zL:=[m 78 0,m 79 1,o 80 (.sl 8 (.t 78) (some (.t 79)) none none),m 81 2,o 82 (.fL 8 (.t 80) (.t 81))]
def zM:=[m 83 0,m 6 83]
def Lk:=[m 84 0,m 85 8,o 86 (.sl 8 (.t 84) (some (.t 85)) none none),m 87 2,o 88 (.fL 8 (.t 86) (.t 87))]
def Ll:=[m 89 0,m 90 1,o 91 (.sl 8 (.t 89) (some (.t 90)) none none),m 92 7,o 93 (.call 144 [.t 91,.t 92])]
def Lm:=[m 94 0,m 6 94]
def qK:bj:=(s (r rh) (s (r ri) (s (r rj) (s (s (r rl) (.cond (.t 16) (s (r Ln) .ret) .skip)) (s (r rm) (s (s (r rn) (.cond (.t 22) (s (r pc) .ret) .skip)) (s (s (r zN) (.cond (.t 31) (s (r zO) (s (r zF) (s (.bS JF zG) (s (r zH) .ret)))) .skip)) (s (r zI) (s (s (r zJ) (.cond (.t 68) (s (.bS JG zK) (s (r zL) (s (r zM) .ret))) .skip)) (s (r Lk) (s (r Ll) (s (r Lm) .ret))))))))))))
def sn:List bt:=[.tmp 6]
theorem tI:bV Tryz.prog Tryz.f101 qK:=e (by kernel_rfl)
theorem tO:bT Tryz.prog Tryz.f101 sn:=e (by kernel_rfl)
theorem tG:bI Tryz.prog 101:=e (by kernel_rfl)
def Lo:=[o 2 (.alloc (.agg [.int .i64 0,.int .i64 0,.int .i64 0,.int .i64 0,.int .i64 0,.int .i64 0]))]
def Lp:=[o 3 (.alloc (.agg [.int .i64 0,.int .i64 0,.int .i64 0,.int .i64 0,.int .i64 0,.int .i64 0]))]
def Lq:=[bm 4 0]
def Lr:=[m 5 4,m 6 0,o 7 (.len (.t 6)),lt 8 5 7]
def Ls:=[m 11 0,m 12 4,o 13 (.is 8 (.t 11) (.t 12)),f 14 0 0 13,f 15 0 0 14,l 16 15,o 17 (.ia 6 1 (.t 3) (.t 16)),l 18 17,ad 19 18 1,o 20 (.ia 6 1 (.t 3) (.t 16)),p (.aV none (.t 20) (.t 19))]
def Lt:=[m 9 4,ad 10 9 1,m 4 10]
def Lu:=[au 21 6 3,p (.aV (some 6) (.t 2) (.t 21))]
def xr:bj:=(s (r Lo) (s (r Lp) (s (s (r Lq) (.block 0 (.loop (s (s (r Lr) (.cond (.t 8) .skip (.exit 0))) (s (.block 1 (r Ls)) (r Lt)))))) (s (r Lu) .ret))))
def BB:List bt:=[.cell 2 (some 6)]
theorem Hk:bV Tryz.prog Tryz.f102 xr:=e (by kernel_rfl)
theorem Iz:bT Tryz.prog Tryz.f102 BB:=e (by kernel_rfl)
theorem F4:bI Tryz.prog 102:=e (by kernel_rfl)
def Lv:=[o 2 (.mv bl)]
def Lw:=[m 3 0,o 4 (.call 128 [.t 3,(aY 0),(aY 100000)]),m 2 4]
def xt:bj:=(s (r Lv) (s (r Lw) .ret))
def BC:List bt:=[.tmp 2]
theorem Hl:bV Tryz.prog Tryz.f105 xt:=e (by kernel_rfl)
theorem IA:bT Tryz.prog Tryz.f105 BC:=e (by kernel_rfl)
theorem F5:bI Tryz.prog 105:=e (by kernel_rfl)
def Lx:=[bm 6 0]
def Ly:=[m 7 0,o 8 (.len (.t 7)),o 9 (.bin .eql (.t 8) (aY 0))]
def Lz:=[bm 6 0]
def LA:=[m 10 0,m 11 1,m 12 0,o 13 (.len (.t 12)),o 14 (.bin .rem (.t 11) (.t 13)),o 15 (.is 1 (.t 10) (.t 14)),l 16 15,m 17 2,o 18 (.bin .rem (.t 16) (.t 17)),m 19 2,o 20 (.bin .add (.t 18) (.t 19)),m 21 2,o 22 (.bin .rem (.t 20) (.t 21)),m 6 22]
def xu:bj:=(s (r Lx) (s (s (r Ly) (.cond (.t 9) (s (r Lz) .ret) .skip)) (s (r LA) .ret)))
def BD:List bt:=[.tmp 6]
theorem Hm:bV Tryz.prog Tryz.f121 xu:=e (by kernel_rfl)
theorem IB:bT Tryz.prog Tryz.f121 BD:=e (by kernel_rfl)
theorem F6:bI Tryz.prog 121:=e (by kernel_rfl)
def LB:=[l 4 1,o 5 (.bin .neq (.t 4) (.c (.ak ⟨#[]⟩)))]
def LC:=[l 6 1,o 7 (.call 123 [.t 6,(.c (.int .u8 10))]),m 3 7]
def LD:=[m 8 3,o 9 (.bin .lss (.t 8) (aY 0)),m 10 9,fp 11 0 10,gi 12 1 10,fp 13 3 10,on 14 (.bin .add (.t 13) (aY 1)) 10,on 15 (.prim (.ss false true) [.t 12,.t 14]) 10,on 16 (.eT (.t 11) [.t 15]) 10,on 17 (.un .not (.t 16)) 10,or 18 10 17]
def LF:=[l 19 1,m 20 3,ad 21 20 1,o 22 (.prim (.ss true false) [.t 19,.t 21]),p (.aV none (.t 1) (.t 22))]
def xv:bj:=(.block 0 (.loop (s (s (r LB) (.cond (.t 5) .skip (.exit 0))) (.block 1 (s (r LC) (s (s (r LD) (.cond (.t 18) .ret .skip)) (r LF)))))))
def BE:List bt:=[]
theorem Hn:bV Tryz.prog Tryz.f122 xv:=e (by kernel_rfl)
theorem IC:bT Tryz.prog Tryz.f122 BE:=e (by kernel_rfl)
theorem yz:bI Tryz.prog 122:=e (by kernel_rfl)
theorem F7:bI Tryz.prog 123:=e (by kernel_rfl)
theorem yA:bI Tryz.prog 124:=e (by kernel_rfl)
theorem F8:bI Tryz.prog 125:=e (by kernel_rfl)
def LG:=[bm 2 0,o 3 (.mv (.c (.ak ⟨#[]⟩)))]
def LH:=[m 10 0,o 11 (.call 154 [.t 10,(.c (.ak ⟨#[32]⟩))]),m 9 11,o 12 (.ext (.t 9) 0),o 13 (.ext (.t 9) 1),o 14 (.ext (.t 9) 2),m 4 12,m 5 13,m 6 14]
def LI:=[m 16 4,o 17 (.call 155 [.t 16]),m 15 17,o 18 (.ext (.t 15) 0),o 19 (.ext (.t 15) 1),m 7 18,m 8 19]
def LJ:=[m 20 6,no 21 20,m 22 21,fp 23 8 22,on 24 (.prim (.mn true) [.t 23]) 22,or 25 22 24]
def rp:=[o 26 (.bld [] []),o 27 (.prim (.lF 176) [.t 26]),p (.prim .j6 [.t 27])]
def LK:=[m 28 7,m 29 5,m 2 28,m 3 29]
def tE:bj:=(s (r LG) (s (r LH) (s (r LI) (s (s (r LJ) (.cond (.t 25) (r rp) .skip)) (s (r LK) .ret)))))
def BF:List bt:=[.tmp 2,.tmp 3]
theorem yH:bV Tryz.prog Tryz.f126 tE:=e (by kernel_rfl)
theorem ID:bT Tryz.prog Tryz.f126 BF:=e (by kernel_rfl)
theorem yB:bI Tryz.prog 126:=e (by kernel_rfl)
theorem F9:bI Tryz.prog 127:=e (by kernel_rfl)
def LL:=[o 6 (.mv bl)]
def LM:=[m 7 1,m 8 0,o 9 (.bin .leq (.t 7) (.t 8)),m 10 9,cY 11 0 10,cY 12 2 10,bR 13 (.bin .leq (.t 11) (.t 12)) 10,and 14 10 13,m 6 14]
def xw:bj:=(s (r LL) (s (r LM) .ret))
def BG:List bt:=[.tmp 6]
theorem Ho:bV Tryz.prog Tryz.f128 xw:=e (by kernel_rfl)
theorem IE:bT Tryz.prog Tryz.f128 BG:=e (by kernel_rfl)
theorem Ga:bI Tryz.prog 128:=e (by kernel_rfl)
def LN:=[b 1 0,o 2 (.mv bl)]
def LO:=[f 3 0 0 1,l 4 3,o 5 (.call 128 [.t 4,(aY 0),(aY 5)]),m 6 5,dP 7 1 1 1 6,gj 8 7 6,bR 9 (.call 128 [.t 8,(aY 0),(aY 9999)]) 6,and 10 6 9,m 2 10]
def xy:bj:=(s (r LN) (s (r LO) .ret))
def BH:List bt:=[.tmp 2]
theorem Hp:bV Tryz.prog Tryz.f129 xy:=e (by kernel_rfl)
theorem IF:bT Tryz.prog Tryz.f129 BH:=e (by kernel_rfl)
theorem Gb:bI Tryz.prog 129:=e (by kernel_rfl)
def LP:=[o 2 (.mv bl)]
def LQ:=[m 5 0,o 6 (.lenT (.t 5)),o 7 (.bin .gtr (.t 6) (aY 160))]
def LR:=[o 2 (.mv bl)]
def LS:=[m 8 0,o 9 (.eC (.t 8)),o 10 (.len (.t 9)),bm 11 0]
def LU:=[lt 12 11 10]
def LV:=[o 13 (.is 1 (.t 9) (.t 11)),l 14 13,m 4 14]
def LW:=[m 15 4,o 16 (.bin .lss (.t 15) (.c (.int .u8 32))),m 17 16,fp 18 4 17,on 19 (.bin .gtr (.t 18) (.c (.int .u8 126))) 17,or 20 17 19,m 21 20,fp 22 4 21,on 23 (.bin .eql (.t 22) (.c (.int .u8 63))) 21,or 24 21 23]
def LX:=[o 2 (.mv bl)]
def LY:=[ad 25 11 1,m 11 25]
def LZ:=[o 2 (.mv T)]
def xz:bj:=(s (r LP) (s (s (r LQ) (.cond (.t 7) (s (r LR) .ret) .skip)) (s (s (r LS) (.block 0 (.loop (s (r LU) (s (.cond (.t 12) .skip (.exit 0)) (s (.block 1 (s (r LV) (s (r LW) (.cond (.t 24) (s (r LX) .ret) .skip)))) (r LY))))))) (s (r LZ) .ret))))
def BI:List bt:=[.tmp 2]
theorem Hq:bV Tryz.prog Tryz.f130 xz:=e (by kernel_rfl)
theorem IG:bT Tryz.prog Tryz.f130 BI:=e (by kernel_rfl)
theorem Gc:bI Tryz.prog 130:=e (by kernel_rfl)
theorem Gd:bI Tryz.prog 131:=e (by kernel_rfl)
theorem Ge:bI Tryz.prog 132:=e (by kernel_rfl)
def L0:=[b 1 0,o 2 (.mv (.c (.ak ⟨#[]⟩)))]
def L1:=[f 4 0 0 1,f 5 0 0 4,l 6 5,o 7 (.call 134 [.t 6]),o 8 (.bin .add (.t 7) (.c (.ak ⟨#[32]⟩))),f 9 0 0 1,f 10 1 1 9,l 11 10,o 12 (.call 134 [.t 11]),o 13 (.bin .add (.t 8) (.t 12)),o 14 (.bin .add (.t 13) (.c (.ak ⟨#[32]⟩))),f 15 1 2 1,l 16 15,o 17 (.call 134 [.t 16]),o 18 (.bin .add (.t 14) (.t 17)),o 19 (.bin .add (.t 18) (.c (.ak ⟨#[32]⟩))),f 20 2 3 1,l 21 20,o 22 (.call 134 [.t 21]),o 23 (.bin .add (.t 19) (.t 22)),o 24 (.bin .add (.t 23) (.c (.ak ⟨#[32]⟩))),f 25 3 4 1,l 26 25,o 27 (.call 134 [.t 26]),o 28 (.bin .add (.t 24) (.t 27)),o 29 (.bin .add (.t 28) (.c (.ak ⟨#[32]⟩))),m 3 29]
def JH:=some [[],[0],[1],[2],[3],[],[5],[6],[7,3],[4,8],[9],[],[11],[12,8],[10,13],[14],[],[16],[17,13],[15,18],[19],[],[21],[22,18],[20,23],[24],[25,23,0,1,2,3,4,5,6,7,8,9,10,11,12,13,14,15,16,17,18,19,20,21,22,23,24,25]]
def L2:=[m 30 3,f 31 4 5 1,f 32 0 0 31,l 33 32,o 34 (.call 134 [.t 33]),o 35 (.bin .add (.t 30) (.t 34)),o 36 (.bin .add (.t 35) (.c (.ak ⟨#[32]⟩))),f 37 4 5 1,f 38 1 1 37,l 39 38,o 40 (.call 134 [.t 39]),o 41 (.bin .add (.t 36) (.t 40)),o 42 (.bin .add (.t 41) (.c (.ak ⟨#[32]⟩))),f 43 5 7 1,l 44 43,o 45 (.bin .add (.t 42) (.t 44)),m 2 45]
def JI:=some [[],[],[1],[2],[3],[0,4],[5],[],[7],[8],[9,4],[6,10],[11],[],[13],[12,14],[15,10,0,1,2,3,4,5,6,7,8,9,10,11,12,13,14,15]]
def xA:bj:=(s (r L0) (s (.bS JH L1) (s (.bS JI L2) .ret)))
def BJ:List bt:=[.tmp 2]
theorem Hr:bV Tryz.prog Tryz.f133 xA:=e (by kernel_rfl)
theorem IH:bT Tryz.prog Tryz.f133 BJ:=e (by kernel_rfl)
theorem Gf:bI Tryz.prog 133:=e (by kernel_rfl)
def L3:=[o 2 (.mv (.c (.ak ⟨#[]⟩)))]
def L4:=[m 4 0,o 5 (.bin .rem (.t 4) (aY 10)),o 6 (.bin .add (aY 48) (.t 5)),o 7 (.conv .u8 (.t 6)),o 8 (.bs 5 1 [.t 7]),o 9 (.b2s (.t 8)),m 3 9]
def L5:=[m 10 0,o 11 (.bin .geq (.t 10) (aY 10))]
def L6:=[m 12 0,o 13 (.bin .quo (.t 12) (aY 10)),m 0 13]
def L7:=[m 14 0,o 15 (.bin .rem (.t 14) (aY 10)),o 16 (.bin .add (aY 48) (.t 15)),o 17 (.conv .u8 (.t 16)),o 18 (.bs 5 1 [.t 17]),o 19 (.b2s (.t 18)),m 20 3,o 21 (.bin .add (.t 19) (.t 20)),m 3 21]
def L8:=[m 22 3,m 2 22]
def xB:bj:=(s (r L3) (s (r L4) (s (.block 0 (.loop (s (s (r L5) (.cond (.t 11) .skip (.exit 0))) (.block 1 (s (r L6) (r L7)))))) (s (r L8) .ret))))
def BK:List bt:=[.tmp 2]
theorem Hs:bV Tryz.prog Tryz.f134 xB:=e (by kernel_rfl)
theorem II:bT Tryz.prog Tryz.f134 BK:=e (by kernel_rfl)
theorem Gg:bI Tryz.prog 134:=e (by kernel_rfl)
theorem Gh:bI Tryz.prog 135:=e (by kernel_rfl)
def L9:=[b 3 1,o 4 (.mv bl)]
def Ma:=[m 5 0,au 6 8 3,o 7 (.call 159 [.t 5,.t 6]),o 8 (.bin .geq (.t 7) (aY 0)),m 4 8]
def xC:bj:=(s (r L9) (s (r Ma) .ret))
def BL:List bt:=[.tmp 4]
theorem Ht:bV Tryz.prog Tryz.f136 xC:=e (by kernel_rfl)
theorem IJ:bT Tryz.prog Tryz.f136 BL:=e (by kernel_rfl)
theorem Gi:bI Tryz.prog 136:=e (by kernel_rfl)
def Mb:=[bm 2 0]
def Mc:=[bm 3 1]
def Md:=[m 6 0,o 7 (.len (.t 6)),bm 8 0]
def Me:=[lt 9 8 7]
def Mf:=[o 10 (.is 8 (.t 6) (.t 8)),au 11 8 10,o 5 (.alloc (.agg [.agg [.int .i64 0,.int .i64 0],.int .i64 0,.int .i64 0,.int .i64 0,.agg [.int .i64 0,.int .i64 0],.ak ⟨#[]⟩])),p (.aV (some 8) (.t 5) (.t 11))]
def Mg:=[m 13 3,au 14 8 5,o 15 (.call 81 [.t 13,.t 14]),m 12 15,o 16 (.ext (.t 12) 0),o 17 (.ext (.t 12) 1),m 3 17]
def Mh:=[ad 18 8 1,m 8 18]
def Mi:=[m 19 3,m 2 19]
def xD:bj:=(s (r Mb) (s (r Mc) (s (s (r Md) (.block 0 (.loop (s (r Me) (s (.cond (.t 9) .skip (.exit 0)) (s (.block 1 (s (r Mf) (r Mg))) (r Mh))))))) (s (r Mi) .ret))))
def BM:List bt:=[.tmp 2]
theorem Hu:bV Tryz.prog Tryz.f137 xD:=e (by kernel_rfl)
theorem IK:bT Tryz.prog Tryz.f137 BM:=e (by kernel_rfl)
theorem Gj:bI Tryz.prog 137:=e (by kernel_rfl)
def Mj:=[b 4 1,bm 6 0,o 7 (.mv bl)]
def Mk:=[m 12 0,o 13 (.len (.t 12)),m 8 13]
def Ml:=[m 14 8,bm 9 0,m 10 14]
def Mm:=[m 15 9,m 16 10,lt 17 15 16]
def Mn:=[m 18 9,m 19 10,o 20 (.bin .add (.t 18) (.t 19)),o 21 (.conv .u64 (.t 20)),o 22 (.bin .shr (.t 21) (.c (.int .u64 1))),o 23 (.conv .i64 (.t 22)),m 11 23]
def Mo:=[m 24 2,m 25 0,m 26 11,o 27 (.is 8 (.t 25) (.t 26)),au 28 8 27,au 29 2 4,o 30 (.eT (.t 24) [.t 28,.t 29]),o 31 (.bin .lss (.t 30) (aY 0))]
def JJ:=some [[],[],[],[1,2],[3],[],[0,4,5],[6]]
def Mp:=[m 32 11,ad 33 32 1,m 9 33]
def Mq:=[m 34 11,m 10 34]
def Mr:=[m 35 9,m 36 9,m 37 8,lt 38 36 37,m 39 38,cY 40 2 39,cY 41 0 39,cY 42 9 39,bR 43 (.is 8 (.t 41) (.t 42)) 39,bR 44 (.ld (some 8) (.t 43)) 39,bR 45 (.ld (some 2) (.t 4)) 39,bR 46 (.eT (.t 40) [.t 44,.t 45]) 39,bR 47 (.bin .eql (.t 46) (aY 0)) 39,and 48 39 47,m 6 35,m 7 48]
def JK:=some [[],[],[],[1,2],[3],[4],[4],[4],[6,7,4],[8,4],[4],[5,9,10,4,4],[11,4],[4,12],[0,11,0],[13,14,0,1,2,3,4,5,6,7,8,9,10,11,12,13,14]]
def xE:bj:=(s (r Mj) (s (r Mk) (s (r Ml) (s (.block 0 (.loop (s (s (r Mm) (.cond (.t 17) .skip (.exit 0))) (.block 1 (s (r Mn) (s (.bS JJ Mo) (.cond (.t 31) (r Mp) (r Mq)))))))) (s (.bS JK Mr) .ret)))))
def BN:List bt:=[.tmp 6,.tmp 7]
theorem Hv:bV Tryz.prog Tryz.f138 xE:=e (by kernel_rfl)
theorem IL:bT Tryz.prog Tryz.f138 BN:=e (by kernel_rfl)
theorem Gk:bI Tryz.prog 138:=e (by kernel_rfl)
def Ms:=[b 2 0,b 3 1,bm 4 0]
def Mt:=[f 5 0 0 2,au 6 2 5,au 7 2 3,o 8 (.call 140 [.t 6,.t 7]),m 4 8]
def xF:bj:=(s (r Ms) (s (r Mt) .ret))
def BO:List bt:=[.tmp 4]
theorem Hw:bV Tryz.prog Tryz.f139 xF:=e (by kernel_rfl)
theorem IM:bT Tryz.prog Tryz.f139 BO:=e (by kernel_rfl)
theorem Gl:bI Tryz.prog 139:=e (by kernel_rfl)
def Mu:=[b 2 0,b 3 1,bm 4 0]
def Mv:=[f 5 0 0 2,l 6 5,f 7 0 0 3,l 8 7,o 9 (.call 161 [.t 6,.t 8]),f 10 1 1 2,l 11 10,f 12 1 1 3,l 13 12,o 14 (.call 161 [.t 11,.t 13]),o 15 (.bs 3 1 [.t 9,.t 14]),o 16 (.call 160 [.t 15]),m 4 16]
def JL:=some [[],[0],[],[2],[1,3],[],[5],[],[7],[6,8,4],[4,9],[10,9],[11,11,0,1,2,3,4,5,6,7,8,9,10,11]]
def xH:bj:=(s (r Mu) (s (.bS JL Mv) .ret))
def BQ:List bt:=[.tmp 4]
theorem Hy:bV Tryz.prog Tryz.f140 xH:=e (by kernel_rfl)
theorem IP:bT Tryz.prog Tryz.f140 BQ:=e (by kernel_rfl)
theorem Gn:bI Tryz.prog 140:=e (by kernel_rfl)
theorem Gq:bI Tryz.prog 152:=e (by kernel_rfl)
def MI:=[o 4 (.mv (.c (.ak ⟨#[]⟩))),o 5 (.mv (.c (.ak ⟨#[]⟩))),o 6 (.mv bl)]
def MJ:=[m 7 0,m 8 1,o 9 (.call 170 [.t 7,.t 8]),o 10 (.ext (.t 9) 0),o 11 (.ext (.t 9) 1),o 12 (.ext (.t 9) 2),m 4 10,m 5 11,m 6 12]
def xJ:bj:=(s (r MI) (s (r MJ) .ret))
def BS:List bt:=[.tmp 4,.tmp 5,.tmp 6]
theorem HA:bV Tryz.prog Tryz.f154 xJ:=e (by kernel_rfl)
theorem IS:bT Tryz.prog Tryz.f154 BS:=e (by kernel_rfl)
theorem Gr:bI Tryz.prog 154:=e (by kernel_rfl)
theorem Gs:bI Tryz.prog 155:=e (by kernel_rfl)
def MK:=[b 3 1,bm 4 0]
def ML:=[m 6 0,o 7 (.len (.t 6)),bm 8 0]
def MN:=[lt 9 8 7]
def MO:=[m 10 8,m 5 10]
def MP:=[au 11 8 3,m 12 0,m 13 5,o 14 (.is 8 (.t 12) (.t 13)),au 15 8 14,o 16 (.eqv (.aV [(.aV [(.i .i64),(.i .i64)]),(.i .i64),(.i .i64),(.i .i64),(.aV [(.i .i64),(.i .i64)]),.s]) false (.t 11) (.t 15))]
def JM:=some [[],[],[],[1,2],[3],[0,4]]
def MQ:=[m 17 5,m 4 17]
def MR:=[ad 18 8 1,m 8 18]
def MS:=[bm 4 (-1)]
def xK:bj:=(s (r MK) (s (s (r ML) (.block 0 (.loop (s (r MN) (s (.cond (.t 9) .skip (.exit 0)) (s (.block 1 (s (r MO) (s (.bS JM MP) (.cond (.t 16) (s (r MQ) .ret) .skip)))) (r MR))))))) (s (r MS) .ret)))
def BT:List bt:=[.tmp 4]
theorem HB:bV Tryz.prog Tryz.f159 xK:=e (by kernel_rfl)
theorem IT:bT Tryz.prog Tryz.f159 BT:=e (by kernel_rfl)
theorem Gt:bI Tryz.prog 159:=e (by kernel_rfl)
def M5:=[bm 2 0]
def M6:=[bm 3 0]
def M7:=[m 6 0,o 7 (.len (.t 6)),bm 8 0]
def M8:=[lt 9 8 7]
def M9:=[o 10 (.is 1 (.t 6) (.t 8)),l 11 10,m 5 11]
def Na:=[m 12 5,m 13 3,o 14 (.bin .neq (.t 12) (.t 13))]
def Nb:=[m 15 5,m 2 15]
def Nc:=[ad 16 8 1,m 8 16]
def Nd:=[m 17 3,m 2 17]
def xM:bj:=(s (r M5) (s (r M6) (s (s (r M7) (.block 0 (.loop (s (r M8) (s (.cond (.t 9) .skip (.exit 0)) (s (.block 1 (s (r M9) (s (r Na) (.cond (.t 14) (s (r Nb) .ret) .skip)))) (r Nc))))))) (s (r Nd) .ret))))
def BV:List bt:=[.tmp 2]
theorem HD:bV Tryz.prog Tryz.f160 xM:=e (by kernel_rfl)
theorem IV:bT Tryz.prog Tryz.f160 BV:=e (by kernel_rfl)
theorem Gv:bI Tryz.prog 160:=e (by kernel_rfl)
def Nf:=[bm 4 0]
def Ng:=[m 7 0,o 8 (.call 175 [.t 7]),m 5 8]
def Nl:=[m 9 1,o 10 (.call 175 [.t 9]),m 6 10]
def Nn:=[m 11 5]
def Np:=[m 12 6]
def Nq:=[bm 4 0]
def Nr:=[bm 4 (-1)]
def Nt:=[m 13 6]
def Nu:=[bm 4 1]
def Nv:=[m 14 0,m 15 1,lt 16 14 15]
def Nh:=[bm 4 (-1)]
def Ni:=[m 17 0,m 18 1,o 19 (.bin .gtr (.t 17) (.t 18))]
def Nj:=[bm 4 1]
def Nk:=[bm 4 0]
def xN:bj:=(s (r Nf) (s (r Ng) (s (r Nl) (s (s (r Nn) (.cond (.t 11) (s (s (r Np) (.cond (.t 12) (s (r Nq) .ret) .skip)) (s (r Nr) .ret)) .skip)) (s (s (r Nt) (.cond (.t 13) (s (r Nu) .ret) .skip)) (s (s (r Nv) (.cond (.t 16) (s (r Nh) .ret) .skip)) (s (s (r Ni) (.cond (.t 19) (s (r Nj) .ret) .skip)) (s (r Nk) .ret))))))))
def BW:List bt:=[.tmp 4]
theorem HE:bV Tryz.prog Tryz.f161 xN:=e (by kernel_rfl)
theorem IW:bT Tryz.prog Tryz.f161 BW:=e (by kernel_rfl)
theorem Gw:bI Tryz.prog 161:=e (by kernel_rfl)
def NM:=[o 4 (.mv (.c (.ak ⟨#[]⟩))),o 5 (.mv (.c (.ak ⟨#[]⟩))),o 6 (.mv bl)]
def NN:=[m 8 0,m 9 1,o 10 (.call 188 [.t 8,.t 9]),m 7 10]
def NO:=[m 11 7,o 12 (.bin .geq (.t 11) (aY 0))]
def NP:=[m 13 0,m 14 7,o 15 (.prim (.ss false true) [.t 13,.t 14]),m 16 0,m 17 7,m 18 1,o 19 (.lenT (.t 18)),o 20 (.bin .add (.t 17) (.t 19)),o 21 (.prim (.ss true false) [.t 16,.t 20]),m 4 15,m 5 21,o 6 (.mv T)]
def JP:=some [[],[],[0,1],[],[],[],[5],[4,6],[3,7],[2,0,1,2],[8,9,0,1,2,3,4,5,6,7,8,9],[10,0,1,2,3,4,5,6,7,8,9,10]]
def NQ:=[m 22 0,m 4 22,o 5 (.mv (.c (.ak ⟨#[]⟩))),o 6 (.mv bl)]
def xP:bj:=(s (r NM) (s (s (r NN) (s (r NO) (.cond (.t 12) (s (.bS JP NP) .ret) .skip))) (s (r NQ) .ret)))
def BY:List bt:=[.tmp 4,.tmp 5,.tmp 6]
theorem HG:bV Tryz.prog Tryz.f170 xP:=e (by kernel_rfl)
theorem IY:bT Tryz.prog Tryz.f170 BY:=e (by kernel_rfl)
theorem yC:bI Tryz.prog 170:=e (by kernel_rfl)
def NR:=[o 2 (.mv bl)]
def NS:=[m 3 0,m 4 0,o 5 (.bin .neq (.t 3) (.t 4)),m 2 5]
def c175:bj:=(s (r NR) (s (r NS) .ret))
def BZ:List bt:=[.tmp 2]
theorem HI:bV Tryz.prog Tryz.f175 c175:=e (by kernel_rfl)
theorem IZ:bT Tryz.prog Tryz.f175 BZ:=e (by kernel_rfl)
theorem Gy:bI Tryz.prog 175:=e (by kernel_rfl)
def N0:=[bm 4 0]
def N4:=[m 14 1,o 15 (.lenT (.t 14)),m 5 15]
def Of:=[m 17 5,o 18 (.bin .eql (.t 17) (aY 0)),m 19 18,fp 20 1 19,fp 21 0 19,on 22 (.bin .eql (.t 20) (.t 21)) 19,or 23 19 22,m 16 23]
def Ou:=[bm 4 0]
def Oy:=[m 25 5,o 26 (.bin .eql (.t 25) (aY 1)),m 24 26]
def Oz:=[m 27 0,m 28 1,o 29 (.prim .dm [.t 28,(aY 0)]),o 30 (.call 152 [.t 27,.t 29]),m 4 30]
def OA:=[m 32 5,m 33 0,o 34 (.lenT (.t 33)),o 35 (.bin .geq (.t 32) (.t 34)),m 31 35]
def OB:=[bm 4 (-1)]
def OC:=[m 45 0,m 46 1,o 47 (.gr 204 [.t 45,.t 46]),m 4 47]
def OD:=[m 48 1,o 49 (.prim .dm [.t 48,(aY 0)]),m 6 49]
def N5:=[m 50 1,o 51 (.prim .dm [.t 50,(aY 1)]),m 7 51]
def N6:=[bm 8 0]
def N7:=[m 52 0,o 53 (.lenT (.t 52)),m 54 5,o 55 (.bin .sub (.t 53) (.t 54)),ad 56 55 1,m 9 56]
def N8:=[bm 10 0]
def N9:=[m 57 8,m 58 9,lt 59 57 58]
def Oa:=[m 60 0,m 61 8,o 62 (.prim .dm [.t 60,.t 61]),m 63 6,o 64 (.bin .neq (.t 62) (.t 63))]
def Ob:=[m 65 0,m 66 8,ad 67 66 1,m 68 9,o 69 (.prim (.ss true true) [.t 65,.t 67,.t 68]),m 70 6,o 71 (.call 152 [.t 69,.t 70]),m 11 71]
def Oc:=[m 72 11,o 73 (.bin .lss (.t 72) (aY 0))]
def Od:=[bm 4 (-1)]
def Oe:=[m 74 8,m 75 11,ad 76 75 1,o 77 (.bin .add (.t 74) (.t 76)),m 8 77]
def Og:=[m 78 0,m 79 8,ad 80 79 1,o 81 (.prim .dm [.t 78,.t 80]),m 82 7,o 83 (.bin .eql (.t 81) (.t 82)),m 84 83,cY 85 0 84,cY 86 8 84,cY 87 8 84,cY 88 5 84,bR 89 (.bin .add (.t 87) (.t 88)) 84,bR 90 (.prim (.ss true true) [.t 85,.t 86,.t 89]) 84,cY 91 1 84,bR 92 (.bin .eql (.t 90) (.t 91)) 84,and 93 84 92]
def Oh:=[m 94 8,m 4 94]
def Oi:=[m 95 8,ad 96 95 1,m 8 96]
def Oj:=[m 97 10,ad 98 97 1,m 10 98]
def Ol:=[m 108 0,m 109 8,o 110 (.prim (.ss true false) [.t 108,.t 109]),m 111 1,o 112 (.gr 204 [.t 110,.t 111]),m 12 112]
def Om:=[m 113 12,o 114 (.bin .geq (.t 113) (aY 0))]
def On:=[m 115 12,m 116 8,o 117 (.bin .add (.t 115) (.t 116)),m 4 117]
def Oo:=[bm 4 (-1)]
def Oq:=[m 133 0,m 134 8,o 135 (.prim (.ss true false) [.t 133,.t 134]),m 136 1,o 137 (.call 206 [.t 135,.t 136]),m 13 137]
def Ot:=[m 138 13,o 139 (.bin .lss (.t 138) (aY 0))]
def Ov:=[bm 4 (-1)]
def Ow:=[m 140 8,m 141 13,o 142 (.bin .add (.t 140) (.t 141)),m 4 142]
def Ox:=[bm 4 (-1)]
def xR:bj:=(s (r N0) (s (r N4) (s (.block 0 (s (r Of) (.cond (.t 16) (s (r Ou) .ret) (s (r Oy) (.cond (.t 24) (s (r Oz) .ret) (s (r OA) (.cond (.t 31) (s (r OB) .ret) (s .oL (.cond (.t 36) (s (r OC) .ret) .skip))))))))) (s (r OD) (s (r N5) (s (r N6) (s (r N7) (s (r N8) (s (.block 1 (.loop (s (s (r N9) (.cond (.t 59) .skip (.exit 1))) (.block 2 (s (s (r Oa) (.cond (.t 64) (s (r Ob) (s (s (r Oc) (.cond (.t 73) (s (r Od) .ret) .skip)) (r Oe))) .skip)) (s (s (r Og) (.cond (.t 93) (s (r Oh) .ret) .skip)) (s (r Oi) (s (r Oj) (s .oL (.cond (.t 107) (s (r Ol) (s (s (r Om) (.cond (.t 114) (s (r On) .ret) .skip)) (s (r Oo) .ret))) (s .oL (.cond (.t 132) (s (r Oq) (s (s (r Ot) (.cond (.t 139) (s (r Ov) .ret) .skip)) (s (r Ow) .ret))) .skip)))))))))))) (s (r Ox) .ret))))))))))
def B3:List bt:=[.tmp 4]
theorem HK:bV Tryz.prog Tryz.f188 xR:=e (by kernel_rfl)
theorem I1:bT Tryz.prog Tryz.f188 B3:=e (by kernel_rfl)
theorem GA:bI Tryz.prog 188:=e (by kernel_rfl)
end Go.Proofs.YtoffnnjbplgnaaaGreatDoor
namespace Go.Abs
open Go Go.RowKit
open Enc (enc)
def aw(x:I)(p q:Prop):Prop:=match x with
 | .bool t=>(t=true→p)∧(t=false→q)
 |_=>False
theorem U.gB{c:cd}{A:ab}{Q:Exit→ab→Prop}{b:av}{x y:bj}(h:aw (ae A b) (U c x Q A) (U c y Q A)):U c (.cond b x y) Q A:=by
 generalize hb:ae A b=v at h;unfold aw at h;split at h
 ·exact U.cond hb h.1 h.2
 ·exact h.elim
def mI(r:I):Option (List I)→Prop
 |some xs=>jE xs=r
 |none=>False
theorem Wv(rs:List bt)(r:I)(A:ab):jH rs r .ret A=mI r (eg A rs):=by
 simp only[jH,mI];cases eg A rs <;>simp
theorem Wu(rs:List bt)(r:I)(A:ab):jH rs r .normal A=mI r (eg A rs):=by
 simp only[jH,mI];cases eg A rs <;>simp
def pZ(s:Option Nat)(A:ab):Option I→Option I
 |some x=>if bU s x=true then ba true A x else none
 |none=>none
def kF:Option I→Option (List I)→Option (List I)
 |some x,some xs=>some (x::xs)
 |_,_=>none
theorem Wm(A:ab):eg A []=some []:=rfl
theorem Wn(A:ab)(t:Nat)(rs:List bt):eg A (.tmp t::rs)=kF (ba true A (A.t t)) (eg A rs):=by
 simp only[eg,sC];cases ba true A (A.t t) <;>cases eg A rs <;>rfl
theorem Wl(A:ab)(a:Nat)(s:Option Nat)(rs:List bt):eg A (.cell a s::rs)=kF (pZ s A (fk A (A.t a))) (eg A rs):=by
 simp only[eg,sC,jr];cases fk A (A.t a) with
 |none=>cases eg A rs <;>rfl
 |some x =>
  by_cases h:bU s x=true
  ·simp only[pZ,if_pos h];cases ba true A x <;>cases eg A rs <;>rfl
  ·simp only[pZ,if_neg h];cases eg A rs <;>rfl
def nA(aA:Bool)(A:ab):Option I→Option I
 |some x=>if x.bu=true then some (.ref x) else (fO A 9 x).map .ref
 |none=>none
theorem uv(A:ab)(n:Nat)(p:List Nat):ba true A (.ptr n p)=nA true A (dE p (A.o n)):=by
 simp only[ba,jr,fk,if_true,nA];cases dE p (A.o n) <;>rfl
open Classical in
noncomputable def kI(sz lo k:Nat):Option (List I)→Option I
 |some fs=>if I.b9 ((fs.drop lo).take k)=true then some (.slice sz ((fs.drop lo).take k)) else none
 |none=>none
theorem uw(A:ab)(n:Nat)(p:List Nat)(sz lo k:Nat):ba true A (.view n p sz lo k)=kI sz lo k (en (dE p (A.o n))):=by
 simp only[ba,jr,fk,if_true];cases dE p (A.o n) with
 |none=>rfl
 |some c=>cases c <;>simp only[en,I.cZ,kI] <;>(split <;>simp_all)
open Classical in
noncomputable def jV(k:Nat):Option ah→Option I
 |some (.bC _ sz es)=>if k=es.length∧I.b9 es=true then some (.slice sz es) else none
 |_=>none
theorem K2(aA:Bool)(A:ab)(n k:Nat):ba aA A (.own n k)=jV k (A.o n):=by
 simp only[ba];cases A.o n with
 |none=>rfl
 |some y=>cases y <;>simp only[jV] <;>(split <;>simp_all)
theorem KW(aA:Bool)(A:ab)(fs:List I):ba aA A (.agg fs)=(bD aA A fs).map .agg:=by simp only[ba]
theorem KY(aA:Bool)(A:ab)(f:FuncId)(fs:List I):ba aA A (.func f fs)=if f<1000000 then (bD aA A fs).map (.func f) else some .any:=by simp only[ba]
theorem KZ(aA:Bool)(A:ab)(k:IntKind)(n:Int):ba aA A (.int k n)=some (.int k n):=by simp only[ba]
theorem KX(aA:Bool)(A:ab)(n:Bool):ba aA A (.bool n)=some (.bool n):=by simp only[ba]
theorem K5(aA:Bool)(A:ab)(n:ByteArray):ba aA A (.ak n)=some (.ak n):=by simp only[ba]
theorem K1(aA:Bool)(A:ab)(n:Nat):ba aA A (.nils n)=some (.slice n []):=by simp only[ba]
theorem K4(aA:Bool)(A:ab)(n:Nat)(es:List I):ba aA A (.slice n es)=if I.b9 es=true then some (.slice n es) else none:=by simp only[ba]
theorem K3(aA:Bool)(A:ab)(x:I):ba aA A (.ref x)=if x.bu=true then some (.ref x) else none:=by simp only[ba]
theorem K7(aA:Bool)(A:ab):bD aA A []=some []:=by simp only[bD]
theorem K6(aA:Bool)(A:ab)(x:I)(xs:List I):bD aA A (x::xs)=kF (ba aA A x) (bD aA A xs):=by
 simp only[bD];cases ba aA A x <;>cases bD aA A xs <;>rfl
theorem Ik(fs:List I):(I.agg fs).bu=I.b9 fs:=by simp only[I.bu]
theorem Iq(n:Nat)(fs:List I):(I.slice n fs).bu=I.b9 fs:=by simp only[I.bu]
theorem Ip(x:I):(I.ref x).bu=x.bu:=by simp only[I.bu]
theorem Io(k:IntKind)(n:Int):(I.int k n).bu=true:=by simp only[I.bu]
theorem Il(n:Bool):(I.bool n).bu=true:=by simp only[I.bu]
theorem Ir(n:ByteArray):(I.ak n).bu=true:=by simp only[I.bu]
theorem Im(f:FuncId)(fs:List I):(I.func f fs).bu=I.b9 fs:=by simp only[I.bu]
theorem It:I.b9 []=true:=by simp only[I.b9]
theorem Is(x:I)(xs:List I):I.b9 (x::xs)=(x.bu&&I.b9 xs):=by simp only[I.b9]
theorem FC(k:IntKind)(a b:Int):bE .add (.int k a) (.int k b)=some (.int k (k.wrap (a+b))):=by simp[bE]
theorem FT(k:IntKind)(a b:Int):bE .sub (.int k a) (.int k b)=some (.int k (k.wrap (a-b))):=by simp[bE]
theorem FK(k:IntKind)(a b:Int):bE .mul (.int k a) (.int k b)=some (.int k (k.wrap (a*b))):=by simp[bE]
theorem FO(k:IntKind)(a b:Int):bE .quo (.int k a) (.int k b)=if b=0 then none else some (.int k (k.wrap (a.tdiv b))):=by simp[bE]
theorem FP(k:IntKind)(a b:Int):bE .rem (.int k a) (.int k b)=if b=0 then none else some (.int k (a.tmod b)):=by simp[bE]
theorem FD(k:IntKind)(a b:Int):bE .and (.int k a) (.int k b)=some (.int k (k.wrap ((BitVec.ofInt k.bits a &&& BitVec.ofInt k.bits b).toNat:Int))):=by simp[bE]
theorem FN(k:IntKind)(a b:Int):bE .or (.int k a) (.int k b)=some (.int k (k.wrap ((BitVec.ofInt k.bits a ||| BitVec.ofInt k.bits b).toNat:Int))):=by simp[bE]
theorem FU(k:IntKind)(a b:Int):bE .xor (.int k a) (.int k b)=some (.int k (k.wrap ((BitVec.ofInt k.bits a ^^^ BitVec.ofInt k.bits b).toNat:Int))):=by simp[bE]
theorem FE(k:IntKind)(a b:Int):bE .andNot (.int k a) (.int k b)=some (.int k (k.wrap ((BitVec.ofInt k.bits a &&& ~~~ BitVec.ofInt k.bits b).toNat:Int))):=by simp[bE]
theorem FQ(k k':IntKind)(a b:Int):bE .shl (.int k a) (.int k' b)=if 0≤b then some (.int k (k.wrap (a*2^(min b.toNat k.bits)))) else none:=by simp[bE]
theorem FR(k k':IntKind)(a b:Int):bE .shr (.int k a) (.int k' b)=if 0≤b then some (.int k (a.fdiv (2^(min b.toNat k.bits)))) else none:=by simp[bE]
theorem FF(k:IntKind)(a b:Int):bE .eql (.int k a) (.int k b)=some (.bool (a==b)):=by simp[bE]
theorem FL(k:IntKind)(a b:Int):bE .neq (.int k a) (.int k b)=some (.bool (a != b)):=by simp[bE]
theorem FJ(k:IntKind)(a b:Int):bE .lss (.int k a) (.int k b)=some (.bool (decide (a<b))):=by simp[bE]
theorem FI(k:IntKind)(a b:Int):bE .leq (.int k a) (.int k b)=some (.bool (decide (a≤b))):=by simp[bE]
theorem FH(k:IntKind)(a b:Int):bE .gtr (.int k a) (.int k b)=some (.bool (decide (b<a))):=by simp[bE]
theorem FG(k:IntKind)(a b:Int):bE .geq (.int k a) (.int k b)=some (.bool (decide (b≤a))):=by simp[bE]
theorem w0 :
  (∀ ts os d v,(ay ts os).put d v=ay ((d,v)::ts) os)∧(∀ ts os d v,(ay ts os).aM (some d) v=ay ((d,v)::ts) os)∧(∀ (A:ab) v,A.aM none v=A) ∧
  (∀ ts os d x,(ay ts os).aP d x=ay ts ((d,x)::os))∧(∀ ts os k,(ay ts os).t k=b8 ts k)∧(∀ ts os k,(ay ts os).o k=aJ os k) ∧
  (∀ j v r k,b8 ((j,v)::r) k=if k=j then v else b8 r k)∧(∀ j v r k,aJ ((j,v)::r) k=if k=j then some v else aJ r k)∧(∀ k,aJ [] k=none) ∧
  (∀ A k,ae A (.t k)=A.t k)∧(∀ A x,ae A (.c x)=x)∧(∀ d rest A v,cB d rest A v=ao rest (A.aM d v))∧(∀ v k,b7 (some v) k=k v)∧(∀ A,ao [] A=.done A) :=
 ⟨u5,AO,Uu,rU,Uv,Ut,cg,dR,Uk,KJ,KI,TP,FV,Fb⟩
theorem Bk :
  (∀ d rest A op,ao (⟨d,op,none⟩::rest) A=bn A d op rest)∧(∀ d rest A op t b,ao (⟨d,op,some (t,b)⟩::rest) A=fP (A.t t) b d op rest A) ∧
  (∀ d rest A op,fP (.bool true) true d op rest A=bn A d op rest)∧(∀ d rest A op,fP (.bool false) false d op rest A=bn A d op rest) ∧
  (∀ d rest A op,fP (.bool true) false d op rest A=ao rest (A.aM d .undef))∧(∀ d rest A op,fP (.bool false) true d op rest A=ao rest (A.aM d .undef))∧(∀ d rest A op b,fP .undef b d op rest A=ao rest (A.aM d .undef)) ∧
  (∀ d rest A x,bn A d (.mv x) rest=ao rest (A.aM d (ae A x)))∧(∀ d rest A c a b,bn A d (.pick c a b) rest=pO A d a b rest (ae A c)) ∧
  (∀ A d a b rest,pO A d a b rest (.bool true)=ao rest (A.aM d (ae A a)))∧(∀ A d a b rest,pO A d a b rest (.bool false)=ao rest (A.aM d (ae A b))) ∧
  (∀ d rest A op x y,bn A d (.bin op x y) rest=b7 (bE op (ae A x) (ae A y)) (cB d rest A)) ∧
  (∀ d rest A ty neg x y,bn A d (.eqv ty neg x y) rest=b7 ((bP ty (ae A x) (ae A y)).map fun b=>.bool (if neg then !b else b)) (cB d rest A)) ∧
  (∀ d rest A op x,bn A d (.un op x) rest=b7 (qk op (ae A x)) (cB d rest A))∧(∀ b,qk .not (.bool b)=some (.bool !b))∧(∀ k n,qk .neg (.int k n)=some (.int k (k.wrap (0-n))))∧(∀ k n,qk .xor (.int k n)=some (.int k (nq k n))) ∧
  (∀ d rest A k x,bn A d (.conv k x) rest=b7 (tN k (ae A x)) (cB d rest A))∧(∀ k k' n,tN k (.int k' n)=some (.int k (k.wrap n))) ∧
  (∀ d rest A s x,bn A d (.ld s x) rest=b7 (fu s (fk A (ae A x))) (cB d rest A))∧(∀ d rest A f off x,bn A d (.fa f off x) rest=b7 (lz A f off (ae A x)) (cB d rest A)) ∧
  (∀ d rest A f off s x,bn A d (.fl f off s x) rest=b7 (re f off s (ae A x).cZ) (cB d rest A))∧(∀ d rest A n esz x i,bn A d (.ia n esz x i) rest=b7 (pg A n esz (ae A x) (ae A i)) (cB d rest A)) ∧
  (∀ d rest A esz x i,bn A d (.is esz x i) rest=b7 (po A esz (ae A x) (ae A i)) (cB d rest A))∧(∀ d rest A n esz s x i,bn A d (.ix n esz s x i) rest=b7 (pw n esz s (ae A x) (ae A i)) (cB d rest A)) ∧
  (∀ d rest A x,bn A d (.len x) rest=b7 (jy A (ae A x)) (cB d rest A))∧(∀ d rest A n esz x,bn A d (.va n esz x) rest=b7 (mY A n esz (ae A x)) (cB d rest A)) ∧
  (∀ d rest A zs ps,bn A d (.bld zs ps) rest=b7 ((fy zs (ps.map fun p=>(p.1,ae A p.2))).map .agg) (cB d rest A))∧(∀ d rest A x i,bn A d (.ext x i) rest=b7 (uh i (ae A x)) (cB d rest A))∧(∀ i fs,uh i (.tuple fs)=fs[i]?) ∧
  (∀ d rest A f caps,bn A d (.mk f caps) rest=b7 (if ((caps.map (ae A)).all fun y=>y.cw)=true then some (.func f (caps.map (ae A))) else none) (cB d rest A)) ∧
  (∀ rest A d z,bn A (some d) (.alloc z) rest=tn A d z rest (A.o d))∧(∀ A d z rest,tn A d z rest none=ao rest ((A.aP d (.box z)).put d (.ptr d []))) ∧
  (∀ rest A d x,bn A (some d) (.box x) rest=qI A d (ae A x) rest (A.o d))∧(∀ A d z rest,qI A d z rest none=qJ A d z rest z.cw)∧(∀ A d z rest,qJ A d z rest true=ao rest ((A.aP d (.box z)).put d (.ptr d []))) ∧
  (∀ rest A s x v,bn A none (.aV s x v) rest=sN A s (ae A v) rest (ae A x))∧(∀ A s v rest n p,sN A s v rest (.ptr n p)=sO A s n p v rest (A.o n))∧(∀ A s n p v rest b,sO A s n p v rest (some (.box b))=er A s n p b v rest (b.at p)) ∧
  (∀ d rest A f args,bn A d (.call f args) rest=.call f (args.map (ae A)) (bD true A (args.map (ae A))) (bD false A (args.map (ae A))) d rest A) ∧
  (∀ d rest A x args,bn A d (.eT x args) rest=oQ A d (args.map (ae A)) rest (ae A x))∧(∀ A d args rest f caps,oQ A d args rest (.func f caps)=if f<1000000 then .call f (args++caps) (bD true A (args++caps)) (bD false A (args++caps)) d rest A else .call (jU f) (caps++args) (bD true A (caps++args)) (bD false A (caps++args)) d rest A) :=
 ⟨EV,EW,SJ,SG,SI,SH,SK,Vb,Vf,fun _ _ _ _ _=>rfl,fun _ _ _ _ _=>rfl,UI,US,Vk,fun _=>rfl,fun _ _=>rfl,fun _ _=>rfl,UQ,fun _ _ _=>rfl,U0,UU,UW,UX,UY,UZ,U4,Vl,UJ,UT,fun _ _=>rfl,U7,
  UF,fun _ _ _ _=>rfl,UK,fun _ _ _ _=>rfl,fun _ _ _ _=>rfl,Vj,fun _ _ _ _ _ _=>rfl,fun _ _ _ _ _ _ _=>rfl,UM,UN,fun A d args rest f caps=>by
   simp only[oQ];split
   ·rename_i h;rw[um h,uk h]
   ·rename_i h;simp only[gy,if_neg h]⟩
theorem fj{A:ab}{s:Option Nat}{n:Nat}{p:List Nat}{b v old:I}{rest:List ar}(h1:v.cw=true)(h2:bU s v=true)(h3:v.aK=old.aK):er A s n p b v rest (some old)=ao rest (A.aP n (.box (b.dp p v))):=by
 simp only[er];rw[if_pos ⟨h1,h2,h3⟩]
theorem DN :
  (∀ A x,fk A (.ref x)=some x)∧(∀ A n p,fk A (.ptr n p)=dE p (A.o n))∧(∀ p c,dE p (some (.box c))=c.at p)∧(∀ c:I,c.at []=some c)∧(∀ (c:I) i p,c.at (i::p)=kr i p c.cZ) ∧
  (∀ i p fs,kr i p (some fs)=ni p fs[i]?)∧(∀ p f,ni p (some f)=f.at p)∧(∀ c v:I,c.dp [] v=v)∧(∀ (c:I) i p v,c.dp (i::p) v=mO c i p v c.cZ)∧(∀ c i p v fs,mO c i p v (some fs)=oo fs i p v fs[i]?) ∧
  (∀ fs i p v f,oo fs i p v (some f)=.agg (fs.set i (f.dp p v)))∧(∀ fs,(I.agg fs).cZ=some fs)∧(∀ x:I,en (some x)=x.cZ) ∧
  (∀ s x,fu s (some x)=if bU s x=true then some x else none) ∧
  (∀ A f off c,lz A f off (.ref c)=qX f off c.cZ)∧(∀ A f off n p,lz A f off (.ptr n p)=o7 n p f off (en (dE p (A.o n))))∧(∀ f off fs,qX f off (some fs)=oZ fs f off fs[f]?)∧(∀ fs f off v,oZ fs f off (some v)=fE fs f off (.ref v)) ∧
  (∀ n p f off fs,o7 n p f off (some fs)=fE fs f off (.ptr n (p++[f])))∧(∀ A n esz x kk k,pg A n esz x (.int kk k)=mb A n esz k x)∧(∀ A n esz k c,mb A n esz k (.ref c)=ic k n (nI n esz k c.cZ)) ∧
  (∀ A n esz k m p,mb A n esz k (.ptr m p)=ic k n (ph n esz m p k (en (dE p (A.o m)))))∧(∀ n esz k fs,nI n esz k (some fs)=iG n esz fs ((fs[k.toNat]?).map .ref))∧(∀ n esz m p k fs,ph n esz m p k (some fs)=iG n esz fs (some (.ptr m (p++[k.toNat])))) ∧
  (∀ A esz x kk k,po A esz x (.int kk k)=iX A esz k x)∧(∀ n esz s x kk k,pw n esz s x (.int kk k)=mg n esz s k x.cZ)∧(∀ n esz s k fs,mg n esz s k (some fs)=ic k n (iG n esz fs (fu s fs[k.toNat]?))) ∧
  (∀ A n esz m p,mY A n esz (.ptr m p)=qm n esz m p (en (dE p (A.o m))))∧(∀ n esz m p fs,qm n esz m p (some fs)=ql n esz fs (.view m p esz 0 n)) ∧
  (∀ A sz es,jy A (.slice sz es)=some (.int .i64 es.length))∧(∀ A n,jy A (.nils n)=some (.int .i64 0))∧(∀ A n,jy A (.c0 n)=some (.int .i64 0)) :=
 ⟨fun _ _=>rfl,fun _ _ _=>rfl,fun _ _=>rfl,qG,Fv,fun _ _ _=>rfl,fun _ _=>rfl,fi,sI,fun _ _ _ _ _=>rfl,fun _ _ _ _ _=>rfl,fun _=>rfl,fun _=>rfl,fun _ _=>rfl,fun _ _ _ _=>rfl,fun _ _ _ _ _=>rfl,fun _ _ _=>rfl,fun _ _ _ _=>rfl,
  fun _ _ _ _ _=>rfl,fun _ _ _ _ _ _=>rfl,fun _ _ _ _ _=>rfl,fun _ _ _ _ _ _=>rfl,fun _ _ _ _=>rfl,fun _ _ _ _ _ _=>rfl,fun _ _ _ _ _=>rfl,fun _ _ _ _ _ _=>rfl,fun _ _ _ _ _=>rfl,fun _ _ _ _ _=>rfl,fun _ _ _ _ _=>rfl,fun _ _ _=>rfl,fun _ _=>rfl,fun _ _=>rfl⟩
theorem zq :
  (∀ A n p,ba true A (.ptr n p)=nA true A (dE p (A.o n)))∧(∀ A x,nA true A (some x)=if x.bu=true then some (.ref x) else (fO A 9 x).map .ref)∧(∀ A n p sz lo k,ba true A (.view n p sz lo k)=kI sz lo k (en (dE p (A.o n)))) ∧
  (∀ A n p,ba false A (.ptr n p)=none)∧(∀ A n p sz lo k,ba false A (.view n p sz lo k)=none)∧(∀ x,kF none x=none)∧(∀ x,kF x none=none) ∧
  (∀ aA A n k,ba aA A (.own n k)=jV k (A.o n))∧(∀ aA A fs,ba aA A (.agg fs)=(bD aA A fs).map .agg)∧(∀ aA A f fs,ba aA A (.func f fs)=if f<1000000 then (bD aA A fs).map (.func f) else some .any)∧(∀ aA A k n,ba aA A (.int k n)=some (.int k n))∧(∀ aA A b,ba aA A (.bool b)=some (.bool b)) ∧
  (∀ aA A s,ba aA A (.ak s)=some (.ak s))∧(∀ aA A n,ba aA A (.nils n)=some (.slice n []))∧(∀ aA A n es,ba aA A (.slice n es)=if I.b9 es=true then some (.slice n es) else none)∧(∀ aA A x,ba aA A (.ref x)=if x.bu=true then some (.ref x) else none) ∧
  (∀ aA A,bD aA A []=some [])∧(∀ aA A x xs,bD aA A (x::xs)=kF (ba aA A x) (bD aA A xs))∧(∀ x xs,kF (some x) (some xs)=some (x::xs)) ∧
  (∀ fs,(I.agg fs).bu=I.b9 fs)∧(∀ n fs,(I.slice n fs).bu=I.b9 fs)∧(∀ x,(I.ref x).bu=x.bu)∧(∀ k n,(I.int k n).bu=true)∧(∀ n,(I.bool n).bu=true)∧(∀ n,(I.ak n).bu=true)∧(∀ f fs,(I.func f fs).bu=I.b9 fs) ∧
  I.b9 []=true∧(∀ x xs,I.b9 (x::xs)=(x.bu&&I.b9 xs)) ∧
  (∀ rs r A,jH rs r .ret A=mI r (eg A rs))∧(∀ rs r A,jH rs r .normal A=mI r (eg A rs))∧(∀ r xs,mI r (some xs)=(jE xs=r))∧(∀ A,eg A []=some [])∧(∀ A t rs,eg A (.tmp t::rs)=kF (ba true A (A.t t)) (eg A rs)) ∧
  (∀ A a s rs,eg A (.cell a s::rs)=kF (pZ s A (fk A (A.t a))) (eg A rs))∧(∀ s A x,pZ s A (some x)=if bU s x=true then ba true A x else none)∧(∀ x,jE [x]=x)∧(∀ x y xs,jE (x::y::xs)=.tuple (x::y::xs)) :=
 ⟨uv,fun _ _=>rfl,uw,fun _ _ _=>rfl,fun _ _ _ _ _ _=>rfl,fun _=>rfl,fun x=>by cases x <;>rfl,K2,KW,KY,KZ,KX,K5,K1,K4,K3,K7,K6,fun _ _=>rfl,Ik,Iq,Ip,Io,Il,Ir,Im,It,Is,
  Wv,Wu,fun _ _=>rfl,Wm,Wn,Wl,fun _ _ _=>rfl,fun _=>rfl,fun _ _ _=>rfl⟩
theorem xi :
  (∀ k a b,bE .add (.int k a) (.int k b)=some (.int k (k.wrap (a+b))))∧(∀ k a b,bE .sub (.int k a) (.int k b)=some (.int k (k.wrap (a-b))))∧(∀ k a b,bE .mul (.int k a) (.int k b)=some (.int k (k.wrap (a*b)))) ∧
  (∀ k a b,bE .quo (.int k a) (.int k b)=if b=0 then none else some (.int k (k.wrap (a.tdiv b))))∧(∀ k a b,bE .rem (.int k a) (.int k b)=if b=0 then none else some (.int k (a.tmod b))) ∧
  (∀ k a b,bE .and (.int k a) (.int k b)=some (.int k (k.wrap ((BitVec.ofInt k.bits a &&& BitVec.ofInt k.bits b).toNat:Int))))∧(∀ k a b,bE .or (.int k a) (.int k b)=some (.int k (k.wrap ((BitVec.ofInt k.bits a ||| BitVec.ofInt k.bits b).toNat:Int)))) ∧
  (∀ k a b,bE .xor (.int k a) (.int k b)=some (.int k (k.wrap ((BitVec.ofInt k.bits a ^^^ BitVec.ofInt k.bits b).toNat:Int))))∧(∀ k a b,bE .andNot (.int k a) (.int k b)=some (.int k (k.wrap ((BitVec.ofInt k.bits a &&& ~~~ BitVec.ofInt k.bits b).toNat:Int)))) ∧
  (∀ k k' a b,bE .shl (.int k a) (.int k' b)=if 0≤b then some (.int k (k.wrap (a*2^(min b.toNat k.bits)))) else none)∧(∀ k k' a b,bE .shr (.int k a) (.int k' b)=if 0≤b then some (.int k (a.fdiv (2^(min b.toNat k.bits)))) else none) ∧
  (∀ k a b,bE .eql (.int k a) (.int k b)=some (.bool (a==b)))∧(∀ k a b,bE .neq (.int k a) (.int k b)=some (.bool (a != b)))∧(∀ k a b,bE .lss (.int k a) (.int k b)=some (.bool (decide (a<b))))∧(∀ k a b,bE .leq (.int k a) (.int k b)=some (.bool (decide (a≤b)))) ∧
  (∀ k a b,bE .gtr (.int k a) (.int k b)=some (.bool (decide (b<a))))∧(∀ k a b,bE .geq (.int k a) (.int k b)=some (.bool (decide (b≤a)))) :=
 ⟨FC,FT,FK,FO,FP,FD,FN,FU,FE,FQ,FR,FF,FL,FJ,FI,FH,FG⟩
end Go.Abs
namespace Go.Abs
open Go Go.RowKit
open Enc (enc)
section
variable {α:Type} [Enc α]
theorem Ub(A:ab)(l:List α):jy A (enc l)=some (.int .i64 l.length):=by simp[iU,jy]
theorem TB{A:ab}(esz:Nat){k:Int}{l:List α}(h:0≤k∧k.toNat<l.length)(hs:Enc.sz α=esz):iX A esz k (enc l)=some (.ref (enc l[k.toNat])):=by
 simp only[iU,iX,hs,Z2,true_and];rw[if_pos ⟨h.1,by omega⟩];simp[h.2]
theorem fR{A:ab}(esz:Nat){k:Nat}{l:List α}(h:k<l.length)(hs:Enc.sz α=esz):iX A esz k (enc l)=some (.ref (enc l[k])):=by
 have:=TB (A:=A) esz (k:=(k:Int)) (l:=l) ⟨by omega,by simpa using h⟩ hs;simpa using this
theorem dS.lt{α:Type}{n:Nat}(x:dS n α){k:Nat}(h:k<n):k<x.l.length:=by rw[x.h];exact h
theorem Xv{n:Nat}(esz:Nat){k:Int}{x:dS n α}(h:0≤k∧k.toNat<n)(hs:Enc.sz α=esz):ic k n (nI n esz k (some (x.l.map enc)))=some (.ref (enc (x.l[k.toNat]'(x.lt h.2)))):=by
 have hl:=x.lt h.2;simp only[ic,nI,iG,uf n esz x.l x.h hs,if_true];rw[if_pos ⟨h.1,by omega⟩];simp[hl]
theorem nJ{n:Nat}(esz:Nat){k:Int}(x:dS n α){y:Option I}(h:0≤k∧k<n)(hs:Enc.sz α=esz):ic k n (iG n esz (x.l.map enc) y)=y:=by
 simp only[ic,iG,uf n esz x.l x.h hs,if_true];rw[if_pos h]
theorem SM{n k:Nat}(x:dS n α)(h:k<n):(x.l.map enc)[k]?=some (enc (x.l[k]'(x.lt h))):=by
 simp[x.lt h]
theorem TL{n:Nat}(esz:Nat){s:Option Nat}{k:Int}{x:dS n α}(h:0≤k∧k.toNat<n)(hs:Enc.sz α=esz):mg n esz s k (some (x.l.map enc))=fu s (some (enc (x.l[k.toNat]'(x.lt h.2)))):=by
 have hl:=x.lt h.2;simp only[mg,ic,iG,uf n esz x.l x.h hs,if_true];rw[if_pos ⟨h.1,by omega⟩];simp[hl]
theorem Fu{n k:Nat}{p:List Nat}{x:dS n α}(h:k<n):kr k p (some (x.l.map enc))=(enc (x.l[k]'(x.lt h))).at p:=by
 have hl:=x.lt h;simp[kr,ni,hl]
theorem Vv(k:IntKind)(n:Int):fu none (some (.int k n))=some (.int k n):=by simp[fu,lI,bU,I.isAgg]
theorem Vt(b:Bool):fu none (some (.bool b))=some (.bool b):=by simp[fu,lI,bU,I.isAgg]
theorem Vw(z:Nat)(es:List I):fu none (some (.slice z es))=some (.slice z es):=by simp[fu,lI,bU,I.isAgg]
theorem Vu(f:FuncId)(es:List I):fu none (some (.func f es))=some (.func f es):=by simp[fu,lI,bU,I.isAgg]
end
mutual
/-- What every value in memory keeps to: whole numbers within their kind,slices no longer than a slice can be. -/
def I.wf:I→Prop
 | .agg fs=>I.gq fs
 | .int k n=>k.min≤n∧n≤k.max
 | .ak s=>s.size≤maxLen
 | .slice _ es=>es.length≤maxLen∧I.gq es
 | .ref c=>c.wf
 | .func _ caps=>I.gq caps
 | .iface _ v=>v.wf
 |_=>True
def I.gq:List I→Prop
 | []=>True
 |x::xs=>x.wf∧I.gq xs
end
mutual
theorem su{w:World}{D:aI}{E:aN} : ∀ (x:I) (cs:List Value),af w D E x cs→x.wf
 | .agg fs,cs,h=>by simp only[af,I.wf] at *;exact vA fs cs h
 | .int k n,cs,h=>by simp only[af,I.wf] at *;exact h.2
 | .ak s,cs,h=>by simp only[af,I.wf] at *;exact h.2
 | .slice sz es,cs,h=>by
  simp only[af,I.wf] at *;obtain ⟨a,cap,_,h1,h2,h3,_⟩:=h;refine ⟨by omega,?_⟩;rcases h3 with rfl | ⟨b,off,cs',_,_,h4⟩
  ·simp[I.gq]
  ·exact vA es cs' h4
 | .ref c,cs,h=>by simp only[af,I.wf] at *;obtain ⟨b,off,cs',_,_,h⟩:=h;exact su c cs' h
 | .func f caps,cs,h=>by simp only[af,I.wf] at *;obtain ⟨vs,_,h⟩:=h;exact og caps vs h
 | .iface t v,cs,h=>by simp only[af,I.wf] at *;obtain ⟨u,cs',_,_,h⟩:=h;exact su v cs' h
 | .bool _,_,_ | .nilp,_,_ | .c7,_,_ | .cM,_,_ | .any,_,_ | .raw _,_,_ | .nils _,_,_ | .c0 _,_,_ | .ptr _ _,_,_ | .own _ _,_,_ | .view _ _ _ _ _,_,_ | .mref _,_,_ | .cQ _,_,_ | .cV _ _,_,_ | .undef,_,_ | .cT,_,_ | .tuple _,_,_=>by simp[I.wf]
theorem vA{w:World}{D:aI}{E:aN} : ∀ (xs:List I) (cs:List Value),aC w D E xs cs→I.gq xs
 | [],_,_=>by simp[I.gq]
 |x::xs,cs,h=>by
  simp only[aC,I.gq] at *;obtain ⟨c1,c2,_,h1,h2⟩:=h;exact ⟨su x c1 h1,vA xs c2 h2⟩
theorem og{w:World}{D:aI}{E:aN} : ∀ (xs:List I) (vs:List Value),al w D E xs vs→I.gq xs
 | [],_,_=>by simp[I.gq]
 |x::xs,vs,h=>by
  simp only[al,I.gq] at *;obtain ⟨v,rest,cs,_,_,h1,h2⟩:=h;exact ⟨su x cs h1,og xs rest h2⟩
end
theorem aQ.wf{P:Program}{f:FuncId}{args:List I}{r:I}(hc:dM P f=true)(h:I.gq args→aQ P f args r):aQ P f args r :=
 ⟨hc,fun w D vs hl h1 h2=>(h (og _ _ h2)).2 w D vs hl h1 h2⟩
theorem aQ.bM{P:Program}{f:FuncId}{fn:Func}{x:bj}{rs:List bt}{args:List I}{r:I}(hf:P.funcs[f]?=some fn)(hcall:dM P f=true)(hc:(fn.body.bind (dL P fn.ntmps))=some x)
  (hrs:fK P fn.results.toList=some rs) (hn:args.length≤fn.ntmps) (h:I.gq args→∀ (w:World) (D:aI) (E:aN),U ⟨P,w,D,fn.ntmps,bO E,E,fq,none,none⟩ x (jH rs r) (ay (bB 0 args) [])):aQ P f args r :=
 aQ.wf hcall fun hw=>aQ.mk hf hcall hc hrs hn (h hw)
theorem iJ{α:Type}[Enc α] :
  (∀ A (l:List α),jy A (enc l)=some (.int .i64 l.length))∧(∀ n (x:dS n α),(enc x).cZ=some (x.l.map enc)) :=
 ⟨Ub,fun _ _=>rfl⟩
theorem jC:(∀ k n,fu none (some (.int k n))=some (.int k n))∧(∀ b,fu none (some (.bool b))=some (.bool b))∧(∀ z es,fu none (some (.slice z es))=some (.slice z es))∧(∀ f es,fu none (some (.func f es))=some (.func f es)) :=
 ⟨Vv,Vt,Vw,Vu⟩
end Go.Abs
namespace Go.Abs
open Go Go.RowKit
open Enc (enc)
def nS(neg:Bool):I→Option I
 | .nils _=>some (.bool (!neg))
 | .slice _ es=>if es.isEmpty then none else some (.bool neg)
 | .view _ _ _ _ _=>some (.bool neg)
 |_=>none
def lD:I→Option I
 | .ak s=>some (.int .i64 s.size)
 |_=>none
open Classical in
noncomputable def lg(n:Nat)(p:List Nat)(sz l0 k esz:Nat)(lo hi mx:Option I):Option (List I)→Option I
 |some fs=>if sz=esz then iv n p sz l0 k fs.length lo hi mx else none
 |none=>none
noncomputable def ji(A:ab)(esz:Nat)(lo hi mx:Option I):I→Option I
 | .slice sz es=>if sz=esz then iu sz es lo hi mx else none
 | .nils sz=>if sz=esz then iu sz [] lo hi mx else none
 | .c0 sz=>if sz=esz then iu sz [] lo hi mx else none
 | .view n p sz l0 k=>lg n p sz l0 k esz lo hi mx (en (dE p (A.o n)))
 |_=>none
open Classical in
noncomputable def gw(esz:Nat):Option (List I)→Option I
 |some es=>if (es.all fun e=>e.size==esz)=true∧I.b9 es=true then some (.slice esz es) else none
 |none=>none
open Classical in
noncomputable def oI(A:ab)(d:Option Nat)(e esz bytes n l T sz':Nat)(es:List I)(rest:List ar):I→bW
 | .slice sz ys=>if vi e esz bytes l sz ys T sz' es then ao rest ((A.aP n (.bC e esz (es++ys))).aM d (.own n (es.length+ys.length))) else .fail
 |_=>.fail
open Classical in
noncomputable def tp(A:ab)(d:Option Nat)(e esz bytes:Nat)(z:I)(n l T:Nat)(xs:List Int)(rest:List ar):I→bW
 | .slice _ ys=>if vj e esz bytes l ys T xs z then ao rest ((A.aP n (.dJ e (xs++pk ys))).aM d (.own n (xs.length+ys.length))) else .fail
 |_=>.fail
noncomputable def oH(A:ab)(d:Option Nat)(e esz bytes:Nat)(z:I)(n l:Nat)(x:I)(rest:List ar):Option ah→bW
 |some (.bC T sz' es)=>oI A d e esz bytes n l T sz' es rest x
 |some (.dJ T xs)=>tp A d e esz bytes z n l T xs rest x
 |_=>.fail
noncomputable def eL(A:ab)(d:Option Nat)(e esz bytes:Nat)(z x:I)(rest:List ar):I→bW
 | .own n l=>oH A d e esz bytes z n l x rest (A.o n)
 |s=>dY A d esz bytes z s (cO A esz s) (cO A esz x) (ao rest)
section
variable (d:Option Nat) (rest:List ar) (A:ab)
noncomputable def nT(neg:Bool)(x:I):Bool→bW
 |true=>.any (fun m=>m<2) (fun m=>ao rest (A.aM d (.bool (m==0))))
 |false=>b7 (nS neg x) (cB d rest A)
theorem Vd(neg:Bool)(x:av):bn A d (.nilS neg x) rest=nT d rest A neg (ae A x) (iI (ae A x)):=by
 simp only[bn,aU,aT];cases iI (ae A x)
 ·simp only[Z5,if_false,nT,nS];cases ae A x <;>rfl
 ·rfl
theorem U5(x:av):bn A d (.lenT x) rest=b7 (lD (ae A x)) (cB d rest A):=by
 simp only[bn,aU,aT];cases ae A x <;>rfl
theorem Vi(esz:Nat)(x:av)(lo hi mx:Option av):bn A d (.sl esz x lo hi mx) rest=b7 (ji A esz (lo.map (ae A)) (hi.map (ae A)) (mx.map (ae A)) (ae A x)) (cB d rest A):=by
 simp only[bn,aU,aT];cases ae A x <;>try rfl
 rename_i n p sz l0 k;simp only[ji,jr,fk];cases dE p (A.o n) with
 |none=>rfl
 |some c=>cases c <;>simp only[en,I.cZ,lg] <;>(first | rfl | (split <;>rfl))
theorem UL(T esz:Nat)(ps:List av):bn A d (.bs T esz ps) rest=b7 (gw esz (bD false A (ps.map (ae A)))) (cB d rest A):=by
 simp only[bn,aU,aT];cases bD false A (ps.map (ae A)) <;>simp only[gw] <;>rfl
theorem UG(e esz bytes:Nat)(z:I)(s x:av):bn A d (.dK e esz bytes z s x) rest=eL A d e esz bytes z (ae A x) rest (ae A s):=by
 simp only[bn,aU];generalize ae A s=s';generalize ae A x=x';cases s' <;>simp only[eL]
 rename_i n l;cases x' <;>simp only <;>generalize A.o n=z <;>(cases z with
  |none=>rfl
  |some y=>cases y <;>simp only[oH,oI,tp])
end
theorem Bl :
  (∀ d rest A neg x,bn A d (.nilS neg x) rest=nT d rest A neg (ae A x) (iI (ae A x)))∧(∀ d rest A neg x,nT d rest A neg x false=b7 (nS neg x) (cB d rest A))∧(∀ z,iI (.nils z)=false)∧(∀ n p sz lo k,iI (.view n p sz lo k)=false)∧(∀ d rest A x,bn A d (.lenT x) rest=b7 (lD (ae A x)) (cB d rest A)) ∧
  (∀ d rest A esz x lo hi mx,bn A d (.sl esz x lo hi mx) rest=b7 (ji A esz (lo.map (ae A)) (hi.map (ae A)) (mx.map (ae A)) (ae A x)) (cB d rest A)) ∧
  (∀ d rest A T esz ps,bn A d (.bs T esz ps) rest=b7 (gw esz (bD false A (ps.map (ae A)))) (cB d rest A))∧(∀ d rest A e esz bytes z s x,bn A d (.dK e esz bytes z s x) rest=eL A d e esz bytes z (ae A x) rest (ae A s)) ∧
  (∀ A d e esz bytes z x rest n l,eL A d e esz bytes z x rest (.own n l)=oH A d e esz bytes z n l x rest (A.o n))∧(∀ A d e esz bytes z n l x rest T sz es,oH A d e esz bytes z n l x rest (some (.bC T sz es))=oI A d e esz bytes n l T sz es rest x)∧(∀ A d e esz bytes z n l x rest T xs,oH A d e esz bytes z n l x rest (some (.dJ T xs))=tp A d e esz bytes z n l T xs rest x) ∧
  (∀ neg z,nS neg (.nils z)=some (.bool (!neg))) :=
 ⟨Vd,fun _ _ _ _ _=>rfl,fun _=>rfl,fun _ _ _ _ _=>rfl,U5,Vi,UL,UG,fun _ _ _ _ _ _ _ _ _ _=>rfl,fun _ _ _ _ _ _ _ _ _ _ _ _ _=>rfl,fun _ _ _ _ _ _ _ _ _ _ _ _=>rfl,fun _ _=>rfl⟩
theorem VA(p:Nat→Bool)(xs ys:List I):I.cF p (xs++ys)=(I.cF p xs&&I.cF p ys):=by
 induction xs with
 |nil=>simp[I.cF]
 |cons x xs ih=>simp[I.cF,ih,Bool.and_assoc]
section
variable {α:Type} [Enc α]
theorem w9{A:ab}{d:Option Nat}(e:Nat)(esz bytes n:Nat){l:Nat}{es ys:List α}{rest:List ar}(hl:l=es.length)(hs:Enc.sz α=esz)(hy:ys≠[])(h1:es.length+ys.length≤maxLen)(h2:(es.length+ys.length)*bytes≤140737488355328) :
  oI A d e esz bytes n l e esz (es.map enc) rest (enc ys)=ao rest ((A.aP n (.bC e esz ((es++ys).map enc))).aM d (.own n (es++ys).length)):=by
 simp only[iU,oI];rw[if_pos ⟨by simpa using hl,hs,rfl,rfl,by simpa using hy,by simpa using h1,by simpa using h2⟩];simp
theorem xl(esz:Nat){ys:List α}(hs:Enc.sz α=esz):gw esz (some (ys.map enc))=some (enc ys):=by
 have h1:((ys.map enc).all fun e:I=>e.size==esz)=true:=by
  simp only[X6,X0];rintro x ⟨y,_,rfl⟩;simp[Enc.size,hs]
 simp only[gw,iU];rw[if_pos ⟨h1,oR ys⟩,hs]
theorem oO(esz:Nat)(y:α)(hs:Enc.sz α=esz):gw esz (some [enc y])=some (enc [y]):=xl (ys:=[y]) esz hs
theorem o8(sz:Nat){T k:Nat}{es:List α}(hk:k=es.length)(hs:Enc.sz α=sz):jV k (some (.bC T sz (es.map enc)))=some (enc es):=by
 simp only[jV,Z2];rw[if_pos ⟨hk,oR es⟩,iU,hs]
theorem mw(p:Nat→Bool)(l:List α):I.cF p (l.map enc)=true:=by
 induction l with
 |nil=>rfl
 |cons x l ih=>simp only[Z4,I.cF,bG,ih,Bool.and_self]
end
theorem Ai :
  (∀ n:Int,gw 1 (some [.int .i64 n])=some (enc [n]))∧(∀ (T:Nat) (es:List Int),jV es.length (some (.bC T 1 (es.map enc)))=some (enc es)) :=
 ⟨fun n=>oO 1 n rfl,fun _ _=>o8 1 rfl rfl⟩
theorem bw.EY{A:ab}{d n T sz z:Nat}(hd:A.t d=.nils z)(hn:A.o n=none)(hlt:n<1000000):bw A ((A.aP n (.bC T sz [])).put d (.own n 0)):=by
 rintro c a w ⟨D,E,h⟩;have aq:E n=none:=by have:=h.bx n;rw[hn] at this;exact this
 have hl:df w D E w D (fun m=>if m=n then some (.rw none 0) else E m):=by
  have ep:∀ {m:Nat} {e:br},E m=some e→(if m=n then some (.rw none 0) else E m)=some e:=fun {m e} he=>by
   have:m≠n:=fun e=>by rw[e,aq] at he;cases he
   rw[if_neg this];exact he
  refine ⟨fun _ _ h=>h,fun _ _ _ _ h=>h,fun m b aK he=>ep he,fun m az l he =>?_,fun m b he=>ep he,fun m b he=>ep he,fun _ _ _ _ h=>h⟩
  ·have:m≠n:=fun e=>by rw[e,aq] at he;cases he
   exact ⟨az,l,by simp only[if_neg this];exact he,Z3 _,fun _=>rfl⟩
 refine ⟨D,fun m=>if m=n then some (.rw none 0) else E m,h.sz,h.eb,fun t =>?_,h.de,h.cH,h.cJ,fun m =>?_,fun m m' e e' b h1 h2 h3 h4 =>?_,fun m e hm =>?_,h.eB,h.cq,h.eF,h.eV⟩
 ·simp only[ab.put,ab.aP];by_cases ht:t=d
  ·subst ht;simp only[if_true];have hv:=h.dx t;rw[hd] at hv;obtain ⟨cs,q1,q2⟩:=hv;simp only[af] at q2;subst q2;refine ⟨[.slice none 0 0],by simpa[aW,I.isAgg] using q1,?_⟩;simp only[af,if_true];exact ⟨none,0,rfl,Z3 _,⟨_,_,_,rfl⟩,fun _=>trivial⟩
  ·simp only[if_neg ht];exact aO.later hl (h.dx t)
 ·simp only[ab.put,ab.aP];by_cases hm:m=n
  ·subst hm;simp only[if_true,cW];exact ⟨none,by simp,by simp,trivial⟩
  ·simp only[if_neg hm];exact (h.bx m).later hl (by simp only[if_neg hm]) fun _ _ _ _=>⟨rfl,fun _ ho=>ho⟩
 ·by_cases hm:m=n <;>by_cases hm':m'=n
  ·rw[hm,hm']
  ·simp only[if_pos hm,v6] at h1;subst h1;simp[br.az] at h3
  ·simp only[if_pos hm',v6] at h2;subst h2;simp[br.az] at h4
  ·simp only[if_neg hm] at h1;simp only[if_neg hm'] at h2;exact h.ct m m' e e' b h1 h2 h3 h4
 ·have hmn:m≠n:=fun e=>by rw[e,h.iW (.inr hlt)] at hm;cases hm
  simp only[if_neg hmn];exact h.dv m e hm
theorem bw.E5{ts:List (Nat×I)}{os:List (Nat×ah)}(d n T sz z:Nat)(hd:b8 ts d=.nils z)(hn:aJ os n=none){B:ab}(h:bw (ay ((d,.own n 0)::ts) ((n,.bC T sz [])::os)) B)(hlt:n<1000000:=by decide):bw (ay ts os) B :=
 ((bw.EY (A:=ay ts os) (T:=T) (sz:=sz) hd hn hlt).trans (by rw[rU,u5];exact bw.refl _)).trans h
def dS.g{n:Nat}(x:dS n Int)(k:Nat):Int:=x.l.getD k 0
theorem dS.uH{n k:Nat}(x:dS n Int)(h:k<n):x.l[k]'(x.lt h)=x.g k:=by simp[dS.g,x.lt h]
theorem fJ{n k:Nat}{p:List Nat}(x:dS n Int)(h:k<n):kr k p (some (x.l.map enc))=(I.int .i64 (x.g k)).at p:=by
 rw[Fu h,x.uH h];rfl
theorem uI{n k:Nat}(x:dS n Int)(h:k<n):(x.l.map (enc (α:=Int)))[k]?=some (I.int .i64 (x.g k)):=by
 rw[SM x h,x.uH h];rfl
theorem Bc:(∀ k n,bU none (.int k n)=true)∧(∀ b,bU none (.bool b)=true)∧(∀ z es,bU none (.slice z es)=true)∧(∀ f es,bU none (.func f es)=true)∧(∀ z,bU none (.nils z)=true)∧(∀ n k,bU none (.own n k)=true) :=
 ⟨fun _ _=>rfl,fun _=>rfl,fun _ _=>rfl,fun _ _=>rfl,fun _=>rfl,fun _ _=>rfl⟩
theorem aZ:(type_of% @w0)∧(type_of% @Bk)∧(type_of% @Bl)∧(type_of% @Ai)∧(type_of% @Bc)∧(type_of% @DN)∧(type_of% @zq)∧(type_of% @xi)∧(∀ n:Int,(enc n:I)=.int .i64 n)∧(∀ n:Bool,(enc n:I)=.bool n) ∧
  (∀ {α β:Type} (f:α→β) (x:α) (xs:List α),List.map f (x::xs)=f x::List.map f xs)∧(∀ {α β:Type} (f:α→β),List.map f []=[])∧(∀ {α:Type} (xs:List α),[]++xs=xs)∧(∀ n:Nat,(n:Int).toNat=n)∧(∀ {α β:Type} (f:α→β) (x:α),Option.map f (some x)=some (f x)) ∧
  (∀ n:Nat,0≤(n:Int))∧((!true)=false)∧((!false)=true)∧((false=true)=False)∧((true=false)=False) :=
 ⟨@w0,@Bk,@Bl,@Ai,@Bc,@DN,@zq,@xi,tZ,Kx,fun _ _ _=>rfl,fun _=>rfl,fun _=>rfl,fun _=>rfl,fun _ _=>rfl,fun n=>Int.natCast_nonneg n,rfl,rfl,by simp,by simp⟩
end Go.Abs
namespace Go.Abs
open Go Go.RowKit
open Enc (enc)
theorem iL.bM{P:Program}{f:FuncId}{fn:Func}{x:bj}{rs:List bt}{Y:Value→List I→List (Nat×ah)→bY→Prop}{args:List I}{os:List (Nat×ah)}{post:bY}(hf:P.funcs[f]?=some fn)(hcall:dM P f=true)(hc:(fn.body.bind (dL P fn.ntmps))=some x)
  (hrs:fK P fn.results.toList=some rs) (hn:args.length≤fn.ntmps) (hn2:fn.ntmps≤1000000) (hos:∀ m,aB os m=true→1000000≤m) (h:I.gq args→∀ (w:World) (D:aI) (E:aN),U ⟨P,w,D,fn.ntmps,bO E,E,Y,none,none⟩ x (mH rs post) (ay (bB 0 args) os)):iL P f Y args os post:=by
 obtain ⟨body,hb,hc'⟩:=Option.bind_eq_some_iff.1 hc;refine ⟨hcall,fun w D E vs hy hD ho hv =>?_⟩;exact (iL.r8 hf hb hcall hc' hrs hn (fun m hm=>⟨Nat.le_trans hn2 (hos m hm),hos m hm⟩) (fun w D E=>(h (og _ _ hv) w D E).sub (sP args os))).2 w D E vs hy hD ho hv
theorem eI.bM{P:Program}{f:FuncId}{fn:Func}{x:bj}{rs:List bt}{args:List I}{os:List (Nat×ah)}{post:bY}(hf:P.funcs[f]?=some fn)(hcall:dM P f=true)(hc:(fn.body.bind (dL P fn.ntmps))=some x)
  (hrs:fK P fn.results.toList=some rs) (hn:args.length≤fn.ntmps) (hn2:fn.ntmps≤1000000) (hos:∀ m,aB os m=true→1000000≤m) (h:I.gq args→∀ (w:World) (D:aI) (E:aN),U ⟨P,w,D,fn.ntmps,bO E,E,fq,none,none⟩ x (mH rs post) (ay (bB 0 args) os)):eI P f args os post :=
 eI.AZ (iL.bM hf hcall hc hrs hn hn2 hos h)
theorem uM{A:ab} : ∀ n x,aJ [] n=some x→A.o n=some x∧x.only (aB [])=true∧x.ef=true:=fun n x h=>by simp[aJ] at h
theorem nH{A:ab}{k:Nat}{c:I}(h1:A.o k=some (.box c))(h2:∀ p,c.only p=true):∀ n x,aJ [(k,.box c)] n=some x→A.o n=some x∧x.only (aB [(k,.box c)])=true∧x.ef=true:=fun n x h=>by
 simp only[aJ] at h;split at h
 ·rename_i hn;subst hn;simp only[v6] at h;subst h;exact ⟨h1,h2 _,rfl⟩
 ·cases h
theorem dC.nil{aA:Bool}{ρ:List (Nat×Nat)}{os0:List (Nat×ah)}{r:I}(h1:∀ p,r.only p=true)(h2:aA=true→r.cU=true):dC aA ρ [] os0 r [] :=
 ⟨fun m x h=>by simp[aJ] at h,fun m m' h=>by simp[aB,aJ] at h,fun m h=>by simp[aB,aJ] at h,fun m h=>by simp[aB,aJ] at h,h1 _,h2⟩
theorem gA{k:Nat}{x:ah}{m:Nat} : aB [(k,x)] m=true↔m=k:=by
 simp only[aB,aJ];split <;>simp_all
theorem dC.vd{aA:Bool}{k d:Nat}{os0:List (Nat×ah)}{r c:I}(h1:∀ p,c.only p=true)(h2:aA=true→c.cU=true)(h3:r.only (aB [(k,.box c)])=true)(h4:aA=true→r.cU=true)(h5:aJ os0 d=none)(h6:d<1000000):dC aA [(k,d)] [] os0 r [(k,.box c)]:=by
 refine ⟨fun m x h =>?_,fun m m' h h' _ =>?_,fun m h=>by simp[aB,aJ] at h,fun m h _ =>?_,h3,h4⟩
 ·simp only[aJ] at h;split at h
  ·simp only[v6] at h;subst h;exact ⟨h1 _,rfl,h2⟩
  ·cases h
 ·rw[gA.1 h,gA.1 h']
 ·rw[gA.1 h];simp[bp,h5,h6]
theorem eJ.nil{ρ:List (Nat×Nat)}{os0:List (Nat×ah)} : eJ ρ [] os0:=⟨fun m x h=>by simp[aJ] at h,fun m m' h=>by simp[aB,aJ] at h⟩
mutual
theorem pU(ρ:Nat→Nat):∀ x:I,x.bu=true→x.aR ρ=x
 | .agg fs,h=>by simp only[I.aR,I.bu] at *;rw[mF ρ fs h]
 | .slice _ es,h=>by simp only[I.aR,I.bu] at *;rw[mF ρ es h]
 | .ref x,h=>by simp only[I.aR,I.bu] at *;rw[pU ρ x h]
 | .func _ caps,h=>by simp only[I.aR,I.bu] at *;rw[mF ρ caps h]
 | .iface _ v,h=>by simp only[I.aR,I.bu] at *;rw[pU ρ v h]
 | .bool _,_ | .int _ _,_ | .ak _,_ | .nilp,_ | .c7,_ | .cM,_ | .any,_ | .raw _,_ | .nils _,_ | .c0 _,_=>by simp only[I.aR]
 | .cV ks vs,h=>by simp only[I.aR,I.bu,Z0] at *;rw[mF ρ ks h.1,mF ρ vs h.2]
 | .ptr _ _,h | .own _ _,h | .view _ _ _ _ _,h | .mref _,h | .cQ _,h | .undef,h | .cT,h | .tuple _,h=>by simp[I.bu] at h
theorem mF(ρ:Nat→Nat):∀ xs:List I,I.b9 xs=true→I.cS ρ xs=xs
 | [],_=>rfl
 |x::xs,h=>by
  simp only[I.b9,Z0] at h;simp only[I.cS,pU ρ x h.1,mF ρ xs h.2]
end
theorem n9 :
  (∀ (k:IntKind) n (ρ:Nat→Nat),(I.int k n).aR ρ=.int k n)∧(∀ (b:Bool) (ρ:Nat→Nat),(I.bool b).aR ρ=.bool b)∧(∀ n p (ρ:Nat→Nat),(I.ptr n p).aR ρ=.ptr (ρ n) p) ∧
  (∀ n p sz lo k (ρ:Nat→Nat),(I.view n p sz lo k).aR ρ=.view (ρ n) p sz lo k)∧(∀ fs (ρ:Nat→Nat),(I.agg fs).aR ρ=.agg (I.cS ρ fs))∧(∀ fs (ρ:Nat→Nat),(I.tuple fs).aR ρ=.tuple (I.cS ρ fs))∧(∀ f fs (ρ:Nat→Nat),(I.func f fs).aR ρ=.func f (I.cS ρ fs)) ∧
  (∀ ρ:Nat→Nat,I.cS ρ []=[])∧(∀ (ρ:Nat→Nat) x xs,I.cS ρ (x::xs)=x.aR ρ::I.cS ρ xs)∧(∀ (ρ:Nat→Nat) (x:I),(ah.box x).aR ρ=.box (x.aR ρ)) ∧
  (∀ (z:Nat) (ρ:Nat→Nat),(I.nils z).aR ρ=.nils z)∧(∀ (z:Nat) (ρ:Nat→Nat),(I.c0 z).aR ρ=.c0 z) ∧
  (∀ n,bp [] n=n)∧(∀ a b r n,bp ((a,b)::r) n=if n=a then b else bp r n)∧(∀ ρ,cX ρ []=[])∧(∀ ρ k x os,cX ρ ((k,x)::os)=(bp ρ k,x.aR (bp ρ))::cX ρ os) :=
 ⟨fun _ _ _=>by simp only[I.aR],fun _ _=>by simp only[I.aR],fun _ _ _=>by simp only[I.aR],fun _ _ _ _ _ _=>by simp only[I.aR],fun _ _=>by simp only[I.aR],fun _ _=>by simp only[I.aR],fun _ _ _=>by simp only[I.aR],
  fun _=>rfl,fun _ _ _=>by simp only[I.cS],fun _ _=>rfl,fun _ _=>by simp only[I.aR],fun _ _=>by simp only[I.aR],fun _=>rfl,fun _ _ _ _=>rfl,fun _=>rfl,fun _ _ _ _=>rfl⟩
section
variable {α:Type} [Enc α]
theorem iE(ρ:Nat→Nat)(x:α):(enc x).aR ρ=enc x:=pU ρ _ (jS x)
theorem mG(ρ:Nat→Nat)(l:List α):I.cS ρ (l.map enc)=l.map enc:=mF ρ _ (oR l)
theorem ke(A:ab)(esz:Nat)(l:List α)(hs:Enc.sz α=esz):cO A esz (enc l)=some (l.map enc):=by
 simp only[iU,cO,hs,if_true]
theorem sS(l:List α):iI (enc l)=l.isEmpty:=by
 simp only[iU,iI];cases l <;>rfl
theorem AS(neg:Bool)(l:List α)(h:l≠[]):nS neg (enc l)=some (.bool neg):=by
 simp only[iU,nS];cases l with
 |nil=>exact absurd rfl h
 |cons=>rfl
section
variable {P:Program} {Y:Value→List I→List (Nat×ah)→bY→Prop} {K:ab→Prop} {A:ab} {rest:List ar} {d:Nat} {e esz bytes:Nat} {q:Nat}
theorem aX.tq(z:α){l:List α}(hs:Enc.sz α=esz)(hl:l≠[])(hf:A.o d=none)(hb:l.length*bytes≤140737488355328)(hml:l.length≤maxLen)
  (h:∀ m,aX P Y false K (ao rest ((A.aP d (.box (.agg ((l++List.replicate m z).map enc)))).aM (some d) (.view d [] esz 0 l.length)))):aX P Y false K (eL A (some d) e esz bytes (enc z) (enc l) rest (.c0 q)):=by
 have hne:l.map (enc (α:=α))≠[]:=by simpa using hl
 have h1:cO A esz (.c0 q)=some []:=rfl;simp only[eL,h1,ke A esz l hs,dY,if_neg hne,eK,hf,X2,Z8,Z2,if_pos (y6 hb hml),X3];refine .any rfl fun m _ =>?_;have:=h m;simp only[X4,List.map_replicate] at this;exact this
theorem Fl(z:I)(hs:Enc.sz α=esz):eL A (some d) e esz bytes z (enc ([]:List α)) rest (.c0 q)=ao rest (A.aM (some d) (.c0 q)):=by
 have h1:cO A esz (.c0 q)=some []:=rfl;simp only[eL,h1,ke A esz ([]:List α) hs,dY,Y9,if_true]
theorem UP(esz:Nat)(z:I)(x:av)(rest:List ar)(A:ab):bn A none (.iR esz z x) rest=np A esz z (ao rest) (ae A x):=rfl
theorem Dm{n:Nat}{p:List Nat}{sz k total i:Nat}(h:i≤total)(h0:0<total):iv n p sz 0 k total none (some (.int .i64 i)) none=some (.view n p sz 0 i):=by
 simp only[iv,gM];rw[if_pos ⟨by omega,by omega,by omega⟩,if_neg (by omega)];simp
theorem lP{n:Nat}{p:List Nat}{sz k total i:Nat}(h:i≤k)(hk:k≤total)(h0:i<total):iv n p sz 0 k total (some (.int .i64 i)) none none=some (.view n p sz i (k-i)):=by
 simp only[iv,gM];rw[if_pos ⟨by omega,by omega,by omega⟩,if_neg (by omega)];simp
theorem TE{m:Nat}{p:List Nat}{sz lo l j:Nat}{fs:List I}(h:j<l):mf m p sz lo l sz (j:Int) (some fs)=some (.ptr m (p++[lo+j])):=by
 simp only[mf,true_and];rw[if_pos ⟨by omega,by omega⟩];simp
theorem qY{sz k:Nat}{xs:List α}(hs:Enc.sz α=sz):kI sz 0 k (some (xs.map enc))=some (enc (xs.take k)):=by
 have h:((xs.map (enc (α:=α))).drop 0).take k=(xs.take k).map enc:=by rw[List.drop_zero,List.map_take]
 simp only[kI,h];rw[if_pos (oR _),iU,hs]
end
end
theorem uP(A:ab)(esz m:Nat)(p:List Nat)(sz lo l:Nat)(k:Int):iX A esz k (.view m p sz lo l)=mf m p sz lo l esz k (en (dE p (A.o m))):=rfl
theorem pz(A:ab)(m:Nat)(p:List Nat)(sz lo l:Nat):jy A (.view m p sz lo l)=some (.int .i64 l):=rfl
theorem vX(A:ab)(esz:Nat)(lo hi mx:Option I)(n:Nat)(p:List Nat)(l0 k:Nat):ji A esz lo hi mx (.view n p esz l0 k)=lg n p esz l0 k esz lo hi mx (en (dE p (A.o n))):=rfl
theorem vY(n:Nat)(p:List Nat)(sz l0 k:Nat)(lo hi mx:Option I)(fs:List I):lg n p sz l0 k sz lo hi mx (some fs)=iv n p sz l0 k fs.length lo hi mx:=by simp[lg]
theorem hE :
  (∀ A esz m p sz lo l k,iX A esz k (.view m p sz lo l)=mf m p sz lo l esz k (en (dE p (A.o m))))∧(∀ A m p sz lo l,jy A (.view m p sz lo l)=some (.int .i64 l)) ∧
  (∀ A esz lo hi mx n p l0 k,ji A esz lo hi mx (.view n p esz l0 k)=lg n p esz l0 k esz lo hi mx (en (dE p (A.o n))))∧(∀ n p sz l0 k lo hi mx fs,lg n p sz l0 k sz lo hi mx (some fs)=iv n p sz l0 k fs.length lo hi mx) ∧
  (∀ esz z x rest A,bn A none (.iR esz z x) rest=np A esz z (ao rest) (ae A x))∧(∀ rest A d esz,bn A d (.bs0 esz) rest=ao rest (A.aM d (.c0 esz))) :=
 ⟨uP,pz,vX,vY,UP,fun _ _ _ _=>rfl⟩
theorem jG(rs:List bt)(post:bY)(A:ab):mH rs post .ret A=iA rs post A:=rfl
theorem Ws(rs:List bt)(post:bY)(A:ab):mH rs post .normal A=iA rs post A:=rfl
theorem bw.jt{ts:List (Nat×I)}{os0:List (Nat×ah)}(ns:List Nat)(d:Nat){x y:I}(hd:b8 ts d=x)(h:ba true (ay ts (jY ns os0)) x=some y)(ho:bQ (fun n => !ns.contains n) (dO ns os0)) :
  bw (ay ts os0) (ay ((d,y)::iV ns ts) (dO ns os0)):=by
 rintro c a w ⟨D,E,hs⟩;obtain ⟨D1,E1,hs1,hw⟩:=hs.freeze ns ho;have hu:du (ay ts (jY ns os0)) (ay ts os0):=fun n z hz=>by
  simp only[ay,pE] at hz ⊢;split at hz
  ·exact hz
  ·cases hz
 have hx:x.cw=true:=by cases x <;>first | rfl | simp[ba] at h
 have hv:=hs.dx d;simp only[ay] at hv;rw[hd] at hv;have h1:al w D E [x] [a.tmps.getD d undef]:=kc [x] _ (.cons hv .nil) (by intro z hz;simp only[List.mem_singleton] at hz;subst hz;exact hx);have h2:=kJ (E':=E1) hs hu hw [x] [y] _ h1 (by simp only[bD,h]);have h3:aO w D1 E1 y (a.tmps.getD d undef):=by
  simp only[al] at h2;obtain ⟨v',rest,cs,e,k1,k2,_⟩:=h2;simp only[Y6] at e;obtain ⟨e1,_⟩:=e;rw[e1];exact fg k1 k2
 refine ⟨D1,E1,hs1.sz,hs1.eb,fun t =>?_,hs1.de,hs1.cH,hs1.cJ,hs1.bx,hs1.ct,hs1.dv,hs1.eB,hs1.cq,hs1.eF,hs1.eV⟩;simp only[ay,b8];split
 ·rename_i ht;subst ht;exact h3
 ·exact hs1.dx t
theorem bw.rf{ts ts':List (Nat×I)}{os0 os':List (Nat×ah)}(ns:List Nat)(d:Nat){x y:I}(hd:b8 ts d=x)(h:ba true (ay ts (jY ns os0)) x=some y)(ho:bQ (fun n => !ns.contains n) (dO ns os0))
  (h1:cj ((d,y)::iV ns ts) ts') (h2:cn (dO ns os0) os') (h3:cm (aB os') ts') (h4:bQ (aB os') os'):bw (ay ts os0) (ay ts' os') :=
 (bw.jt ns d hd h ho).trans (bw.cK h1 h2 h3 h4)
theorem V4{w:World}{D:aI}{E:aN}{p:List Nat}{c x y:I}{cs:List Value}(hr:af w D E c cs)(h:c.at p=some x)(hxy:∀ ds,af w D E x ds→af w D E y ds)(hs:y.aK=x.aK):af w D E (c.dp p y) cs∧(c.dp p y).aK=c.aK:=by
 obtain ⟨off,c1,c2,c3,h1,rfl,h2,h3⟩:=vz p c x cs hr h;obtain ⟨off',k1,k2,k3,k4⟩:=sr p c x y _ c2 hr h (hxy c2 h3) hs;rw[h1,v6] at k1;subst k1;refine ⟨?_,k4⟩;have e:(c1++c2++c3).take off++c2++(c1++c2++c3).drop (off+c2.length)=c1++c2++c3:=by
  rw[Y0 c1 c2 c3,←h2,List.take_left,List.drop_length_add_append,List.drop_left,Y0]
 rw[←e];exact k3
theorem bw.EZ{A:ab}{m n T sz z:Nat}{p:List Nat}{b:I}(hm:A.o m=some (.box b))(hp:b.at p=some (.nils z))(hn:A.o n=none)(hlt:n<1000000):bw A ((A.aP n (.bC T sz [])).aP m (.box (b.dp p (.own n 0)))):=by
 rintro c a w ⟨D,E,h⟩;have aq:E n=none:=by have:=h.bx n;rw[hn] at this;exact this
 have hmn:m≠n:=fun e=>by rw[e,hn] at hm;cases hm
 have hl:df w D E w D (fun m=>if m=n then some (.rw none 0) else E m):=by
  have ep:∀ {m:Nat} {e:br},E m=some e→(if m=n then some (.rw none 0) else E m)=some e:=fun {m e} he=>by
   have:m≠n:=fun e=>by rw[e,aq] at he;cases he
   rw[if_neg this];exact he
  refine ⟨fun _ _ h=>h,fun _ _ _ _ h=>h,fun m b aK he=>ep he,fun m az l he =>?_,fun m b he=>ep he,fun m b he=>ep he,fun _ _ _ _ h=>h⟩
  ·have:m≠n:=fun e=>by rw[e,aq] at he;cases he
   exact ⟨az,l,by simp only[if_neg this];exact he,Z3 _,fun _=>rfl⟩
 refine ⟨D,fun m=>if m=n then some (.rw none 0) else E m,h.sz,h.eb,fun t=>aO.later hl (h.dx t),h.de,h.cH,h.cJ,fun k =>?_,fun m m' e e' b h1 h2 h3 h4 =>?_,fun m e hm =>?_,h.eB,h.cq,h.eF,h.eV⟩
 ·simp only[ab.aP];by_cases hk:k=m
  ·subst hk;have ho:=h.bx k;rw[hm] at ho;obtain ⟨b',cs,T',h1,h2,h3,h4,h5⟩:=ho;obtain ⟨q1,q2⟩:=V4 (y:=.own n 0) (af.later hl _ _ h4) hp (fun ds hd=>by
    simp only[af] at hd;subst hd;simp only[af,if_true];exact ⟨none,0,rfl,Z3 _,⟨_,_,_,rfl⟩,fun _=>trivial⟩) rfl
   simp only[if_true,cW];exact ⟨b',cs,T',by rw[q2];simp only[if_neg hmn];exact h1,h2,h3.aK q2,q1,h5⟩
  ·simp only[if_neg hk];by_cases hkn:k=n
   ·subst hkn;simp only[if_true,cW];exact ⟨none,by simp,by simp,trivial⟩
   ·simp only[if_neg hkn];exact (h.bx k).later hl (by simp only[if_neg hkn]) fun _ _ _ _=>⟨rfl,fun _ ho=>ho⟩
 ·by_cases hm:m=n <;>by_cases hm':m'=n
  ·rw[hm,hm']
  ·simp only[if_pos hm,v6] at h1;subst h1;simp[br.az] at h3
  ·simp only[if_pos hm',v6] at h2;subst h2;simp[br.az] at h4
  ·simp only[if_neg hm] at h1;simp only[if_neg hm'] at h2;exact h.ct m m' e e' b h1 h2 h3 h4
 ·have hmn:m≠n:=fun e=>by rw[e,h.iW (.inr hlt)] at hm;cases hm
  simp only[if_neg hmn];exact h.dv m e hm
theorem bw.E0{ts:List (Nat×I)}{os:List (Nat×ah)}(m n T sz z:Nat)(p:List Nat)(b:I)(hm:aJ os m=some (.box b))(hp:b.at p=some (.nils z))(hn:aJ os n=none){B:ab}(h:bw (ay ts ((m,.box (b.dp p (.own n 0)))::(n,.bC T sz [])::os)) B)(hlt:n<1000000:=by decide):bw (ay ts os) B :=
 ((bw.EZ (A:=ay ts os) (T:=T) (sz:=sz) hm hp hn hlt).trans (by rw[rU,rU];exact bw.refl _)).trans h
mutual
theorem jd{p q:Nat→Bool}(h:∀ n,p n=true→q n=true):∀ x:I,x.only p=true→x.only q=true
 | .agg fs,hx | .tuple fs,hx=>by simp only[I.only] at *;exact jD h fs hx
 | .slice _ es,hx=>by simp only[I.only] at *;exact jD h es hx
 | .ref x,hx=>by simp only[I.only] at *;exact jd h x hx
 | .func _ caps,hx=>by simp only[I.only] at *;exact jD h caps hx
 | .iface _ v,hx=>by simp only[I.only] at *;exact jd h v hx
 | .ptr _ _,hx | .own _ _,hx | .view _ _ _ _ _,hx | .mref _,hx | .cQ _,hx=>by simp only[I.only] at *;exact h _ hx
 | .cV ks vs,hx=>by simp only[I.only,Z0] at *;exact ⟨jD h ks hx.1,jD h vs hx.2⟩
 | .bool _,_ | .int _ _,_ | .ak _,_ | .nilp,_ | .c7,_ | .cM,_ | .any,_ | .raw _,_ | .nils _,_ | .c0 _,_ | .undef,_ | .cT,_=>by simp[I.only]
theorem jD{p q:Nat→Bool}(h:∀ n,p n=true→q n=true):∀ xs:List I,I.cF p xs=true→I.cF q xs=true
 | [],_=>rfl
 |x::xs,hx=>by
  simp only[I.cF,Z0] at *;exact ⟨jd h x hx.1,jD h xs hx.2⟩
end
theorem ah.jd{p q:Nat→Bool}(h:∀ n,p n=true→q n=true)(x:ah)(hx:x.only p=true):x.only q=true:=by
 cases x with
 |box y=>simp only[ah.only] at *;exact Abs.jd h y hx
 |bC T sz es=>simp only[ah.only] at *;exact jD h es hx
 |c8 o=>rfl
 |dJ T xs=>rfl
 |bZ ks vs=>simp only[ah.only,Z0] at *;exact ⟨jD h ks hx.1,jD h vs hx.2⟩
 |it ks vs left cur=>simp only[ah.only,Z0] at *;exact ⟨jD h ks hx.1,jD h vs hx.2⟩
theorem TG{x:I}(h:x.bu=true):x.cw=true:=by
 cases x <;>first | rfl | simp[I.bu] at h
theorem xc{aA:Bool}{A0:ab}{ρ:List (Nat×Nat)}{os:List (Nat×ah)} : ∀ xs:List I,I.b9 xs=true→fI aA A0 ρ os xs xs
 | [],_=>trivial
 |x::xs,h=>by
  simp only[I.b9,Z0] at h;exact ⟨.inl ⟨(pU _ x h.1).symm,lJ _ x h.1,TG h.1⟩,xc xs h.2⟩
structure eY (os os':List (Nat×ah)):Prop where
 same:∀ m,aB os' m=aB os m
 ok:∀ m x,aJ os' m=some x→x.only (aB os')=true∧x.ef=true
 lB:∀ m,aB os m=true→1000000≤m
def bL(o:Obj)(os:List (Nat×ah)):List (Nat×ah):=(1999999,.c8 o)::os
theorem jx(o:Obj)(os:List (Nat×ah))(m:Nat):aB (bL o os) m=(decide (m=1999999)||aB os m):=by
 simp only[bL,aB,aJ];by_cases h:m=1999999 <;>simp[h]
theorem nQ(o:Obj)(os:List (Nat×ah))(m:Nat):aJ (bL o os) m=if m=1999999 then some (.c8 o) else aJ os m:=rfl
theorem eY.bL{os os':List (Nat×ah)}(h:eY os os')(o o':Obj):eY (bL o os) (bL o' os'):=by
 refine ⟨fun m=>by rw[jx,jx,h.same],fun m x hx =>?_,fun m hm =>?_⟩
 ·rw[nQ] at hx;split at hx
  ·cases hx;exact ⟨rfl,rfl⟩
  ·obtain ⟨h1,h2⟩:=h.ok m x hx;exact ⟨x.jd (fun n hn=>by rw[jx,hn];simp) h1,h2⟩
 ·rw[jx] at hm;simp only[Bool.or_eq_true,decide_eq_true_eq] at hm;rcases hm with rfl | hm
  ·decide
  ·exact h.lB m hm
def sk:List Nat→List I→List (Nat×I)→List (Nat×I)
 |p::ps,v::vs,ts=>sk ps vs ((p,v)::ts)
 |_,_,ts=>ts
def lQ(ρ:List (Nat×Nat))(p:Nat→Bool)(ts:List (Nat×I)):List (Nat×I)→Prop
 | []=>True
 |(k,v)::r=>b8 ts k=v.aR (bp ρ)∧v.only p=true∧lQ ρ p ts r
theorem Dp{ρ:List (Nat×Nat)}{p:Nat→Bool}{ts:List (Nat×I)} : ∀ {tsR:List (Nat×I)},lQ ρ p ts tsR→∀ k,b8 tsR k=.cT∨(b8 ts k=(b8 tsR k).aR (bp ρ)∧(b8 tsR k).only p=true)
 | [],_,k=>.inl rfl
 |(j,v)::r,h,k=>by
  simp only[lQ] at h;simp only[b8];split
  ·rename_i hk;subst hk;exact .inr ⟨h.1,h.2.1⟩
  ·exact Dp h.2.2 k
section
variable {c:cd} {a:Act} {w:World} {D:aI} {E:aN}
theorem aL.vU{A:ab}(h:aL c A a w D E){n b:Nat}{o o':Obj}(hn:A.o n=some (.c8 o))(aq:E n=some (.op b))(ho:nK o'=true):aL c (A.aP n (.c8 o')) a (w.putObj b o') D E:=by
 have hob:=h.bx n;rw[hn] at hob;obtain ⟨b',k1,k2,k3,k4,k5⟩:=hob;rw[aq] at k1;cases k1;have hnc:o.isCells=false:=by cases o <;>first | rfl | cases k4
 have hlt:b<w.heap.size:=eD k3;have hl:df w D E (w.putObj b o') D E:=⟨fun _ _ h=>h,fun b1 o1 v _ hv=>tK k3 hnc hv,fun _ _ _ h=>h,fun _ az l h=>⟨az,l,h,Z3 _,fun _=>rfl⟩,fun _ _ h=>h,fun _ _ h=>h,fun b1 es ck hd hm=>(World.putObj_heap_other (fun e1=>k5 0 (by rw[←e1];exact hd))).trans hm⟩
 refine ⟨h.sz,h.eb.mono fun B _ hB=>(World.putObj_heap_other (fun e=>by rw[e,k3] at hB;cases hB;cases k4)).trans hB,fun t=>aO.later hl (h.dx t),h.de.trans ⟨rfl,rfl,rfl,by simp,fun k hk=>World.putObj_heap_other (fun e=>hk (e▸k2))⟩,h.cH,
  fun b1 o1 hd=>by have:=h.cJ b1 o1 hd;simpa using this,fun m =>?_,h.ct,h.dv,h.eB,h.cq,h.eF,h.jL hl⟩
 simp only[ab.aP];by_cases hm:m=n
 ·subst hm;simp only[if_true,cW];exact ⟨b,aq,k2,World.putObj_heap_same hlt,ho,k5⟩
 ·simp only[if_neg hm];exact (h.bx m).later hl rfl fun e b1 he hb=>⟨World.putObj_heap_other (fun e1=>hm (h.ct m n e _ b1 he aq hb (by rw[e1];rfl))),fun _ ho=>ho⟩
theorem aL.Kv{A:ab}(h:aL c A a w D E){n b:Nat}(aq:E n=some (.op b)):aL c ⟨A.t,fun m=>if m=n then none else A.o m⟩ a w D (fun m=>if m=n then none else E m):=by
 have hne:∀ {m:Nat} {e:br},E m=some e→(∀ b,e≠.op b)→m≠n:=fun he h2 e'=>by
  subst e';rw[aq] at he;cases he;exact h2 _ rfl
 have hl:df w D E w D (fun m=>if m=n then none else E m):=by
  refine ⟨fun _ _ h=>h,fun _ _ _ _ h=>h,fun m b aK he =>?_,fun m az l he=>⟨az,l,?_,Z3 _,fun _=>rfl⟩,fun m b he =>?_,fun m b he =>?_,fun _ _ _ _ h=>h⟩
  ·simp only[if_neg (hne he (fun b=>by simp))];exact he
  ·simp only[if_neg (hne he (fun b=>by simp))];exact he
  ·simp only[if_neg (hne he (fun b=>by simp))];exact he
  ·simp only[if_neg (hne he (fun b=>by simp))];exact he
 refine ⟨h.sz,h.eb,fun t=>aO.later hl (h.dx t),h.de,h.cH,h.cJ,fun m =>?_,fun m m' e e' b h1 h2 h3 h4 =>?_,fun m e hm =>?_,h.eB,h.cq,h.eF,h.eV⟩
 ·by_cases hm:m=n
  ·simp only[hm,if_true,cW]
  ·simp only[if_neg hm];exact (h.bx m).later hl (by simp only[if_neg hm]) fun _ _ _ _=>⟨rfl,fun _ ho=>ho⟩
 ·split at h1
  ·cases h1
  ·split at h2
   ·cases h2
   ·exact h.ct m m' e e' b h1 h2 h3 h4
 ·by_cases hmn:m=n
  ·left;simp only[hmn,if_true]
  ·simp only[if_neg hmn];exact h.dv m e hm
theorem aL.enter{ts:List (Nat×I)}{os0:List (Nat×ah)}(h:aL c (ay ts os0) a w D E)(hbase:c.dT=none)(hfree:aJ os0 999999=none)(hE0:c.cG 999999=none){o:Obj}(ho:nK o=true) :
  ∃ E1,aL c (ay ts ((999999,.c8 o)::os0)) { a with defers := { target:=.collected w.heap.size,args := #[] } :: a.defers } ((w.alloc (.deferred (some []))).alloc o) D E1∧E1 999999=some (.op (w.heap.size+1))∧∀ xs vs,al w D E xs vs→al ((w.alloc (.deferred (some []))).alloc o) D E1 xs vs:=by
 have hb:Below w.heap.size w ((w.alloc (.deferred (some []))).alloc o):=((Below.refl _ w).alloc (Z3 _) _).alloc (by simp) _;have h1:=h.grow (D':=D) hb (fun _ _ h=>h) (fun _ _ h _=>h) (fun b o' hd=>by have:=h.cJ b o' hd;simp;omega);obtain ⟨W,hW⟩:∃ W,W=(w.alloc (.deferred (some []))).alloc o:=⟨_,rfl⟩
 have hL:W.heap[w.heap.size+1]?=some o:=by
  rw[hW];have:=World.alloc_heap_new (w.alloc (.deferred (some []))) o;rwa [World.size_alloc] at this
 have hK:W.heap[w.heap.size]?=some (.deferred (some [])):=by
  rw[hW];exact (Below.heap_alloc _ _ _ (by simp)).trans (World.alloc_heap_new w _)
 rw[←hW] at h1 hb ⊢;have hEn:E 999999=none:=by have:=h.bx 999999;simp only[ay,hfree] at this;exact this
 have hl:df W D E W D (fun m=>if m=999999 then some (.op (w.heap.size+1)) else E m):=by
  refine ⟨fun _ _ h=>h,fun _ _ _ _ h=>h,fun m b aK he =>?_,fun m az l he=>⟨az,l,?_,Z3 _,fun _=>rfl⟩,fun m b he =>?_,fun m b he =>?_,fun _ _ _ _ h=>h⟩
  all_goals
   have:m≠999999:=fun e=>by rw[e,hEn] at he;cases he
   simp only[if_neg this];exact he
 have hsz:c.cN.heap.size≤w.heap.size:=h.de.size;have nb:∀ {m:Nat} {e:br} {b:Nat},E m=some e→e.az=some b→b<w.heap.size:=fun he hb'=>h.eS he hb';refine ⟨fun m=>if m=999999 then some (.op (w.heap.size+1)) else E m,⟨h1.sz,?_,fun t=>aO.later hl (h1.dx t),h1.de,h1.cH,h1.cJ,fun m =>?_,fun m m' e e' b g1 g2 g3 g4 =>?_,fun m e hm =>?_,h1.eB,h1.cq,h1.eF,h1.eV⟩,by simp,fun xs vs hx=>al.later hl xs vs (al.later (df.grow hb fun _ _ h=>h) xs vs hx)⟩
 ·have hdf:=h1.eb;rw[hbase] at hdf ⊢;obtain ⟨Bs,k1,k2,k3⟩:=hdf;refine ⟨w.heap.size::Bs,by simp only[Z4];rw[←k1],List.nodup_cons.2 ⟨fun hin =>?_,k2⟩,fun B hB =>?_⟩
  ·have hdf':=h.eb;rw[hbase] at hdf';obtain ⟨Bs',j1,_,j3⟩:=hdf';have e1:Bs=Bs':=by
    have:Bs.map (fun B=>({ target:=.collected B,args := #[] } : Deferred))=Bs'.map (fun B => { target:=.collected B,args := #[] }):=by rw[←k1,←j1]
    exact (List.map_inj_right (fun x y hxy=>by simpa using hxy)).1 this
   rw[e1] at hin;have:=eD (j3 _ hin).2;omega
  ·rcases zz3.1 hB with rfl | hB
   ·exact ⟨hsz,hK⟩
   ·exact k3 B hB
 ·simp only[ay,aJ];by_cases hm:m=999999
  ·subst hm;simp only[if_true,cW];exact ⟨_,rfl,.inl (by omega),hL,ho,fun o' hd=>by have:=h.cJ _ o' hd;omega⟩
  ·simp only[if_neg hm];exact (h1.bx m).later hl (by simp only[if_neg hm]) fun _ _ _ _=>⟨rfl,fun _ ho=>ho⟩
 ·by_cases hm:m=999999 <;>by_cases hm':m'=999999
  ·rw[hm,hm']
  ·simp only[if_pos hm,v6] at g1;simp only[if_neg hm'] at g2;subst g1;simp only[br.az,v6] at g3;have:=nb g2 g4;omega
  ·simp only[if_neg hm] at g1;simp only[if_pos hm',v6] at g2;subst g2;simp only[br.az,v6] at g4;have:=nb g1 g3;omega
  ·simp only[if_neg hm] at g1;simp only[if_neg hm'] at g2;exact h.ct m m' e e' b g1 g2 g3 g4
 ·have hmn:m≠999999:=fun e=>by rw[e,hE0] at hm;cases hm
  simp only[if_neg hmn];exact h.dv m e hm
theorem cW.jb{M M':Nat→Prop}{n:Nat}{x:Option ah}(h:cW M w D E n x)(hM:∀ e b,E n=some e→e.az=some b→M' b):cW M' w D E n x:=by
 unfold cW at *;split
 ·exact h
 ·obtain ⟨b,cs,T,h1,_,h3⟩:=h;exact ⟨b,cs,T,h1,hM _ b h1 rfl,h3⟩
 ·obtain ⟨az,h1,h2,h3⟩:=h;refine ⟨az,h1,h2,?_⟩;split
  ·exact h3
  ·obtain ⟨cs,pre,rest,_,h4⟩:=h3;exact ⟨cs,pre,rest,hM _ _ h1 rfl,h4⟩
 ·obtain ⟨b,h1,_,h3⟩:=h;exact ⟨b,h1,hM _ b h1 rfl,h3⟩
 ·obtain ⟨b,es,ck,h1,_,h3⟩:=h;exact ⟨b,es,ck,h1,hM _ b h1 rfl,h3⟩
 ·obtain ⟨r,b,es,ck,dm,se,la,h1,_,h3⟩:=h;exact ⟨r,b,es,ck,dm,se,la,h1,hM _ r h1 rfl,h3⟩
 ·obtain ⟨az,h1,h2,h3⟩:=h;refine ⟨az,h1,h2,?_⟩;split
  ·exact h3
  ·obtain ⟨cs,m,_,h4⟩:=h3;exact ⟨cs,m,hM _ _ h1 rfl,h4⟩
theorem aL.Bz{os:List (Nat×ah)} : ∀ (ps:List Nat) (vs:List Value) (xs:List I) (ts:List (Nat×I)) (a:Act),aL c (ay ts os) a w D E→(∀ p∈ps,p<c.n)→al w D E xs vs→ps.length=vs.length →
  aL c (ay (sk ps xs ts) os) { a with tmps:=(ps.zip vs).foldl (fun t q=>t.setIfInBounds q.1 q.2) a.tmps } w D E
 | [],[],xs,ts,a,h,_,hv,_=>by
  cases xs with
  |nil=>exact h
  |cons x xs=>simp[al] at hv
 | [],_::_,_,_,_,_,_,_,hl=>by simp at hl
 |_::_,[],_,_,_,_,_,_,hl=>by simp at hl
 |p::ps,v::vs,xs,ts,a,h,hp,hv,hl=>by
  cases xs with
  |nil=>simp[al] at hv
  |cons x xs =>
   simp only[al] at hv;obtain ⟨v',rest,cs,e,h1,h2,h3⟩:=hv;simp only[Y6] at e;obtain ⟨rfl,rfl⟩:=e;have h4:=h.put (hp p (by simp)) (fg h1 h2);rw[u5] at h4;have:=aL.Bz ps vs xs ((p,x)::ts) (a.put (some p) v) h4 (fun q hq=>hp q (by simp[hq])) h3 (by simpa using hl);exact this
end
end Go.Abs
namespace Go.Abs
open Go Go.RowKit
def gZ:bq→Bool
 | .mv _ | .pick .. | .bin .. | .eqv .. | .conv .. | .un .. | .fl .. | .ix .. | .lenT _ | .bld .. | .ext .. | .mk .. | .nilC _ | .ptrE .. | .max2 .. | .prim .. =>true
 | .ld .. | .fa .. | .ia .. | .is .. | .len _ | .va .. | .bs .. | .sl .. | .cap _ | .bs0 _ | .lk .. | .b2s _=>true
 |_=>false
def sf:bq→Bool
 | .alloc _ | .box _ | .aV .. | .call .. | .eT .. | .dK .. | .eC _=>true
 |op=>gZ op
def nP(hs:List FuncId):bq→Bool
 | .alloc _ | .box _ | .eC _=>true
 | .call f _ => !hs.contains f
 |op=>gZ op
abbrev dX:=List (Nat×List Nat)
def gC(au:dX)(s:Nat):Option (List Nat):=(au.find? fun q=>q.1==s).map (·.2)
def dD(au:dX)(A:ab):Prop:=∀ s ns,gC au s=some ns→(A.t s).only (fun n=>ns.contains n)=true
def nM(au:dX):av→Option (List Nat)
 | .t s=>gC au s
 | .c x=>if x.bu then some [] else none
def qi(a:Option (List Nat))(ns:List Nat):Bool:=match a with
 |some ms=>ms.all fun m=>ns.contains m
 |none=>false
def gR(au:dX)(g:ar):Bool:=match g.dst with
 |none=>true
 |some d=>match gC au d with
  |none=>true
  |some ns=>match g.op with
   | .mv x | .nilC x | .fa _ _ x | .ia _ _ x _=>qi (nM au x) ns
   | .bin .. | .len _ | .bs .. | .bs0 _ | .conv .. | .lenT _ | .prim .. | .b2s _=>true
   | .box _ | .alloc _ | .eC _=>ns.contains d
   | .is _ x _ | .ld _ x=>qi (nM au x) []
   |_=>false
def lE:bq→Option (List Nat)
 | .ld _ (.t x) | .fa _ _ (.t x) | .ia _ _ (.t x) _ | .is _ (.t x) _ | .len (.t x) | .va _ _ (.t x) | .sl _ (.t x) _ _ _ | .cap (.t x) | .lk _ _ _ (.t x) _ | .b2s (.t x)=>some [x]
 | .bs _ _ ps=>if (ps.all fun x=>match x with | .t _=>true | .c _=>false)=true then some (iw ps) else none
 | .bs0 _=>some []
 |op=>if op.fB=0∧gZ op=true then some [] else none
def qF(au:dX)(g:ar)(p:Nat→Bool):Bool:=match lE g.op with
 |some xs=>xs.all fun s=>match gC au s with | some ns=>ns.all p | none=>false
 |none=>false
def mz(hs:List FuncId)(au:dX)(g h:ar):Bool:=nP hs h.op||match h.op with
 | .aV _ (.t y) _=>match lE g.op with
  |some []=>true
  |_=>match gC au y with
   |some ms=>qF au g fun n => !ms.contains n
   |none=>false
 | .aV .. =>match lE g.op with
  |some []=>true
  |_=>false
 | .dK _ _ _ _ s _=>qF au g (fun _=>false)||qi (nM au s) []
 |_=>false
def me(hs:List FuncId)(au:dX)(g h:ar):Bool:=gZ g.op&&(mz hs au g h&&((match g.dst with
  |some d => !h.b6.contains d&&h.dst != some d
  |none=>true)&&(match h.dst with
  |some d => !g.b6.contains d
  |none=>true)))
theorem uG{op:bq}(h:gZ op=true)(A:ab)(dst:Option Nat)(rest:List ar)(k:ab→bW):aU A dst op rest k=b7 (aT A op) fun v=>k (A.aM dst v):=by
 cases op <;>first | rfl | cases h
inductive bH (P:Program) (Y:Value→List I→List (Nat×ah)→bY→Prop) (hs:List FuncId) (K:ab→Prop):bW→Prop where
 |done {A:ab} : K A→bH P Y hs K (.done A)
 |flat {f:FuncId} {avs cargs:List I} {a2:Option (List I)} {dst:Option Nat} {rest:List ar} {A:ab} (r:I):aQ P f cargs r→r.flat=true→bH P Y hs K (ao rest (A.aM dst r))→bH P Y hs K (.call f avs (some cargs) a2 dst rest A)
 |lead {f:FuncId} {avs cargs:List I} {a1:Option (List I)} {dst:Option Nat} {rest:List ar} {A:ab} (r:I):aQ P f cargs r→bH P Y hs K (ao rest (A.aM dst r))→bH P Y hs K (.call f avs a1 (some cargs) dst rest A)
 |bx {f:FuncId} {avs:List I} {a1 a2:Option (List I)} {dst:Option Nat} {rest:List ar} {ts:List (Nat×I)} {os0:List (Nat×ah)} (ρ:List (Nat×Nat)) (cargs:List I) (post:bY):eI P f cargs [] post →
   eJ ρ [] os0→fI false (ay ts os0) ρ [] avs cargs→(∀ r os',post r os'→dC false ρ [] os0 r os') →
   (∀ r os',post r os'→bH P Y hs K (ao rest ((ay ts (cX ρ os'++os0)).aM dst (r.aR (bp ρ)))))→bH P Y hs K (.call f avs a1 a2 dst rest (ay ts os0))
 |any {p:Nat→Prop} {k:Nat→bW} : (∀ m,p m→bH P Y hs K (k m))→bH P Y hs K (.any p k)
 |vg {f:FuncId} {avs:List I} {a1 a2:Option (List I)} {dst:Option Nat} {rest:List ar} {ts:List (Nat×I)} {os0:List (Nat×ah)} (aA:Bool) (ρ:List (Nat×Nat)) (os:List (Nat×ah)) (cargs:List I) (post:bY):hs.contains f=true→eI P f cargs os post →
   eJ ρ os os0→fI aA (ay ts (dO (ij ρ os) os0)) ρ os avs cargs→(∀ r os',post r os'→dC aA ρ os os0 r os') →
   (∀ r os',post r os'→bH P Y hs K (ao rest ((ay ts (cX ρ os'++os0)).aM dst (r.aR (bp ρ)))))→bH P Y hs K (.call f avs a1 a2 dst rest (ay ts os0))
 |Xp {v:Value} {avs:List I} {dst:Option Nat} {rest:List ar} {ts:List (Nat×I)} {os0:List (Nat×ah)} (os:List (Nat×ah)) (cargs:List I) (post:bY):Y v cargs os post →
   eJ [] os os0→fI false (ay ts (dO (ij [] os) os0)) [] os avs cargs→(∀ r os',post r os'→dC false [] os os0 r os') →
   (∀ r os',post r os'→bH P Y hs K (ao rest ((ay ts (cX [] os'++os0)).aM dst (r.aR (bp [])))))→bH P Y hs K (.kE v avs dst rest (ay ts os0))
theorem Ku(os:List (Nat×ah)):dO [] os=os:=by simp[dO]
section
variable {P:Program} {hs:List FuncId} {K:ab→Prop} {Y:Value→List I→List (Nat×ah)→bY→Prop}
theorem bH.qD{p:Nat→Prop}{k:Nat→bW}(h:bH P Y hs K (.any p k)):∀ m,p m→bH P Y hs K (k m):=by cases h;assumption
theorem dD.put{au:dX}{A B:ab}(h:dD au A)(ht:∀ k,B.t k=A.t k){dst:Option Nat}{v:I}(hv:∀ d,dst=some d→∀ ns,gC au d=some ns→v.only (fun n=>ns.contains n)=true):dD au (B.aM dst v):=by
 intro s ns hs';cases dst with
 |none=>exact (ht s).symm▸h s ns hs'
 |some d =>
  simp only[ab.aM,ab.put];by_cases hd:s=d
  ·rw[if_pos hd];exact hv d rfl ns (hd▸hs')
  ·rw[if_neg hd,ht];exact h s ns hs'
theorem mW{au:dX}{A:ab}(h:dD au A){x:av}{ns:List Nat}(hx:qi (nM au x) ns=true):(ae A x).only (fun n=>ns.contains n)=true:=by
 cases x with
 |c x =>
  simp only[nM] at hx;split at hx
  ·rename_i hc;exact lJ _ x hc
  ·cases hx
 |t s =>
  simp only[nM] at hx;cases hl:gC au s with
  |none=>rw[hl] at hx;cases hx
  |some ms =>
   rw[hl] at hx;simp only[qi,X6] at hx;exact jd (fun n hn=>hx n (by simpa using hn)) _ (h s ms hl)
theorem FM{op:BinOp}{x y v:I}(p:Nat→Bool)(h:bE op x y=some v):v.only p=true:=by
 unfold bE at h
 (repeat' split at h) <;>first | (cases h;done) | (simp only[v6] at h;subst h;rfl)
theorem VR{q:tg}{xs:List I}{v:I}(p:Nat→Bool)(h:dU q xs=some v):v.only p=true:=by
 unfold dU at h
 (repeat' split at h) <;>first | (cases h;done) | (rename_i hc;simp only[v6] at h;subst h;simp only[I.only];exact lJ _ _ hc.1) | (simp only[v6] at h;subst h;rfl) | (simp only[t7] at h;obtain ⟨_,_,rfl⟩:=h;rfl)
theorem Fw{x:Option (List I)}{v:I}(p:Nat→Bool)(h:ku x=some v):v.only p=true:=by
 unfold ku at h;split at h
 ·simp only[t7] at h;obtain ⟨_,_,rfl⟩:=h;rfl
 ·cases h
theorem sg{p:Nat→Bool} : ∀ {xs:List I} {i:Nat} {x:I},I.cF p xs=true→xs[i]?=some x→x.only p=true
 | [],_,_,_,h=>by simp at h
 |a::xs,0,x,h,e=>by
  simp only[I.cF,Z0] at h;simp only[List.getElem?_cons_zero,v6] at e;exact e▸h.1
 |a::xs,i+1,x,h,e=>by
  simp only[I.cF,Z0] at h;exact sg (xs:=xs) h.2 (by simpa using e)
theorem Ba{au:dX}{A:ab}{g:ar}(h:dD au A)(hg:gR au g=true){v:I}(hv:aT A g.op=some v):∀ d,g.dst=some d→∀ ns,gC au d=some ns→v.only (fun n=>ns.contains n)=true:=by
 intro d hd ns hn;obtain ⟨dst,op,gd⟩:=g;simp only at hd hv;subst hd;simp only[gR,hn] at hg;cases op <;>simp only at hg <;>(try (cases hg;done)) <;>simp only[aT] at hv <;>(try (cases hv;done))
 case mv x=>simp only[v6] at hv;exact hv▸mW h hg
 case nilC x =>
  have:=mW h hg;generalize ae A x=u at hv this;cases u <;>simp only[ml] at hv <;>first | (cases hv;done) | (simp only[v6] at hv;exact hv▸this)
 case bin op x y=>exact FM _ hv
 case conv k x=>split at hv <;>first | (cases hv;done) | (simp only[v6] at hv;subst hv;rfl)
 case prim p xs=>exact VR _ hv
 case is esz x i =>
  have hx:=mW h hg;split at hv
  case h_2=>cases hv
  split at hv
  ·rename_i sz es he;rw[he] at hx;simp only[I.only] at hx;split at hv
   ·simp only[t7] at hv;obtain ⟨u,hu,rfl⟩:=hv;simp only[I.only];exact jd (fun n hn=>by simp at hn) _ (sg hx hu)
   ·cases hv
  ·rename_i m l he;rw[he] at hx;simp[I.only] at hx
  ·rename_i m p sz lo l he;rw[he] at hx;simp[I.only] at hx
  ·cases hv
 case ld s x =>
  have hx:=mW h hg;split at hv
  case h_2=>cases hv
  rename_i u hu;split at hv
  case isFalse=>cases hv
  simp only[v6] at hv;subst hv;generalize ae A x=z at hx hu;cases z <;>simp only[bN] at hu <;>try (cases hu;done)
  ·simp only[v6] at hu;subst hu;simp only[I.only] at hx;exact jd (fun n hn=>by simp at hn) _ hx
  ·simp[I.only] at hx
 case b2s x=>exact Fw _ hv
 case lenT x=>split at hv <;>first | (cases hv;done) | (simp only[v6] at hv;subst hv;rfl)
 case len x=>(repeat' split at hv) <;>first | (cases hv;done) | (simp only[v6] at hv;subst hv;rfl)
 case bs0 e=>simp only[v6] at hv;subst hv;rfl
 case bs e ps =>
  split at hv
  ·split at hv
   ·rename_i hc;simp only[v6] at hv;subst hv;simp only[I.only];exact mu _ _ hc.2
   ·cases hv
  ·cases hv
 case fa f off x =>
  have hx:=mW h hg;split at hv
  ·rename_i fs he;rw[he] at hx;simp only[I.only] at hx;split at hv
   ·rename_i u hu;split at hv
    ·simp only[v6] at hv;subst hv;simp only[I.only];exact sg hx hu
    ·cases hv
   ·cases hv
  ·rename_i n q he;rw[he] at hx;simp only[I.only] at hx;split at hv
   ·split at hv
    ·simp only[v6] at hv;subst hv;simpa only[I.only] using hx
    ·cases hv
   ·cases hv
  ·cases hv
 case ia n esz x i =>
  have hx:=mW h hg;split at hv
  case h_2=>cases hv
  split at hv
  case isFalse=>cases hv
  split at hv
  ·rename_i fs he;rw[he] at hx;simp only[I.only] at hx;split at hv
   ·simp only[t7] at hv;obtain ⟨u,hu,rfl⟩:=hv;simp only[I.only];exact sg hx hu
   ·cases hv
  ·rename_i m q he;rw[he] at hx;simp only[I.only] at hx;split at hv
   ·split at hv
    ·simp only[v6] at hv;subst hv;simpa only[I.only] using hx
    ·cases hv
   ·cases hv
  ·cases hv
def qu(A:ab)(dst:Option Nat)(s:I)(B:ab):Prop:=(∀ t,dst≠some t→B.t t=A.t t)∧(s.only (fun _=>false)=true→du A B)
def lU(A:ab)(dst:Option Nat)(s:I)(R:(ab→bW)→bW):Prop :=
 (∀ k,R k=.fail)∨(∃ B,(∀ k,R k=k B)∧qu A dst s B)∨∃ (p:Nat→Prop) (bl:Nat→ab),(∀ k,R k=.any p fun m=>k (bl m))∧∀ m,qu A dst s (bl m)
theorem pQ{A B:ab}{dst:Option Nat}{v:I}{t:Nat}(ht:∀ k,B.t k=A.t k)(h:dst≠some t):(B.aM dst v).t t=A.t t:=by
 cases dst with
 |none=>exact ht t
 |some d =>
  have:t≠d:=fun e=>h (by rw[e]);simp only[ab.aM,ab.put,if_neg this];exact ht t
theorem Fc(A:ab)(dst:Option Nat)(esz bytes:Nat)(z s:I)(es ys:List I):lU A dst s (eK A dst esz bytes z es ys):=by
 cases dst with
 |none=>exact .inl fun _=>rfl
 |some d =>
  cases ho:A.o d with
  |some y=>exact .inl fun k=>by simp only[eK,ho]
  |none =>
   by_cases hc:(es.length+ys.length)*bytes≤140737488355328∧es.length+ys.length≤maxLen
   ·refine .inr (.inr ⟨_,fun m=>(A.aP d (.box (.agg (es++(ys++List.replicate m z))))).aM (some d) (.view d [] esz 0 (es.length+ys.length)),fun k=>by simp only[eK,ho];rw[if_pos hc],fun m=>⟨fun t ht=>pQ (A:=A) (B:=A.aP d _) (fun _=>rfl) ht,fun _ n y hy =>?_⟩⟩);have:n≠d:=fun e=>by rw[e,ho] at hy;cases hy
    rw[gn];simp only[ab.aP,if_neg this];exact hy
   ·exact .inl fun k=>by simp only[eK,ho];rw[if_neg hc]
theorem Fh(A:ab)(dst:Option Nat)(esz bytes:Nat)(z s:I)(es ys:Option (List I)):lU A dst s (dY A dst esz bytes z s es ys):=by
 cases es with
 |none=>exact .inl fun _=>rfl
 |some es =>
  cases ys with
  |none=>exact .inl fun _=>rfl
  |some ys =>
   by_cases h0:ys=[]
   ·exact .inr (.inl ⟨A.aM dst s,fun k=>by simp only[dY,if_pos h0],fun t ht=>pQ (A:=A) (fun _=>rfl) ht,fun _ n y hy=>by rw[gn];exact hy⟩)
   ·have gg:=fun s'=>Fc A dst esz bytes z s' es ys;cases s
    case nils=>simp only[lU,dY,if_neg h0];exact gg _
    case c0=>simp only[lU,dY,if_neg h0];exact gg _
    case view n p sz lo l =>
     cases ho:A.o n with
     |none=>exact .inl fun k=>by simp only[dY,if_neg h0,ho]
     |some y =>
      cases y with
      |box b =>
       cases hb:b.at p with
       |none=>exact .inl fun k=>by simp only[dY,if_neg h0,ho,hb]
       |some c =>
        cases c
        case agg fs =>
         by_cases h1:lo+l+ys.length≤fs.length
         ·by_cases h2:sz=esz∧I.cI ys=I.cI ((fs.drop (lo+l)).take ys.length)
          ·exact .inr (.inl ⟨(A.aP n (.box (gX b p (lo+l) fs ys))).aM dst (.view n p esz lo (l+ys.length)),fun k=>by simp only[dY,if_neg h0,ho,hb,if_pos h1];rw[if_pos h2],fun t ht=>pQ (A:=A) (B:=A.aP n _) (fun _=>rfl) ht,fun h=>by simp[I.only] at h⟩)
          ·exact .inl fun k=>by simp only[dY,if_neg h0,ho,hb,if_pos h1];rw[if_neg h2]
         ·simp only[lU,dY,if_neg h0,ho,hb,if_neg h1];exact gg _
        all_goals exact .inl fun k=>by simp only[dY,if_neg h0,ho,hb]
      |_=>exact .inl fun k=>by simp only[dY,if_neg h0,ho]
    all_goals exact .inl fun k=>by simp only[dY,if_neg h0]
theorem xb(A:ab)(dst:Option Nat)(e esz bytes:Nat)(z:I)(s x:av)(rest:List ar):lU A dst (ae A s) (aU A dst (.dK e esz bytes z s x) rest):=by
 generalize hs:ae A s=gK;cases gK
 case own n l =>
  cases hx:ae A x
  case slice sz ys =>
   cases ho:A.o n with
   |none=>exact .inl fun k=>by simp only[aU,hs,hx,ho]
   |some y =>
    cases y with
    |bC T sz' es =>
     by_cases hc:vi e esz bytes l sz ys T sz' es
     ·exact .inr (.inl ⟨(A.aP n (.bC e esz (es++ys))).aM dst (.own n (es.length+ys.length)),fun k=>by simp only[aU,hs,hx,ho];rw[if_pos hc],fun t ht=>pQ (A:=A) (B:=A.aP n _) (fun _=>rfl) ht,fun h=>by simp[I.only] at h⟩)
     ·exact .inl fun k=>by simp only[aU,hs,hx,ho];rw[if_neg hc]
    |dJ T xs =>
     by_cases hc:vj e esz bytes l ys T xs z
     ·exact .inr (.inl ⟨(A.aP n (.dJ e (xs++pk ys))).aM dst (.own n (xs.length+ys.length)),fun k=>by simp only[aU,hs,hx,ho];rw[if_pos hc],fun t ht=>pQ (A:=A) (B:=A.aP n _) (fun _=>rfl) ht,fun h=>by simp[I.only] at h⟩)
     ·exact .inl fun k=>by simp only[aU,hs,hx,ho];rw[if_neg hc]
    |_=>exact .inl fun k=>by simp only[aU,hs,hx,ho]
  all_goals exact .inl fun k=>by simp only[aU,hs,hx]
 all_goals (simp only[lU,aU,hs];exact Fh ..)
theorem vx{A:ab}{d:Nat}{v:I}{n:Nat}{y:ah}{dst:Option Nat}{u:I}(h:dst≠some d):((A.put d v).aP n y).aM dst u=((A.aP n y).aM dst u).put d v:=by
 cases dst with
 |none=>rfl
 |some e =>
  have:e≠d:=fun he=>h (by rw[he]);simp only[ab.aM,ab.put,ab.aP,ab.mk.injEq,and_true]
  funext k
  by_cases h1:k=e <;>by_cases h2:k=d <;>simp_all
theorem V2{A:ab}{d:Nat}{v:I}{dst:Option Nat}{u:I}(h:dst≠some d):(A.put d v).aM dst u=(A.aM dst u).put d v:=by
 cases dst with
 |none=>rfl
 |some e =>
  have:e≠d:=fun he=>h (by rw[he]);simp only[ab.aM,ab.put,ab.mk.injEq,and_true]
  funext k
  by_cases h1:k=e <;>by_cases h2:k=d <;>simp_all
theorem Fe{A:ab}{d:Nat}{v:I}{dst:Option Nat}(h:dst≠some d)(esz bytes:Nat)(z:I)(es ys:List I)(k:ab→bW):eK (A.put d v) dst esz bytes z es ys k=eK A dst esz bytes z es ys fun B=>k (B.put d v):=by
 cases dst with
 |none=>rfl
 |some e =>
  simp only[eK];have:(A.put d v).o=A.o:=rfl;rw[this];cases A.o e with
  |some _=>rfl
  |none =>
   simp only;split
   ·simp only[vx h]
   ·rfl
theorem Fi{A:ab}{d:Nat}{v:I}{dst:Option Nat}(h:dst≠some d)(esz bytes:Nat)(z s:I)(es ys:Option (List I))(k:ab→bW):dY (A.put d v) dst esz bytes z s es ys k=dY A dst esz bytes z s es ys fun B=>k (B.put d v):=by
 have ho:(A.put d v).o=A.o:=rfl;cases es with
 |none=>rfl
 |some es =>
  cases ys with
  |none=>rfl
  |some ys =>
   simp only[dY];split
   ·rw[V2 h]
   ·cases s <;>simp only[Fe h,ho]
    rename_i n p sz lo l;cases A.o n with
    |none=>rfl
    |some y =>
     cases y with
     |box b =>
      simp only;cases b.at p with
      |none=>rfl
      |some c =>
       cases c <;>simp only[vx h]
     |_=>rfl
theorem Fm{A:ab}{d:Nat}{v:I}{dst:Option Nat}(h:dst≠some d){e esz bytes:Nat}{z:I}{s x:av}(hag:dq A (A.put d v) (s.sl++x.sl))(rest rest':List ar)(k:ab→bW) :
  aU (A.put d v) dst (.dK e esz bytes z s x) rest k=aU A dst (.dK e esz bytes z s x) rest' fun B=>k (B.put d v):=by
 have ho:(A.put d v).o=A.o:=rfl;have hsrc:∀ y,cO (A.put d v) esz y=cO A esz y:=fun y=>by cases y <;>rfl
 simp only[aU,cv hag.l,cv hag.r,hsrc];cases ae A s <;>simp only[Fi h]
 rename_i n l;cases ae A x <;>simp only[ho]
 cases A.o n with
 |none=>rfl
 |some y=>cases y <;>simp only[vx h]
theorem bH.yE{au:dX}{f:FuncId}{avs:List I}{a1 a2:Option (List I)}{dst:Option Nat}{rest:List ar}{A:ab}(hi:dD au A)(hd:∀ d,dst=some d→gC au d=none)(h:bH P Y hs K (.call f avs a1 a2 dst rest A)) :
  aX P Y false (fun B=>bH P Y hs K (ao rest B)∧dD au B) (.call f avs a1 a2 dst [] A):=by
 have no:∀ {v:I},∀ d,dst=some d→∀ ns,gC au d=some ns→v.only (fun n=>ns.contains n)=true:=fun d e ns hn=>by rw[hd d e] at hn;cases hn
 cases h with
 |flat r hc hf hw=>exact .flat r hc hf (.done ⟨hw,hi.put (fun _=>rfl) no⟩)
 |lead r hc hw=>exact .lead r hc (.done ⟨hw,hi.put (fun _=>rfl) no⟩)
 |bx ρ cargs post hc hg ha hb hw=>exact .bx false ρ [] cargs post rfl hc hg (by simp only[ij,Y9,Ku];exact ha) hb fun r os' hp=>.done ⟨hw r os' hp,hi.put (B:=ay _ (cX ρ os'++_)) (fun _=>rfl) no⟩
 |vg aA ρ os cargs post _ hc hg ha hb hw=>exact .bx aA ρ os cargs post rfl hc hg ha hb fun r os' hp=>.done ⟨hw r os' hp,hi.put (B:=ay _ (cX ρ os'++_)) (fun _=>rfl) no⟩
theorem bH.Hc{au:dX}{v:Value}{avs:List I}{dst:Option Nat}{rest:List ar}{A:ab}(hi:dD au A)(hd:∀ d,dst=some d→gC au d=none)(h:bH P Y hs K (.kE v avs dst rest A)) :
  aX P Y false (fun B=>bH P Y hs K (ao rest B)∧dD au B) (.kE v avs dst [] A):=by
 have no:∀ {v:I},∀ d,dst=some d→∀ ns,gC au d=some ns→v.only (fun n=>ns.contains n)=true:=fun d e ns hn=>by rw[hd d e] at hn;cases hn
 cases h with
 |Xp os cargs post hc hg ha hb hw=>exact .sW os cargs post rfl hc hg ha hb fun r os' hp=>.done ⟨hw r os' hp,hi.put (B:=ay _ (cX [] os'++_)) (fun _=>rfl) no⟩
theorem bH.one{au:dX}{A:ab}{g:ar}{rest:List ar}(hi:dD au A)(ho:sf g.op=true)(hL:gR au g=true)(h:bH P Y hs K (aU A g.dst g.op rest (ao rest))):aX P Y false (fun B=>bH P Y hs K (ao rest B)∧dD au B) (aU A g.dst g.op [] (ao [])):=by
 have hval:=fun v (hv:aT A g.op=some v)=>Ba hi hL hv;obtain ⟨dst,op,gd⟩:=g;simp only at ho h hval ⊢;have pure:gZ op=true→aX P Y false (fun B=>bH P Y hs K (ao rest B)∧dD au B) (aU A dst op [] (ao [])):=by
  intro hsm;rw[uG hsm] at h ⊢;cases hv:aT A op with
  |none=>rw[hv] at h;cases h
  |some v=>rw[hv] at h;exact .done ⟨h,hi.put (fun _=>rfl) (hval v hv)⟩
 have unl:(∀ ns d,dst=some d→gC au d=some ns→gR au ⟨dst,op,gd⟩=false)→∀ d,dst=some d→gC au d=none:=fun h1 d hd=>by
  cases hn:gC au d with
  |none=>rfl
  |some ns=>rw[h1 ns d hd hn] at hL;cases hL
 cases op with
 |alloc z =>
  cases dst with
  |none=>simp only[aU] at h;cases h
  |some d =>
   simp only[aU] at h ⊢;split at h
   case h_2=>cases h
   refine .done ⟨h,hi.put (B:=A.aP d _) (dst:=some d) (fun _=>rfl) fun d' e ns hn =>?_⟩;simp only[v6] at e;subst e;simpa only[gR,hn,I.only] using hL
 |box x =>
  cases dst with
  |none=>simp only[aU] at h;cases h
  |some d =>
   simp only[aU] at h ⊢;split at h
   case h_2=>cases h
   split at h
   case isFalse=>cases h
   rename_i hv;rw[if_pos hv];refine .done ⟨h,hi.put (B:=A.aP d _) (dst:=some d) (fun _=>rfl) fun d' e ns hn =>?_⟩;simp only[v6] at e;subst e;simpa only[gR,hn,I.only] using hL
 |aV s x v =>
  cases dst with
  |some d=>simp only[aU] at h;cases h
  |none =>
   simp only[aU] at h ⊢;split at h
   case h_2=>cases h
   rename_i n p hx;split at h
   case h_2=>cases h
   rename_i b hb;split at h
   case h_2=>cases h
   rename_i old hold;split at h
   case isFalse=>cases h
   rename_i hok;simp only[if_pos hok];exact .done ⟨h,fun s ns hn=>hi s ns hn⟩
 |eC x =>
  simp only[aU] at h ⊢;cases hse:kW (ae A x) with
  |none=>rw[hse] at h;simp only[gW] at h;cases h
  |some ys =>
   rw[hse] at h;cases dst with
   |none=>simp only[gW] at h;cases h
   |some d =>
    simp only[gW] at h ⊢;split at h
    case h_2=>cases h
    rename_i ho;refine .any rfl fun m hm=>.done ⟨h.qD m hm,hi.put (B:=A.aP d _) (dst:=some d) (fun _=>rfl) fun d' e ns hn =>?_⟩;simp only[v6] at e;subst e;simpa only[gR,hn,I.only] using hL
 |call f args=>exact bH.yE hi (unl fun ns d e hn=>by subst e;simp only[gR,hn]) h
 |eT x args =>
  have hu:=unl fun ns d e hn=>by subst e;simp only[gR,hn]
  simp only[aU] at h ⊢;split at h
  ·exact bH.yE hi hu h
  ·exact bH.Hc hi hu h
  ·cases h
 |dK e esz bytes z s x =>
  have hu:=unl fun ns d e hn=>by subst e;simp only[gR,hn]
  have rB:∀ B,qu A dst (ae A s) B→dD au B:=fun B hB t ns hn=>by
   rw[hB.1 t fun e=>by rw[hu t e] at hn;cases hn];exact hi t ns hn
  have hf:=xb A dst e esz bytes z s x;rcases hf rest with h1 | ⟨B,h1,h2⟩ | ⟨p,bl,h1,h2⟩
  ·rw[h1] at h;cases h
  ·rw[h1] at h;have:aU A dst (.dK e esz bytes z s x) [] (ao [])=ao [] B:=(show aU A dst (.dK e esz bytes z s x) [] (ao [])=aU A dst (.dK e esz bytes z s x) rest (ao []) from rfl).trans (h1 _);rw[this];exact .done ⟨h,rB B h2⟩
  ·rw[h1] at h;have:aU A dst (.dK e esz bytes z s x) [] (ao [])=.any p fun m=>ao [] (bl m):=(show aU A dst (.dK e esz bytes z s x) [] (ao [])=aU A dst (.dK e esz bytes z s x) rest (ao []) from rfl).trans (h1 _);rw[this];exact .any rfl fun m hm=>.done ⟨h.qD m hm,rB _ (h2 m)⟩
 |_=>first | exact pure rfl | cases ho
def eZ(g:ar)(A:ab)(v:I):Prop:=(ft A g∧v=.undef)∨(pass A g∧aT A g.op=some v)
theorem bH.vZ{A:ab}{g:ar}{rest:List ar}(hs':gZ g.op=true)(h:bH P Y hs K (ao (g::rest) A)):∃ v,eZ g A v∧bH P Y hs K (ao rest (A.aM g.dst v)):=by
 have step:pass A g→bH P Y hs K (aU A g.dst g.op rest (ao rest))→∃ v,eZ g A v∧bH P Y hs K (ao rest (A.aM g.dst v)):=by
  intro hp h;rw[uG hs'] at h;cases hv:aT A g.op with
  |none=>rw[hv] at h;cases h
  |some v=>rw[hv] at h;exact ⟨v,.inr ⟨hp,hv⟩,h⟩
 simp only[ao] at h;split at h
 ·rename_i hg;exact step (by simp only[pass,hg]) h
 ·rename_i t b hg;split at h
  ·rename_i b' hb;split at h
   ·rename_i hbb;subst hbb;exact step (by simp only[pass,hg];exact hb) h
   ·rename_i hbb;exact ⟨_,.inl ⟨by simp only[ft,hg];exact .inl (by rw[hb,tD hbb]),rfl⟩,h⟩
  ·rename_i hb;exact ⟨_,.inl ⟨by simp only[ft,hg];exact .inr hb,rfl⟩,h⟩
  ·cases h
theorem qE{A:ab}{g:ar}{rest:List ar}(hn:ft A g):ao (g::rest) A=ao rest (A.aM g.dst .undef):=by
 simp only[ao];cases hg:g.guard with
 |none=>simp only[ft,hg] at hn
 |some tb =>
  obtain ⟨t,b⟩:=tb;simp only[ft,hg] at hn;rcases hn with hn | hn
  ·simp only[hn];rw[if_neg (by cases b <;>simp)]
  ·simp only[hn]
theorem eZ.to{A:ab}{g:ar}{rest:List ar}{v:I}(hs':gZ g.op=true)(h:eZ g A v):ao (g::rest) A=ao rest (A.aM g.dst v):=by
 rcases h with ⟨hn,rfl⟩ | ⟨hp,hv⟩
 ·exact qE hn
 ·rw[lZ hp,uG hs',hv];rfl
theorem Ka{A A':ab}{p:Nat→Bool}(ho:∀ n,p n=true→A'.o n=A.o n){x:I}(hx:x.only p=true):bN A' x=bN A x:=by
 cases x <;>simp only[bN]
 rename_i n q;rw[ho n (by simpa[I.only] using hx)]
mutual
theorem K0{A A':ab}{p:Nat→Bool}(ho:∀ n,p n=true→A'.o n=A.o n):∀ {x:I},x.only p=true→ba false A' x=ba false A x
 | .own n k,h=>by simp only[ba];rw[ho n (by simpa[I.only] using h)]
 | .func f caps,h=>by simp only[ba];rw[qZ ho (xs:=caps) (by simpa[I.only] using h)]
 | .agg fs,h=>by simp only[ba];rw[qZ ho (xs:=fs) (by simpa[I.only] using h)]
 | .undef,_ | .cT,_ | .bool _,_ | .int _ _,_ | .ak _,_ | .nilp,_ | .c7,_ | .cM,_ | .any,_ | .raw _,_ | .nils _,_ | .c0 _,_ | .slice _ _,_ | .tuple _,_ | .ref _,_ | .iface _ _,_ | .ptr _ _,_ | .view _ _ _ _ _,_ | .mref _,_ | .cQ _,_ | .cV _ _,_=>by simp[ba]
theorem qZ{A A':ab}{p:Nat→Bool}(ho:∀ n,p n=true→A'.o n=A.o n):∀ {xs:List I},I.cF p xs=true→bD false A' xs=bD false A xs
 | [],_=>rfl
 |x::xs,h=>by
  simp only[I.cF,Z0] at h;simp only[bD,K0 ho h.1,qZ ho h.2]
end
theorem Bj{p:Nat→Bool}{f:av→I} : ∀ {xs:List av},(∀ x∈xs,(f x).only p=true)→I.cF p (xs.map f)=true
 | [],_=>rfl
 |x::xs,h=>by
  simp only[Z4,I.cF,Z0];exact ⟨h x (by simp),Bj fun y hy=>h y (by simp[hy])⟩
theorem Ul{A A':ab}{p:Nat→Bool}(ho:∀ n,p n=true→A'.o n=A.o n){x:I}(hx:x.only p=true):fD A' x=fD A x:=by
 cases x with
 |mref n=>simp only[fD];rw[ho n (by simpa[I.only] using hx)]
 |raw v=>cases v <;>first | rfl | (rename_i o;cases o <;>rfl)
 |_=>rfl
theorem VT{A A':ab}{op:bq}{xs:List Nat}{p:Nat→Bool}(hm:lE op=some xs)(h:dq A A' op.b6)(hx:∀ s∈xs,(A.t s).only p=true)(ho:∀ n,p n=true→A'.o n=A.o n):aT A' op=aT A op:=by
 have jt:op.fB=0→aT A' op=aT A op:=fun hc=>vv hc h;have dl:=fun {x:I} (hx:x.only p=true)=>Ka ho hx;unfold lE at hm;split at hm
 ·rename_i s x;simp only[v6] at hm;subst hm;have e:=h x (by simp[bq.b6,av.sl]);simp only[aT,ae,e,dl (hx x (by simp))]
 ·rename_i f off x;simp only[v6] at hm;subst hm;have e:=h x (by simp[bq.b6,av.sl]);have k:=hx x (by simp);simp only[aT,ae,e];generalize A.t x=u at k ⊢;cases u with
  |ptr n q=>simp only[dl (x:=.ptr n q) k]
  |ref c=>cases c <;>rfl
  |_=>rfl
 ·rename_i n esz x i;simp only[v6] at hm;subst hm;have e:=h x (by simp[bq.b6,av.sl]);have ei:=cv (x:=i) (fun m hm=>h m (by simp[bq.b6,hm]));have k:=hx x (by simp);simp only[aT,ei];generalize ae A i=w;simp only[ae,e];generalize A.t x=u at k ⊢;cases u with
  |ptr n q=>simp only[dl (x:=.ptr n q) k]
  |ref c=>cases c <;>rfl
  |_=>rfl
 ·rename_i esz x i;simp only[v6] at hm;subst hm;have e:=h x (by simp[bq.b6,av.sl]);have ei:=cv (x:=i) (fun m hm=>h m (by simp[bq.b6,hm]));have k:=hx x (by simp);simp only[aT,ei];generalize ae A i=w;simp only[ae,e];generalize A.t x=u at k ⊢;cases u with
  |own n l=>simp only[ho n (by simpa[I.only] using k)]
  |view n q=>simp only[dl (x:=.ptr n q) (by simpa[I.only] using k)]
  |_=>rfl
 ·rename_i x;simp only[v6] at hm;subst hm;have e:=h x (by simp[bq.b6,av.sl]);have k:=hx x (by simp);simp only[aT,ae,e];generalize A.t x=u at k ⊢;cases u with
  |own n l=>simp only[ho n (by simpa[I.only] using k)]
  |_=>rfl
 ·rename_i n esz x;simp only[v6] at hm;subst hm;have e:=h x (by simp[bq.b6,av.sl]);have k:=hx x (by simp);simp only[aT,ae,e];generalize A.t x=u at k ⊢;cases u with
  |ptr n q=>simp only[dl (x:=.ptr n q) k]
  |ref c=>cases c <;>rfl
  |_=>rfl
 ·rename_i esz x lo hi mx;simp only[v6] at hm;subst hm;have e:=h x (by simp[bq.b6,av.sl]);have e1:=nz (x:=lo) (fun m hm=>h m (by simp[bq.b6,hm]));have e2:=nz (x:=hi) (fun m hm=>h m (by simp[bq.b6,hm]));have e3:=nz (x:=mx) (fun m hm=>h m (by simp[bq.b6,hm]));have k:=hx x (by simp);simp only[aT,e1,e2,e3];generalize lo.map (ae A)=w1;generalize hi.map (ae A)=w2;generalize mx.map (ae A)=w3;simp only[ae,e];generalize A.t x=u at k ⊢;cases u with
  |view n q=>simp only[dl (x:=.ptr n q) (by simpa[I.only] using k)]
  |_=>rfl
 ·rename_i x;simp only[v6] at hm;subst hm;have e:=h x (by simp[bq.b6,av.sl]);have k:=hx x (by simp);simp only[aT,ae,e];generalize A.t x=u at k ⊢;cases u with
  |view n q=>simp only[dl (x:=.ptr n q) (by simpa[I.only] using k)]
  |_=>rfl
 ·rename_i ty z ok x kk;simp only[v6] at hm;subst hm;have e:=h x (by simp[bq.b6,av.sl]);have ek:=cv (x:=kk) (fun m hm=>h m (by simp[bq.b6,hm]));have k:=hx x (by simp);simp only[aT,ek];generalize ae A kk=w;simp only[ae,e,Ul ho k]
 ·rename_i x;simp only[v6] at hm;subst hm;have e:=h x (by simp[bq.b6,av.sl]);have k:=hx x (by simp);simp only[aT,ae,e];generalize A.t x=u at k ⊢;cases u with
  |own n l=>simp only[cO,ho n (by simpa[I.only] using k)]
  |view n q=>simp only[cO,dl (x:=.ptr n q) (by simpa[I.only] using k)]
  |_=>rfl
 ·rename_i esz ps;split at hm
  case isFalse=>cases hm
  rename_i hall;simp only[v6] at hm;subst hm;have hev:ps.map (ae A')=ps.map (ae A):=jT h;have hon:I.cF p (ps.map (ae A))=true:=Bj fun x hx'=>by
   have h1:=X6.1 hall x hx';cases x with
   |c _=>cases h1
   |t s=>exact hx s (by simp only[iw,List.mem_flatMap];exact ⟨_,hx',by simp[av.sl]⟩)
  simp only[aT,hev,qZ ho hon]
 ·rfl
 ·split at hm
  ·rename_i hc;exact jt hc.1
  ·cases hm
theorem w8{au:dX}{A:ab}{g:ar}{p:Nat→Bool}(hi:dD au A)(h:qF au g p=true):∃ xs,lE g.op=some xs∧∀ s∈xs,(A.t s).only p=true:=by
 unfold qF at h;split at h
 case h_2=>cases h
 rename_i xs hm;refine ⟨xs,hm,fun s hs' =>?_⟩;have h1:=X6.1 h s hs';split at h1
 case h_2=>cases h1
 rename_i ns hn;exact jd (fun n h2=>X6.1 h1 n (by simpa using h2)) _ (hi s ns hn)
theorem eZ.uZ{A A':ab}{g:ar}{v:I}{xs:List Nat}{p:Nat→Bool}(h:eZ g A v)(hm:lE g.op=some xs)(ha:dq A A' g.b6)(hx:∀ s∈xs,(A.t s).only p=true)(ho:∀ n,p n=true→A'.o n=A.o n):eZ g A' v:=by
 rcases h with ⟨h,rfl⟩ | ⟨h,k⟩
 ·exact .inl ⟨nU ha h,rfl⟩
 ·exact .inr ⟨lK ha h,by rw[VT hm (ar.iH ha) hx ho];exact k⟩
theorem eZ.rB{au:dX}{A:ab}{g:ar}{v:I}(hi:dD au A)(hg:gR au g=true)(h:eZ g A v):dD au (A.aM g.dst v):=by
 rcases h with ⟨_,rfl⟩ | ⟨_,k⟩
 ·exact hi.put (fun _=>rfl) fun _ _ _ _=>rfl
 ·exact hi.put (fun _=>rfl) (Ba hi hg k)
theorem eZ.cq{A A':ab}{g:ar}{v:I}(h:eZ g A v)(hu:du A A')(ha:dq A A' g.b6):eZ g A' v:=by
 rcases h with ⟨h,rfl⟩ | ⟨h,k⟩
 ·exact .inl ⟨nU ha h,rfl⟩
 ·exact .inr ⟨lK ha h,Bx hu (ar.iH ha) k⟩
theorem Af{au:dX}{g h:ar}(hi:me hs au g h=true):gZ g.op=true∧mz hs au g h=true∧(∀ d,g.dst=some d→d∉h.b6)∧(∀ d,g.dst=some d→h.dst≠some d)∧(∀ d,h.dst=some d→d∉g.b6):=by
 simp only[me,Z0] at hi;obtain ⟨h1,h2,h3,h4⟩:=hi;refine ⟨h1,h2,fun d hd =>?_,fun d hd =>?_,fun d hd =>?_⟩
 ·rw[hd] at h3;simp at h3;exact h3.1
 ·rw[hd] at h3;simp at h3;exact h3.2
 ·rw[hd] at h4;simpa using h4
theorem xe{aA:Bool}{A A':ab}{ρ:List (Nat×Nat)}{os:List (Nat×ah)}(hu:du A A'):∀ {xs cs:List I},fI aA A ρ os xs cs→fI aA A' ρ os xs cs
 | [],[],_=>trivial
 |x::xs,c::cs,h=>⟨h.1.imp id fun h=>zx hu h,xe hu h.2⟩
 | [],_::_,h=>h.elim
 |_::_,[],h=>h.elim
theorem Us{A:ab}{d:Option Nat}{v:I}{ts:List (Nat×I)}{os:List (Nat×ah)}(h:A.aM d v=ay ts os):∃ ts2,A=ay ts2 os∧∀ X:List (Nat×ah),(ay ts2 X).aM d v=ay ts X:=by
 cases d with
 |none=>exact ⟨ts,h,fun _=>rfl⟩
 |some d =>
  have ht:∀ k,(A.aM (some d) v).t k=b8 ts k:=fun k=>by rw[h];rfl
  have ho:A.o=aJ os:=by
   have:(A.aM (some d) v).o=aJ os:=by rw[h];rfl
   rwa [gn] at this
  refine ⟨(d,A.t d)::ts,?_,fun X =>?_⟩
  ·cases A with
   |mk t o =>
    simp only[ay,ab.mk.injEq];refine ⟨funext fun k =>?_,ho⟩;have:=ht k;simp only[ab.aM,ab.put] at this;simp only[b8];by_cases hk:k=d
    ·subst hk;simp
    ·rw[if_neg hk] at this;have hk':¬ d=k:=fun e=>hk e.symm;simp only[hk,if_false];exact this
  ·simp only[ab.aM,ab.put,ay,ab.mk.injEq,and_true]
   funext k
   have:=ht k;simp only[ab.aM,ab.put] at this;by_cases hk:k=d
   ·subst hk;simp at this ⊢;exact this
   ·have hk':¬ d=k:=fun e=>hk e.symm;simp only[b8,hk,if_false]
theorem VO{ρ:List (Nat×Nat)}{os0 os':List (Nat×ah)}{r:I}(hb:dC false ρ [] os0 r os'){n:Nat}{x:ah}(hx:aJ os0 n=some x):aJ (cX ρ os'++os0) n=some x:=by
 rw[rQ];cases hp:pre ρ os' n with
 |none=>exact hx
 |some m =>
  obtain ⟨h1,h2⟩:=kP hp;have:=(hb.nR m h1 (by simp[aB,aJ])).1;rw[h2,hx] at this;cases this
theorem bH.Ha{A B:ab}{j:ar}{v:I}{f:FuncId}{args:List av}{dst:Option Nat}{rest:List ar}(hj:gZ j.op=true)(hv:eZ j A v)(hB:B=A.aM j.dst v)(hf:hs.contains f=false)(hag:dq A B (iw args))(hd:∀ d,j.dst=some d→dst≠some d)(hr:∀ d,dst=some d→d∉j.b6)
  (h:bH P Y hs K (.call f (args.map (ae B)) (bD true B (args.map (ae B))) (bD false B (args.map (ae B))) dst rest B)):bH P Y hs K (.call f (args.map (ae A)) (bD true A (args.map (ae A))) (bD false A (args.map (ae A))) dst (j::rest) A):=by
 have eo:B.o=A.o:=by rw[hB,gn]
 have cq:du B A:=fun n x hx=>by rwa [←eo]
 have up':du A B:=fun n x hx=>by rwa [eo]
 have eav:args.map (ae B)=args.map (ae A):=jT hag;rw[eav] at h;have cont:∀ r:I,bH P Y hs K (ao rest (B.aM dst r))→bH P Y hs K (ao (j::rest) (A.aM dst r)):=fun r hw=>by
  have h1:eZ j (A.aM dst r) v:=hv.cq (fun n x hx=>by rwa [gn]) (kQ hr);rw[h1.to hj,nZ (fun d hd'=>fun e=>hd d e hd'),←hB];exact hw
 generalize e1:bD true B (args.map (ae A))=a1 at h;generalize e2:bD false B (args.map (ae A))=a2 at h;generalize hBm:B=B0 at h;cases h with
 |flat r hc hfl hw =>
  subst hBm;rw[jW cq e1];exact .flat r hc hfl (cont r hw)
 |lead r hc hw =>
  subst hBm;rw[jW cq e2];exact .lead r hc (cont r hw)
 |bx ρ cargs post hc hg ha hb hw =>
  rename_i ts os0;rw[hB] at hBm;obtain ⟨ts2,hA,hts⟩:=Us hBm;have hA':=hA;clear cont;subst hA;refine .bx ρ cargs post hc hg (xe (A:=ay ts os0) (A':=ay ts2 os0) (fun n x hx=>hx) ha) hb fun r os' hp =>?_;have h1:eZ j ((ay ts2 (cX ρ os'++os0)).aM dst (r.aR (bp ρ))) v:=hv.cq (fun n x hx=>by
   rw[gn];exact VO (hb r os' hp) hx) (fun k hk=>by
    have:=kQ (A:=ay ts2 (cX ρ os'++os0)) (v:=r.aR (bp ρ)) hr k hk;rw[this];rfl)
  rw[h1.to hj,nZ (fun d hd'=>fun e=>hd d e hd'),hts];exact hw r os' hp
 |vg aA ρ os cargs post hfs =>
  rw[hf] at hfs;cases hfs
theorem bH.qj{au:dX}{A:ab}{j g:ar}{rest:List ar}(hinv:dD au A)(hi:me hs au j g=true)(hw:bH P Y hs K (ao (j::g::rest) A)):bH P Y hs K (ao (g::j::rest) A):=by
 obtain ⟨hj,hl,i1,i2,i3⟩:=Af hi;obtain ⟨v,hv,hw⟩:=bH.vZ hj hw;have ag:dq (A.aM j.dst v) A g.b6:=(kQ i1).symm;have ag':dq A (A.aM j.dst v) g.b6:=kQ i1;have cq:du (A.aM j.dst v) A:=fun n x hx=>by rwa [gn] at hx
 have up':∀ (d:Option Nat) (u:I),du A (A.aM d u):=fun d u n x hx=>by rwa [gn]
 by_cases hsg:gZ g.op=true
 ·obtain ⟨u,hu,hw⟩:=bH.vZ hsg hw;rw[(hu.cq cq ag).to hsg,(hv.cq (up' _ _) (kQ i3)).to hj,←nZ i2];exact hw
 ·-- the guard
  have guard:(ft (A.aM j.dst v) g∧ao (g::rest) (A.aM j.dst v)=ao rest ((A.aM j.dst v).aM g.dst .undef))∨(pass (A.aM j.dst v) g∧ao (g::rest) (A.aM j.dst v)=aU (A.aM j.dst v) g.dst g.op rest (ao rest))∨ao (g::rest) (A.aM j.dst v)=.fail:=by
   cases hg:g.guard with
   |none=>exact .inr (.inl ⟨by simp only[pass,hg],by simp only[ao,hg]⟩)
   |some tb =>
    obtain ⟨t,b⟩:=tb;cases ht:(A.aM j.dst v).t t with
    |bool b' =>
     by_cases hbb:b'=b
     ·subst hbb;have hp:pass (A.aM j.dst v) g:=by simp only[pass,hg,ht]
      exact .inr (.inl ⟨hp,lZ hp⟩)
     ·have hn:ft (A.aM j.dst v) g:=by simp only[ft,hg];exact .inl (by rw[ht,tD hbb])
      exact .inl ⟨hn,qE hn⟩
    |undef =>
     have hn:ft (A.aM j.dst v) g:=by simp only[ft,hg];exact .inr ht
     exact .inl ⟨hn,qE hn⟩
    |_=>exact .inr (.inr (by simp only[ao,hg,ht]))
  rcases guard with ⟨hn,he⟩ | ⟨hp,he⟩ | he
  ·rw[he] at hw;rw[qE (nU ag hn),(hv.cq (up' _ _) (kQ i3)).to hj,←nZ i2];exact hw
  ·rw[he] at hw;rw[lZ (lK ag hp)];obtain ⟨dst,op,gd⟩:=g;simp only at hw hsg i2 i3 ⊢;cases op with
   |alloc z =>
    cases dst with
    |none=>simp only[aU] at hw;cases hw
    |some d =>
    simp only[aU] at hw ⊢;split at hw
    case h_2=>cases hw
    rename_i ho;rw[gn] at ho;simp only[ho];have h1:eZ j ((A.aP d (.box z)).put d (.ptr d [])) v:=hv.cq (fun n y hy=>by
     have:n≠d:=fun he=>by rw[he,ho] at hy;cases hy
     simp only[ab.put,ab.aP,this,if_false];exact hy) (fun k hk=>by
     have:k≠d:=fun he=>i3 d rfl (he▸hk);simp only[ab.put,ab.aP,this,if_false])
    rw[h1.to hj];have e:((A.aM j.dst v).aP d (.box z)).put d (.ptr d [])=((A.aP d (.box z)).put d (.ptr d [])).aM j.dst v:=by
     cases hgd:j.dst with
     |none=>rfl
     |some e =>
      have hne:e≠d:=fun he=>i2 e hgd (by rw[he]);simp only[ab.aM,ab.put,ab.aP,ab.mk.injEq,and_true]
      funext k
      by_cases h1:k=e <;>by_cases h2:k=d <;>simp_all
    rw[←e];exact hw
   |box x =>
    have ex:ae (A.aM j.dst v) x=ae A x:=cv (ar.iH ag');cases dst with
    |none=>simp only[aU] at hw;cases hw
    |some d =>
    simp only[aU] at hw ⊢;split at hw
    case h_2=>cases hw
    rename_i ho;rw[gn] at ho;simp only[ho];rw[ex] at hw;split at hw
    case isFalse=>cases hw
    rename_i hval;rw[if_pos hval];have h1:eZ j ((A.aP d (.box (ae A x))).put d (.ptr d [])) v:=hv.cq (fun n y hy=>by
     have:n≠d:=fun he=>by rw[he,ho] at hy;cases hy
     simp only[ab.put,ab.aP,this,if_false];exact hy) (fun k hk=>by
     have:k≠d:=fun he=>i3 d rfl (he▸hk);simp only[ab.put,ab.aP,this,if_false])
    rw[h1.to hj];have e:((A.aM j.dst v).aP d (.box (ae A x))).put d (.ptr d [])=((A.aP d (.box (ae A x))).put d (.ptr d [])).aM j.dst v:=by
     cases hgd:j.dst with
     |none=>rfl
     |some e =>
      have hne:e≠d:=fun he=>i2 e hgd (by rw[he]);simp only[ab.aM,ab.put,ab.aP,ab.mk.injEq,and_true]
      funext k
      by_cases h1:k=e <;>by_cases h2:k=d <;>simp_all
    rw[←e];exact hw
   |eC x =>
    have ex:ae (A.aM j.dst v) x=ae A x:=cv (ar.iH ag');simp only[aU] at hw ⊢;rw[ex] at hw;cases hse:kW (ae A x) with
    |none=>rw[hse] at hw;simp only[gW] at hw;cases hw
    |some ys =>
    rw[hse] at hw;cases dst with
    |none=>simp only[gW] at hw;cases hw
    |some d =>
    simp only[gW] at hw ⊢;rw[gn] at hw;split at hw
    case h_2=>cases hw
    rename_i ho;refine .any fun m hm =>?_;have hw:=hw.qD m hm;generalize hbx:ah.box (.agg (ys++List.replicate m (.int .u8 0)))=aA at hw ⊢;generalize hvw:I.view d [] 1 0 ys.length=vw at hw ⊢;have h1:eZ j ((A.aP d aA).aM (some d) vw) v:=hv.cq (fun n y hy=>by
     have:n≠d:=fun he=>by rw[he,ho] at hy;cases hy
     simp only[ab.aM,ab.put,ab.aP,this,if_false];exact hy) (fun k hk=>by
     have:k≠d:=fun he=>i3 d rfl (he▸hk);simp only[ab.aM,ab.put,ab.aP,this,if_false])
    rw[h1.to hj];have e:((A.aM j.dst v).aP d aA).aM (some d) vw=((A.aP d aA).aM (some d) vw).aM j.dst v:=by
     cases hgd:j.dst with
     |none=>rfl
     |some e =>
      have hne:e≠d:=fun he=>i2 e hgd (by rw[he]);simp only[ab.aM,ab.put,ab.aP,ab.mk.injEq,and_true]
      funext k
      by_cases h1:k=e <;>by_cases h2:k=d <;>simp_all
    rw[←e];exact hw
   |call f args =>
    simp only[aU] at hw ⊢;refine bH.Ha hj hv rfl (by simpa[mz,nP] using hl) (ar.iH ag') i2 i3 hw
   |aV s y u =>
    cases dst with
    |some d=>simp only[aU] at hw;cases hw
    |none =>
    have ey:ae (A.aM j.dst v) y=ae A y:=cv (ar.iH ag').l;have eu:ae (A.aM j.dst v) u=ae A u:=cv (ar.iH ag').r;simp only[aU] at hw ⊢;rw[ey,eu,gn] at hw;cases hx:ae A y <;>simp only[hx] at hw ⊢ <;>try (cases hw;done)
    rename_i n q;cases ho:A.o n with
    |none=>rw[ho] at hw;cases hw
    |some ob =>
    rw[ho] at hw;cases ob <;>simp only at hw ⊢ <;>try (cases hw;done)
    rename_i b;cases hb:b.at q with
    |none=>rw[hb] at hw;cases hw
    |some old =>
    rw[hb] at hw;simp only at hw ⊢;split at hw
    case isFalse=>cases hw
    rename_i hok;rw[if_pos hok];have h1:eZ j (A.aP n (.box (b.dp q (ae A u)))) v:=by
     have none0:lE j.op=some []→eZ j (A.aP n (.box (b.dp q (ae A u)))) v:=fun hm=>hv.uZ (p:=fun _=>false) hm (fun _ _=>rfl) (fun s hs'=>by cases hs') (fun m hm=>by cases hm);cases y with
     |c y =>
      simp only[mz,nP,gZ,Bool.false_or] at hl;split at hl
      ·rename_i hm;exact none0 hm
      ·cases hl
     |t y =>
      simp only[mz,nP,gZ,Bool.false_or] at hl;split at hl
      ·rename_i hm;exact none0 hm
      ·split at hl
       case h_2=>cases hl
       rename_i ms hms;obtain ⟨xs,hm,hx2⟩:=w8 hinv hl;refine hv.uZ hm (fun _ _=>rfl) hx2 fun m hm2 =>?_;have hn:=hinv y ms hms;simp only[ae] at hx;rw[hx] at hn;have:m≠n:=fun e=>by subst e;simp[I.only] at hn hm2;exact hm2 hn
       simp only[ab.aP,if_neg this]
    rw[h1.to hj];have e:(A.aM j.dst v).aP n (.box (b.dp q (ae A u)))=(A.aP n (.box (b.dp q (ae A u)))).aM j.dst v:=by cases j.dst <;>rfl
    rw[←e];exact hw
   |dK e esz bytes z s x =>
    have hag:dq A (A.aM j.dst v) (s.sl++x.sl):=ar.iH ag';have he2:aU (A.aM j.dst v) dst (.dK e esz bytes z s x) rest (ao rest)=aU A dst (.dK e esz bytes z s x) (j::rest) fun B=>ao rest (B.aM j.dst v):=by
     cases hjd:j.dst with
     |none=>rfl
     |some d =>
      rw[hjd] at hag;exact Fm (fun e=>i2 d hjd e) hag rest (j::rest) (ao rest)
    rw[he2] at hw;have ju:∀ B,qu A dst (ae A s) B→ao (j::rest) B=ao rest (B.aM j.dst v):=fun B hB=>by
     have hagB:dq A B j.b6:=fun k hk=>hB.1 k fun e=>i3 k e hk;have:eZ j B v:=by
      simp only[mz,nP,gZ,Bool.false_or,Bool.or_eq_true] at hl;rcases hl with hl | hl
      ·obtain ⟨xs,hm,hx2⟩:=w8 hinv hl;exact hv.uZ hm hagB hx2 fun m hm2=>by cases hm2
      ·have:=mW hinv hl;exact hv.cq (hB.2 (by simpa using this)) hagB
     rw[this.to hj]
    rcases xb A dst e esz bytes z s x (j::rest) with h1 | ⟨B,h1,h2⟩ | ⟨p,bl,h1,h2⟩
    ·rw[h1] at hw;cases hw
    ·rw[h1] at hw ⊢;rw[ju B h2];exact hw
    ·rw[h1] at hw ⊢;exact .any fun m hm=>by rw[ju _ (h2 m)];exact hw.qD m hm
   |_=>first | exact absurd rfl hsg | (simp[mz,nP,gZ] at hl)
  ·rw[he] at hw;cases hw
theorem bH.oN{au:dX}{g:ar} : ∀ {l:List ar} {r:List ar} {A:ab},dD au A→(∀ j∈l,me hs au j g=true∧gR au j=true)→bH P Y hs K (ao (l++g::r) A)→bH P Y hs K (ao (g::(l++r)) A)
 | [],r,A,_,_,h=>h
 |j::l,r,A,hinv,hi,h=>by
  have hj:=(Af (hi j (by simp)).1).1;obtain ⟨v,hv,h2⟩:=bH.vZ (g:=j) (rest:=l++g::r) hj h;have h3:=bH.oN (l:=l) (r:=r) (hv.rB hinv (hi j (by simp)).2) (fun k hk=>hi k (by simp[hk])) h2;refine bH.qj hinv (hi j (by simp)).1 ?_;rw[hv.to hj];exact h3
end
def r4:List Nat→Bool
 | []=>true
 |a::l => !l.contains a&&r4 l
def qz(hs:List FuncId)(au:dX)(gs:List ar)(cl:List Nat):List Nat→List Nat→Bool
 |_,[]=>true
 |before,i::σ=>(before.all fun j=>(cl.getD i 0).testBit j||me hs au (gs.getD j default) (gs.getD i default))&&qz hs au gs cl (i::before) σ
def si(hs:List FuncId)(au:dX)(on:List (List Nat))(gs:List ar)(cl:List Nat)(σ:List Nat):Bool :=
 (Nat.beq σ.length gs.length&&(r4 σ&&(σ.all (fun i=>decide (i<gs.length))&&((List.range gs.length).all (fun i=>σ.contains i)&&gs.all fun g=>sf g.op&&gR au g))))&&(qz hs au gs cl [] σ&&(List.range gs.length).all fun i=>(on.getD i []).all (fun k=>decide (k<i))&&Nat.beq (cl.getD i 0) (mX cl (on.getD i [])))
theorem AT:∀ {l:List Nat},r4 l=true→l.Nodup
 | [],_=>List.nodup_nil
 |a::l,h=>by
  simp only[r4,Z0,Bool.not_eq_true',List.contains_eq_mem,decide_eq_false_iff_not] at h;exact List.nodup_cons.2 ⟨h.1,AT h.2⟩
theorem w6{hs:List FuncId}{au:dX}{gs:List ar}{cl:List Nat} : ∀ {σ before:List Nat},qz hs au gs cl before σ=true→∀ s1 i s2,σ=s1++i::s2→∀ j,j∈before∨j∈s1→(cl.getD i 0).testBit j=true∨me hs au (gs.getD j default) (gs.getD i default)=true
 | [],_,_,s1,i,s2,e,_,_=>by cases s1 <;>cases e
 |a::σ,before,h,s1,i,s2,e,j,hj=>by
  simp only[qz,Z0,X6,Bool.or_eq_true] at h;cases s1 with
  |nil =>
   simp only[X3,Y6] at e;obtain ⟨rfl,rfl⟩:=e;rcases hj with hj | hj
   ·exact h.1 j hj
   ·cases hj
  |cons b s1 =>
   simp only[Y3,Y6] at e;obtain ⟨rfl,rfl⟩:=e;refine w6 h.2 s1 i s2 rfl j ?_;rcases hj with hj | hj
   ·exact .inl (List.mem_cons_of_mem _ hj)
   ·rcases zz3.1 hj with hj | hj
    ·exact .inl (by rw[hj];exact List.mem_cons_self)
    ·exact .inr hj
def gV(σ:List Nat)(listed:Array Bool):List Nat:=σ.filter fun i => !listed.getD i true
def mD(gs:List ar)(σ:List Nat)(listed:Array Bool):List ar:=(gV σ listed).map fun i=>gs.getD i default
theorem Wh{σ:List Nat}{listed:Array Bool}{i:Nat}(hn:σ.Nodup)(hi:i∈σ)(hl:i<listed.size)(hu:listed.getD i true=false):∃ s1 s2,σ=s1++i::s2∧gV σ listed=(s1.filter fun j => !listed.getD j true)++i::(s2.filter fun j => !listed.getD j true) ∧
  gV σ (listed.setIfInBounds i true)=(s1.filter fun j => !listed.getD j true)++(s2.filter fun j => !listed.getD j true):=by
 obtain ⟨s1,s2,rfl⟩:=List.append_of_mem hi;have same:∀ j,j≠i→(listed.setIfInBounds i true).getD j true=listed.getD j true:=fun j hj=>getD_set_ne true (Ne.symm hj);have jv:(listed.setIfInBounds i true).getD i true=true:=by simp[hl]
 have hnd:=List.nodup_append.1 hn;have h1:∀ j∈s1,j≠i:=fun j hj=>hnd.2.2 j hj i List.mem_cons_self;have h2:∀ j∈s2,j≠i:=fun j hj e=>(List.nodup_cons.1 hnd.2.1).1 (e▸hj);refine ⟨s1,s2,rfl,?_,?_⟩
 ·simp only[gV,List.filter_append,List.filter_cons,hu,Bool.not_false,if_true]
 ·simp only[gV,List.filter_append,List.filter_cons,jv,Bool.not_true,Z5,if_false]
  congr 1
  ·exact List.filter_congr fun j hj=>by rw[same j (h1 j hj)]
  ·exact List.filter_congr fun j hj=>by rw[same j (h2 j hj)]
structure wW (hs:List FuncId) (au:dX) (l:List Oper) (gs:List ar) (σ:List Nat):Prop where
 UB:σ.Nodup
 lt:∀ i∈σ,i<gs.length
 all:∀ i,i<gs.length→i∈σ
 ok:∀ g∈gs,sf g.op=true∧gR au g=true
 len:σ.length=gs.length
 kv:∀ i o,l[i]?=some o→∀ k∈dF o,k<i
 uN:∀ (S:Nat→Prop),(∀ i o,l[i]?=some o→S i→∀ k∈dF o,S k)→∀ s1 i s2 o,σ=s1++i::s2→l[i]?=some o→(∀ k∈dF o,S k)→∀ j∈s1,¬ S j→me hs au (gs.getD j default) (gs.getD i default)=true
theorem VK{hs:List FuncId}{au:dX}{l:List Oper}{gs:List ar}{cl σ:List Nat}(hlen:gs.length=l.length)(h:si hs au (l.map dF) gs cl σ=true):wW hs au l gs σ:=by
 simp only[si,Z0,X6,decide_eq_true_eq,List.mem_range,List.contains_eq_mem] at h;obtain ⟨⟨h1,h2,h3,h4,h5⟩,h6,h7⟩:=h;have bA:∀ i o,l[i]?=some o→(∀ k∈dF o,k<i)∧(∀ j,(cl.getD i 0).testBit j=true→j∈dF o∨∃ k∈dF o,(cl.getD k 0).testBit j=true):=by
  intro i o ho;have hi:i<l.length:=(Z6.1 ho).1;have h8:=h7 i (by omega);have hon:(l.map dF).getD i []=dF o:=by simp[Y7,ho]
  rw[hon] at h8;have hb:=Nat.eq_of_beq_eq_true h8.2;exact ⟨h8.1,fun j hj=>wB (by rw[←hb];exact hj)⟩
 refine ⟨AT h2,h3,h4,h5,Nat.eq_of_beq_eq_true h1,fun i o ho=>(bA i o ho).1,?_⟩;intro S hS s1 i s2 o e ho hon j hj hnj;have key:∀ n i o,i≤n→l[i]?=some o→(∀ k∈dF o,S k)→∀ j,(cl.getD i 0).testBit j=true→S j:=by
  intro n
  induction n with
  |zero =>
   intro i o hi ho hon j hj;obtain ⟨h8,h9⟩:=bA i o ho;rcases h9 j hj with h | ⟨k,hk,_⟩
   ·exact hon j h
   ·have:=h8 k hk;omega
  |succ n ih =>
   intro i o hi ho hon j hj;obtain ⟨h8,h9⟩:=bA i o ho;rcases h9 j hj with h | ⟨k,hk,hjk⟩
   ·exact hon j h
   ·have hki:=h8 k hk;have hkl:k<l.length:=Nat.lt_trans hki (Z6.1 ho).1;obtain ⟨ok,hok⟩:∃ ok,l[k]?=some ok:=⟨l[k],Y8 hkl⟩
    exact ih k ok (by omega) hok (hS k ok hok (hon k hk)) j hjk
 rcases w6 h6 s1 i s2 e j (.inr hj) with h | h
 ·exact absurd (key i i o (Z3 _) ho hon j h) hnj
 ·exact h
section
variable {c:cd}
theorem Si{K:ab→Prop}{hs:List FuncId}{au:dX}{bh:Array Oper}{Q:Exit→Act→World→Prop}{o:Oper}{g:ar}{rest:List ar}{A:ab}{a:Act}{w:World}{Kw:Act→World→Prop}(hg:kD c.P c.n bh o=some g)(hi:dD au A)(ho:sf g.op=true∧gR au g=true)(hwp:bH c.P c.Y hs K (ao (g::rest) A))(hs':bz c A a w)
  (hK:∀ B a' w',bH c.P c.Y hs K (ao rest B)→dD au B→bz c B a' w'→Kw a' w'):if Region.wanted o (yielded bh a.tmps) then o.wpIn c.bl 9 c.P a w Kw Q else (∀ f,o.about c.P w a.eval=some f→c.bl.fn f)∧Kw (a.put o.dst undef) w:=by
 obtain ⟨h1,h2,h3,h4⟩:=nm hg;have step:bH c.P c.Y hs K (aU A g.dst g.op rest (ao rest))→o.wpIn c.bl 9 c.P a w Kw Q:=fun h =>
  rq h1 h2.symm (by rw[h2];exact h3) (bH.one (Y:=c.Y) hi ho.1 ho.2 h) hs' (fun B a' w' hw hs2=>by
   cases hw with
   |done hk=>exact hK B a' w' hk.1 hk.2 hs2)
 simp only[ao] at hwp;rcases h4 with ⟨h5,h6⟩ | ⟨j,b,t,h5,h6,h7⟩
 ·rw[h6] at hwp;have hw:Region.wanted o (yielded bh a.tmps)=true:=by simp[Region.wanted,h5]
  rw[hw,if_pos rfl];exact step hwp
 ·rw[h7] at hwp;simp only at hwp;split at hwp
  ·rename_i b' hb';rw[rz hs' h5 h6 hb'];split at hwp
   ·rename_i hbb;subst hbb;simp only[BEq.rfl,if_true];exact step hwp
   ·rename_i hbb;have:(b'==b)=false:=by simpa using hbb
    rw[this];simp only[Z5,if_false];exact ⟨fun f _=>kK c f,hK _ _ _ hwp (hi.put (fun _=>rfl) fun _ _ _ _=>rfl) (by rw[h2];exact hs'.lM h3)⟩
  ·rename_i hb';rw[rA hs' h5 h6 hb'];simp only[Z5,if_false];exact ⟨fun f _=>kK c f,hK _ _ _ hwp (hi.put (fun _=>rfl) fun _ _ _ _=>rfl) (by rw[h2];exact hs'.lM h3)⟩
  ·cases hwp
theorem Fa{K:ab→Prop}{fs:List FuncId}{au:dX}{bh:Array Oper}{gs:List ar}{σ:List Nat}{Q:Exit→Act→World→Prop}(hQ:∀ B a w,K B→bz c B a w→Q .normal a w)(hgs:e9 c.P c.n bh bh.toList=some gs)(hd:wW fs au bh.toList gs σ) :
  ∀ (fuel:Nat) (listed:Array Bool) (A:ab) (a:Act) (w:World),listed.size=bh.size→(∀ i o,bh.toList[i]?=some o→listed.getD i false=true→∀ k∈dF o,listed.getD k false=true)→(gV σ listed).length≤fuel →
   dD au A→bH c.P c.Y fs K (ao (mD gs σ listed) A)→bz c A a w→wpAnyIn c.bl 9 c.P .any bh Q fuel listed a w:=by
 obtain ⟨hlen,hat⟩:=lu hgs;have onOf_mem:∀ (o:Oper) (e:Edge),e∈o.after→Region.binds .any e=true→e.on∈dF o:=fun o e he hb=>by
  simp only[dF,X0,List.mem_filter];exact ⟨e,⟨by simpa using he,hb⟩,rfl⟩
 have of_onOf:∀ (o:Oper) (k:Nat),k∈dF o→∃ e∈o.after,Region.binds .any e=true∧e.on=k:=fun o k hk=>by
  simp only[dF,X0,List.mem_filter] at hk;obtain ⟨e,⟨h1,h2⟩,h3⟩:=hk;exact ⟨e,by simpa using h1,h2,h3⟩
 have hgl:gs.length=bh.size:=by rw[hlen,X1]
 have last:∀ (listed:Array Bool) (A:ab) (a:Act) (w:World),listed.size=bh.size→Region.ready .any bh listed=[]→bH c.P c.Y fs K (ao (mD gs σ listed) A)→bz c A a w→Q .normal a w:=by
  intro listed A a w hsz hr hwp hs;have hnone:gV σ listed=[]:=by
   have all:∀ n,∀ i,i<n→i<bh.size→listed.getD i true=true:=by
    intro n
    induction n with
    |zero=>intro i hi;omega
    |succ n ih =>
     intro i hi his;cases hb:listed.getD i true with
     |true=>rfl
     |false =>
      exfalso
      have ho:bh[i]?=some bh[i]:=Array.getElem?_eq_getElem his;have:i∈Region.ready .any bh listed:=mem_ready.2 ⟨hb,bh[i],ho,fun e he hbd=>by
       have hlt:=hd.kv i bh[i] (by simp) e.on (onOf_mem _ e he hbd);have h1:=ih e.on (by omega) (by omega);have h2:e.on<listed.size:=by omega
       simpa[Array.getD_eq_getD_getElem?,h2] using h1⟩
      rw[hr] at this;cases this
   simp only[gV];refine List.filter_eq_nil_iff.2 fun i hi =>?_;have:=all (i+1) i (by omega) (by rw[←hgl];exact hd.lt i hi);simp only[this,Bool.not_true,Z5,not_false_eq_true]
  simp only[mD,hnone,Y9,ao] at hwp;cases hwp with
  |done hk=>exact hQ A a w hk hs
 intro fuel
 induction fuel with
 |zero =>
  intro listed A a w hsz hcl hcnt hinv hwp hs;have hnone:gV σ listed=[]:=List.length_eq_zero_iff.1 (by omega);have hr:Region.ready .any bh listed=[]:=by
   refine List.eq_nil_iff_forall_not_mem.2 fun i hi =>?_;obtain ⟨h1,o,ho,_⟩:=mem_ready.1 hi;have:i∈gV σ listed:=by
    simp only[gV,List.mem_filter,h1,Bool.not_false,and_true];exact hd.all i (by rw[hgl];exact (Y2.1 ho).1)
   rw[hnone] at this;cases this
  exact ⟨hr,last listed A a w hsz hr hwp hs⟩
 |succ fuel ih =>
  intro listed A a w hsz hcl hcnt hinv hwp hs;refine ⟨fun hr=>last listed A a w hsz hr hwp hs,fun i hi =>?_⟩;obtain ⟨hun,o,ho,hall⟩:=mem_ready.1 hi;have hin:i<bh.size:=(Y2.1 ho).1;obtain ⟨s1,s2,hσ,e1,e2⟩:=Wh hd.UB (hd.all i (by omega)) (by omega) hun;have hol:bh.toList[i]?=some o:=by simpa using ho
  obtain ⟨g,hgi,hcg⟩:=hat i o hol;have hon:∀ k∈dF o,listed.getD k false=true:=fun k hk=>by
   obtain ⟨e,h1,h2,h3⟩:=of_onOf o k hk;exact h3▸hall e h1 h2
  have hgd:gs.getD i default=g:=by simp[Y7,hgi]
  have hwp':bH c.P c.Y fs K (ao (g::mD gs σ (listed.setIfInBounds i true)) A):=by
   simp only[mD,e1,X4,Z4,hgd] at hwp;simp only[mD,e2,X4];refine bH.oN hinv (fun j hj =>?_) hwp;obtain ⟨k,hk,rfl⟩:=X0.1 hj;obtain ⟨hk1,hk2⟩:=List.mem_filter.1 hk;have:=hd.uN (fun k=>listed.getD k false=true) hcl s1 i s2 o hσ hol hon k hk1 (by
    have hks:k<listed.size:=by
     have:=hd.lt k (by rw[hσ];exact List.mem_append_left _ hk1);omega
    simp[Array.getD_eq_getD_getElem?,hks] at hk2 ⊢;exact hk2)
   rw[hgd] at this;refine ⟨this,(hd.ok _ ?_).2⟩;have hkl:=hd.lt k (by rw[hσ];exact List.mem_append_left _ hk1);rw[Y7,Y8 hkl];exact List.getElem_mem _
  unfold wpOpIn;rw[ho];refine Si hcg hinv (hd.ok g (List.mem_of_getElem? hgi)) hwp' hs fun B a' w' hw hiB hs'=>ih _ B a' w' (by simpa using hsz) ?_ ?_ hiB hw hs'
  ·intro m om hom hm k hk;by_cases hmi:m=i
   ·subst hmi;rw[hol,v6] at hom;subst hom;exact getD_set_true (hon k hk)
   ·rw[getD_set_ne false (Ne.symm hmi)] at hm;exact getD_set_true (hcl m om hom hm k hk)
  ·have:(gV σ listed).length=(gV σ (listed.setIfInBounds i true)).length+1:=by
    rw[e1,e2];simp;omega
   omega
def j7(σ:List Nat)(gs:List ar):List ar:=σ.map fun i=>gs.getD i default
theorem U.We{Q:Exit→ab→Prop}{A:ab}{on:List (List Nat)}{gs:List ar}(hs:List FuncId)(au:dX)(cl σ:List Nat)(hd:si hs au on gs cl σ=true)(hi:dD au A)(h:∀ K:ab→Prop,(∀ B,Q .normal B→K B)→bH c.P c.Y hs K (ao (j7 σ gs) A)):U c (.bS (some on) gs) Q A:=by
 intro code hc a w hs';cases code <;>simp only[dL] at hc <;>try (first | (cases hc;done) | ((repeat' split at hc) <;>cases hc;done))
 rename_i id bh draw;split at hc
 ·rename_i gs' hgs;split at hc
  case isFalse=>cases hc
  rename_i hok;simp only[v6,bj.bS.injEq] at hc;obtain ⟨he,rfl⟩:=hc;cases draw with
  |false=>cases he
  |true =>
   simp only[cond_true,v6] at he;subst he;simp only[Bool.not_true,Bool.false_or] at hok;have hp:=VK (lu hgs).1 hd;refine wpIn_region_any hok (Fa (K:=Q .normal) (fun B a w hk hs=>⟨B,hk,hs⟩) hgs hp bh.size (Array.replicate bh.size false) A a _ (by simp) ?_ ?_ hi ?_ ?_)
   ·intro i o _ h
    exfalso
    simp only[Array.getD_eq_getD_getElem?,Array.getElem?_replicate] at h;split at h <;>simp at h
   ·refine Nat.le_trans (List.length_filter_le _ _) ?_;rw[hp.len,(lu hgs).1,X1];exact Z3 _
   ·have hall:gV σ (Array.replicate bh.size false)=σ:=by
     simp only[gV];refine List.filter_eq_self.2 fun i hi =>?_;have h1:=hp.lt i hi;rw[(lu hgs).1,X1] at h1;simp[h1]
    simp only[mD,hall];exact h _ fun _ hb=>hb
   ·obtain ⟨D,E,hs'⟩:=hs';exact ⟨D,E,hs'.grow (w' := { w with drawn:=w.drawn+1 }) ⟨rfl,rfl,rfl,Z3 _,fun _ _=>rfl⟩ (fun _ _ h=>h) (fun _ _ h _=>h) (fun b o h=>hs'.cJ b o h)⟩
 ·cases hc
def jw(ts:List (Nat×I)):dX→Prop
 | []=>True
 |(s,ns)::au=>(b8 ts s).only (fun n=>ns.contains n)=true∧jw ts au
theorem dD.of{ts:List (Nat×I)}{os:List (Nat×ah)}{au:dX}(h:jw ts au):dD au (ay ts os):=by
 intro s ns hn;simp only[ay]
 induction au with
 |nil=>cases hn
 |cons q au ih =>
  obtain ⟨s',ns'⟩:=q;simp only[jw] at h;simp only[gC,List.find?_cons] at hn;split at hn
  ·rename_i e;simp only[Z7,v6] at hn;simp only[beq_iff_eq] at e;subst e hn;exact h.1
  ·exact ih h.2 hn
end
end Go.Abs
namespace Go.Abs
open Go Go.RowKit
open Enc (enc)
theorem WE{P:Program}(w:World)(tS tR e:TypeId)(ht:P.underlying tS=some (.slice e))(size:Nat)(hz:∀ w,(Go.sizeOf e).run P w=.ok size w)
  (a b:Addr) (la ca lb cb:Nat) (hne:a.block≠b.block) (tA tB:TypeId) (kA kB:Nat) (hsa:w.shape? a.block=some (tA,kA+1)) (hsb:w.shape? b.block=some (tB,kB+1)) (hfb:w.frozen? b=false) (hfe:w.frozen? { block:=b.block,off:=kB+1 } = false) :
  (Extern.SlicesOverlaps.overlaps #[tS,tS] #[tR] #[.slice (some a) la ca,.slice (some b) lb cb]).run P w=.ok (.bool false) w:=by
 have hnb:(a.block != b.block)=true:=by simpa using hne
 have hnb':(a.block==b.block)=false:=by simpa using hne
 change Sem.run P (α:=Value) (do
  let some t := (#[tS, tS] : Array TypeId)[0]? | stuck "slices.overlaps: no parameter types"
  let .slice elem ← underlying t | stuck "slices.overlaps: slice type expected"
  let size ←sizeOf elem
  match (some a:Option Addr),(some b:Option Addr) with
  |some a,some b =>
   if la=0∨lb=0∨size=0 then pure (Value.bool false)
   else if a.block != b.block&&(←frozen a)&&(←frozen b) then unsupported .addressObserved
   else do
    if a.block != b.block then do
     noView a;noView b
     if ← mayBeOne a b then return Value.bool ((← choose (.extern "sameAddr.stringBytes" 2)) == 1)
    pure (Value.bool (a.block==b.block&&a.off<b.off+lb*size&&b.off<a.off+la*size))
  |_,_=>pure (Value.bool false)) w=_
 by_cases h0:la=0∨lb=0∨size=0
 ·simp[run_underlying ht,hz,h0]
 ·cases hfa:w.frozen? a <;>cases hfk:w.frozen? { block:=a.block,off:=kA+1 } <;>
   simp[run_underlying ht,hz,h0,hnb,hnb',frozen,noView,viewAt,mayBeOne,stringish,shape,Sem.run,hsa,hsb,hfa,hfb,hfe,hfk]
theorem CW{P:Program}(w:World)(tS tR e:TypeId)(ht:P.underlying tS=some (.slice e))(size:Nat)(hz:∀ w,(Go.sizeOf e).run P w=.ok size w)(a:Option Addr)(b:Addr)(ca lb cb:Nat) :
  (Extern.SlicesOverlaps.overlaps #[tS,tS] #[tR] #[.slice a 0 ca,.slice (some b) lb cb]).run P w=.ok (.bool false) w:=by
 cases a with
 |none =>
  change Sem.run P (α:=Value) (do
   let some t := (#[tS, tS] : Array TypeId)[0]? | stuck "slices.overlaps: no parameter types"
   let .slice elem ← underlying t | stuck "slices.overlaps: slice type expected"
   let size ←sizeOf elem
   pure (Value.bool false)) w=_
  simp[run_underlying ht,hz]
 |some a =>
  change Sem.run P (α:=Value) (do
   let some t := (#[tS, tS] : Array TypeId)[0]? | stuck "slices.overlaps: no parameter types"
   let .slice elem ← underlying t | stuck "slices.overlaps: slice type expected"
   let size ←sizeOf elem
   if (0:Nat)=0∨lb=0∨size=0 then pure (Value.bool false)
   else if a.block != b.block&&(←frozen a)&&(←frozen b) then unsupported .addressObserved
   else do
    if a.block != b.block then do
     noView a;noView b
     if ← mayBeOne a b then return Value.bool ((← choose (.extern "sameAddr.stringBytes" 2)) == 1)
    pure (Value.bool (a.block==b.block&&a.off<b.off+lb*size&&b.off<a.off+0*size))) w=_
  simp[run_underlying ht,hz]
theorem WQ{w:World}{b o:Nat}{v:Value}(h:w.cell? ⟨b,o,none⟩=some v):∃ t k,w.shape? b=some (t,k+1):=by
 simp only[World.cell?] at h;cases hb:w.heap[b]? with
 |none=>rw[hb] at h;cases h
 |some ob =>
  rw[hb] at h;cases ob with
  |cells cs T fr =>
   simp only at h;have hlt:o<cs.size:=(Y2.1 (by simpa using h)).1;exact ⟨T,cs.size-1,by simp only[World.shape?,hb];congr 2;omega⟩
  |_=>cases h
theorem K8{α:Type}[Enc α]{xs:List α}(h:xs≠[])(hs:(Enc.aK α).Am=false):(I.agg (xs.map Enc.enc)).aK.flat=false:=by
 cases xs with
 |nil=>exact absurd rfl h
 |cons x xs=>simp only[Z4,I.aK,I.cI,bK.flat,List.all_cons,Enc.ir,hs,Bool.false_and]
theorem Xn {P : Program} {f : FuncId} {fn : Func} {tS tR e : TypeId} (hf : P.funcs[f]? = some fn) (hname : (fn.name == "runtime.NumGoroutine") = false) (hb : fn.body.isNone = true) (hn : Extern.findNext fn = none) (he : Extern.find fn = some (Extern.SlicesOverlaps.overlaps #[tS, tS] #[tR]))
  (ht:P.underlying tS=some (.slice e)) (hi:(P.info? e).isSome=true) {A:ab} {n sz sz' lo k:Nat} {p:List Nat} {y:I} {es fs:List I} (hA:A.o n=some (.box y)) (hat:y.at p=some (.agg fs)) (hy:y.size≠0) (hsz:sz'≠0) (hfl:y.aK.flat=false):wZ P A f [.slice sz' es,.view n p sz lo k] (.bool false):=by
 intro c a w D E vs hP hs hargs;subst hP;obtain ⟨i,hi⟩:=Y5.1 hi;have hz:∀ w,(Go.sizeOf e).run c.P w=.ok i.size w:=fun w=>by simp[sizeOf,typeInfo,hi]
 cases hargs with
 |cons h1 hrest =>
  cases hrest with
  |cons h2 hnil =>
   cases hnil;rename_i v1 v2;refine ⟨.bool false,?_,j0 false⟩;rw[run_callFunc_extern hf hname hb hn he];obtain ⟨ad,cap,rfl,c1,c2,c3,c4⟩:=kb h1;obtain ⟨y',b,cs,T,off,d1,d2,d3,q1,q2,q3,q4,q5,q6,q7,q8,q9,q10,q11,q12,rfl⟩:=hs.view (fs:=fs) h2 (by simp only[bN,hA,hat]);rw[hA] at q1;simp only[v6,ah.box.injEq] at q1;subst q1;rcases c3 with rfl | ⟨b1,off1,cs1,rfl,r1,im⟩
   ·rw[X2,CW w tS tR e ht i.size hz];rfl
   ·cases es with
    |nil=>rw[X2,CW w tS tR e ht i.size hz];rfl
    |cons e0 es =>
     have hl:=aC.length _ _ im;have he0:=c4 e0 (by simp);have hpos:0<cs1.length:=by rw[hl];simp only[I.sizes];omega
     have hc:=r1 0 cs1[0] (Y8 hpos);obtain ⟨tA,kA,hsa⟩:=WQ hc.1;have ho:=hs.bx n;rw[hA] at ho;obtain ⟨b',cs',T',k1,k2,k3,k4,k5⟩:=ho;rw[q2] at k1;simp only[v6,br.aA.injEq,and_true] at k1;subst k1;have hne:b1≠b:=fun e1=>k5 _ (e1▸hc.2);have hcs:cs.size≠0:=by
      have:=af.length _ _ q9;rw[X1] at this;omega
     replace q3:=q3.plain hfl
     obtain ⟨kB,hkB⟩:∃ kB,cs.size=kB+1:=⟨cs.size-1,by omega⟩
     rw[WE w tS tR e ht i.size hz ⟨b1,off1,none⟩ ⟨b,off+lo*sz,none⟩ _ _ _ _ hne tA T kA kB hsa (by simp only[World.shape?,q3,hkB]) (by simp[World.frozen?,q3]) (by simp[World.frozen?,q3])];rfl
noncomputable def tr(A:ab)(d:Option Nat)(esz bytes:Nat)(z s:I)(rest:List ar):I→bW
 | .int _ m=>oJ A d esz bytes z m.toNat s (cO A esz s) (ao rest)
 |_=>.fail
theorem UH(A:ab)(d:Option Nat)(rest:List ar)(e esz bytes:Nat)(z:I)(s n:av):bn A d (.jl e esz bytes z s n) rest=tr A d esz bytes z (ae A s) rest (ae A n):=by
 simp only[bn,aU];cases ae A n <;>rfl
theorem Vm(A:ab)(d:Option Nat)(rest:List ar)(f:FuncId)(args:List av):bn A d (.gr f args) rest=.gr f (args.map (ae A)) d rest A:=rfl
def qM(A:ab):I→Option I
 | .nils _ | .c0 _=>some (.int .i64 ((0:Nat):Int))
 | .view n p _ lo _=>match en (dE p (A.o n)) with
  |some fs=>some (.int .i64 ((fs.length-lo:Nat):Int))
  |none=>none
 |_=>none
theorem UO(A:ab)(d:Option Nat)(rest:List ar)(x:av):bn A d (.cap x) rest=b7 (qM A (ae A x)) (cB d rest A):=by
 simp only[bn,aU,aT];cases ae A x <;>try rfl
 rename_i n p sz l0 k;simp only[qM,jr,fk];cases dE p (A.o n) with
 |none=>rfl
 |some c=>cases c <;>rfl
theorem lG(A:ab)(d:Option Nat)(rest:List ar)(esz:Nat)(x y:av):bn A d (.fL esz x y) rest=jQ A d esz (ao rest) (ae A x) (jK A esz (ae A y)):=rfl
section
variable {α:Type} [Enc α] {P:Program} {Y:Value→List I→List (Nat×ah)→bY→Prop} {K:ab→Prop} {A:ab} {rest:List ar} {esz bytes:Nat}
theorem Hg{n lo k sz:Nat}{xs:List α}(ho:A.o n=some (.box (.agg (xs.map enc)))):qM A (.view n [] sz lo k)=some (.int .i64 ((xs.length-lo:Nat):Int)):=by
 have h2:(I.agg (xs.map (enc (α:=α)))).at []=some (.agg (xs.map enc)):=rfl;simp only[qM,dE,ho,h2,en,I.cZ,Z2]
theorem mR{n lo k:Nat}{xs:List α}(ho:A.o n=some (.box (.agg (xs.map enc))))(h:lo+k≤xs.length):cO A esz (.view n [] esz lo k)=some (((xs.drop lo).take k).map enc):=by
 have h1:bN A (.ptr n [])=some (.agg (xs.map enc)):=by simp only[bN,ho];rfl
 simp only[cO,h1,Z2];rw[if_pos ⟨h,trivial⟩,List.map_take,List.map_drop]
theorem Df{xs ys:List α}(h:xs.length=ys.length):I.cI (xs.map enc)=I.cI (ys.map enc):=by
 rw[vW,vW,h]
theorem nr{d:Option Nat}{n lo l c:Nat}{xs ys:List α}(ho:A.o n=some (.box (.agg (xs.map enc))))(hl:lo+l≤xs.length)(hc:min ys.length l=c) :
  jQ A d esz (ao rest) (.view n [] esz lo l) (some (ys.map enc))=ao rest ((A.aP n (.box (.agg ((xs.take lo++(ys.take c++xs.drop (lo+c))).map enc)))).aM d (.int .i64 (c:Nat))):=by
 have h2:(I.agg (xs.map (enc (α:=α)))).at []=some (.agg (xs.map enc)):=rfl;have h1:I.cI ((ys.map (enc (α:=α))).take c)=I.cI (((xs.map (enc (α:=α))).drop lo).take c):=by
  rw[←List.map_take,←List.map_drop,←List.map_take];exact Df (by rw[Z9,Z9,zz1];omega)
 have hc':min (ys.map (enc (α:=α))).length l=c:=by rw[Z2];exact hc
 simp only[jQ,ho,h2,hc'];rw[if_pos ⟨rfl,by rw[hc'];exact h1⟩];have h3:((ys.map (enc (α:=α))).take c).length=c:=by rw[Z9,Z2];omega
 simp only[gX,fi,h3,X4,List.map_take,List.map_drop]
theorem aX.Fp{d:Nat}(z:α)(hs:Enc.sz α=esz){n l m:Nat}{xs:List α}(ho:A.o n=some (.box (.agg (xs.map enc))))(hl:l≤xs.length)(hm:0<m)(hr:xs.length<l+m)(hf:A.o d=none)(hb:(l+m)*bytes≤140737488355328)(hml:l+m≤maxLen)
  (h:∀ q,aX P Y false K (ao rest ((A.aP d (.box (.agg ((xs.take l++(List.replicate m z++List.replicate q z)).map enc)))).aM (some d) (.view d [] esz 0 (l+m))))):aX P Y false K (tr A (some d) esz bytes (enc z) (.view n [] esz 0 l) rest (.int .i64 (m:Nat))):=by
 have h1:=mR (A:=A) (esz:=esz) (lo:=0) (k:=l) ho (by omega);have h2:(I.agg (xs.map (enc (α:=α)))).at []=some (.agg (xs.map enc)):=rfl;have h4:(xs.take l).length=l:=by rw[Z9];omega
 simp only[tr,h1,List.drop_zero,oJ,ho,h2,Z2,Int.toNat_natCast];rw[if_pos ⟨hm,by omega⟩];simp only[eK,hf,Z2,h4,List.length_replicate];rw[if_pos ⟨hb,hml⟩];refine .any rfl fun q _ =>?_;have:=h q;simp only[X4,List.map_replicate] at this;exact this
theorem xa{d:Option Nat}{e:Nat}(z:I)(hs:Enc.sz α=esz){n l:Nat}{xs ys:List α}(hy:ys≠[])(ho:A.o n=some (.box (.agg (xs.map enc))))(hr:l+ys.length≤xs.length) :
  eL A d e esz bytes z (enc ys) rest (.view n [] esz 0 l)=ao rest ((A.aP n (.box (.agg ((xs.take l++(ys++xs.drop (l+ys.length))).map enc)))).aM d (.view n [] esz 0 (l+ys.length))):=by
 have h1:=mR (A:=A) (esz:=esz) (lo:=0) (k:=l) ho (by omega);have h2:(I.agg (xs.map (enc (α:=α)))).at []=some (.agg (xs.map enc)):=rfl;have h3:I.cI (ys.map (enc (α:=α)))=I.cI (((xs.map (enc (α:=α))).drop l).take ys.length):=by
  rw[←List.map_drop,←List.map_take];exact Df (by rw[Z9,zz1];omega)
 simp only[eL,h1,ke A esz ys hs,dY];rw[if_neg (by simpa using hy)];simp only[ho,h2,Z2,Z8];rw[if_pos hr,if_pos ⟨rfl,by rw[Z2,Z8];exact h3⟩];simp only[gX,fi,Z2,X4,List.map_take,List.map_drop]
theorem aX.Ff{d e:Nat}(z:α)(hs:Enc.sz α=esz){n l:Nat}{xs ys:List α}(hy:ys≠[])(ho:A.o n=some (.box (.agg (xs.map enc))))(hl:l≤xs.length)(hr:xs.length<l+ys.length)(hf:A.o d=none)(hb:(l+ys.length)*bytes≤140737488355328)(hml:l+ys.length≤maxLen)
  (h:∀ q,aX P Y false K (ao rest ((A.aP d (.box (.agg ((xs.take l++(ys++List.replicate q z)).map enc)))).aM (some d) (.view d [] esz 0 (l+ys.length))))):aX P Y false K (eL A (some d) e esz bytes (enc z) (enc ys) rest (.view n [] esz 0 l)):=by
 have h1:=mR (A:=A) (esz:=esz) (lo:=0) (k:=l) ho (by omega);have h2:(I.agg (xs.map (enc (α:=α)))).at []=some (.agg (xs.map enc)):=rfl;have h4:(xs.take l).length=l:=by rw[Z9];omega
 simp only[eL,h1,List.drop_zero,ke A esz ys hs,dY];rw[if_neg (by simpa using hy)];simp only[ho,h2,Z2,Z8];rw[if_neg (by omega)];simp only[eK,hf,Z2,h4];rw[if_pos ⟨hb,hml⟩];refine .any rfl fun q _ =>?_;have:=h q;simp only[X4,List.map_replicate] at this;exact this
theorem aX.Fg{d e q0:Nat}(z:α){l:List α}(hs:Enc.sz α=esz)(hl:l≠[])(hf:A.o d=none)(hb:l.length*bytes≤140737488355328)(hml:l.length≤maxLen)
  (h:∀ m,aX P Y false K (ao rest ((A.aP d (.box (.agg ((l++List.replicate m z).map enc)))).aM (some d) (.view d [] esz 0 l.length)))):aX P Y false K (eL A (some d) e esz bytes (enc z) (enc l) rest (.nils q0)):=by
 have hne:l.map (enc (α:=α))≠[]:=by simpa using hl
 have h1:cO A esz (.nils q0)=some []:=rfl;simp only[eL,h1,ke A esz l hs,dY,if_neg hne,eK,hf,X2,Z8,Z2,if_pos (y6 hb hml),X3];refine .any rfl fun m _ =>?_;have:=h m;simp only[X4,List.map_replicate] at this;exact this
end
theorem WT{n:Nat}{p:List Nat}{sz k total i:Nat}(h:i≤k)(hk:k≤total):∃ y,iv n p sz 0 k total (some (.int .i64 i)) none none=some y:=by
 simp only[iv,gM];rw[if_pos ⟨by omega,by omega,by omega⟩];split <;>exact ⟨_,rfl⟩
theorem AK(k:Nat):b8 [] k=.cT:=rfl
def fS(au:List Nat):List (Nat×I)→List (Nat×I)
 | []=>[]
 |(s,v)::ts=>if au.contains s=true then (s,v)::fS au ts else fS au ts
theorem TN(au:List Nat):fS au []=[]:=rfl
theorem TM(au:List Nat)(s:Nat)(v:I)(ts:List (Nat×I)):fS au ((s,v)::ts)=if au.contains s=true then (s,v)::fS au ts else fS au ts:=rfl
theorem AJ(au:List Nat)(t:Nat):∀ ts,b8 (fS au ts) t=.cT∨b8 (fS au ts) t=b8 ts t
 | []=>.inl rfl
 |(s,v)::ts=>by
  simp only[fS];have ih:=AJ au t ts;by_cases hs:au.contains s=true
  ·rw[if_pos hs];simp only[b8];split
   ·exact .inr rfl
   ·exact ih
  ·rw[if_neg hs];simp only[b8];split
   ·rename_i e;subst e
    left
    have:∀ ts,b8 (fS au ts) t=.cT:=by
     intro ts
     induction ts with
     |nil=>rfl
     |cons q ts ih2 =>
      obtain ⟨s',v'⟩:=q;simp only[fS];split
      ·rename_i h';simp only[b8];have:t≠s':=fun e=>hs (e▸h');rw[if_neg this];exact ih2
      ·exact ih2
    exact this ts
   ·exact ih
theorem U.px(au:List Nat){c:cd}{x:bj}{Q:Exit→ab→Prop}{ts:List (Nat×I)}{os:List (Nat×ah)}(h:U c x Q (ay (fS au ts) os)):U c x Q (ay ts os):=by
 refine U.sub ?_ h;rintro cc a w ⟨D,E,hs⟩;refine ⟨D,E,hs.sz,hs.eb,fun t =>?_,hs.de,hs.cH,hs.cJ,hs.bx,hs.ct,hs.dv,hs.eB,hs.cq,hs.eF,hs.eV⟩;simp only[ay];rcases AJ au t ts with e | e
 ·rw[e];simp[aO]
 ·rw[e];exact hs.dx t
theorem Ao:(∀ au,fS au []=[])∧(∀ au s v ts,fS au ((s,v)::ts)=if au.contains s=true then (s,v)::fS au ts else fS au ts)∧(∀ (a:Nat) l b,(a::l).contains b=(b==a||l.contains b))∧(∀ b:Nat,([]:List Nat).contains b=false)∧(∀ b,(false||b)=b)∧(∀ b,(true||b)=true)∧(∀ b,(b||true)=true)∧(∀ b,(b||false)=b)∧((false=true)=False) :=
 ⟨TN,TM,fun _ _ _=>List.contains_cons,fun _=>rfl,fun _=>rfl,fun _=>rfl,fun b=>by cases b <;>rfl,fun b=>by cases b <;>rfl,by simp⟩
end Go.Abs
namespace Go.Abs
open Go Go.RowKit
open Enc (enc)
def u1:Option ah→Option (List I×List I)
 |some (.bZ ks vs)=>some (ks,vs)
 |_=>none
noncomputable def vb(A:ab)(n:Nat)(rest:List ar):Option (List I×List I)→bW
 |some (ks,vs)=>ao rest (A.aP n (.bZ ks vs))
 |none=>.fail
noncomputable def u9(A:ab)(n:Nat)(ty:bX)(k v:I)(rest:List ar):Option ah→bW
 |some (.bZ ks vs)=>vb A n rest (pG ty k v ks vs)
 |_=>.fail
noncomputable def u7(A:ab)(ty:bX)(k v:I)(rest:List ar):I→bW
 | .mref n=>u9 A n ty k v rest (A.o n)
 |_=>.fail
noncomputable def u6(A:ab)(d:Nat)(rest:List ar):Option ah→bW
 |none=>ao rest ((A.aP d (.bZ [] [])).put d (.mref d))
 |some _=>.fail
open Classical in
noncomputable def rZ(A:ab)(d bytes:Nat)(z:I)(rest:List ar):I→bW
 | .int _ n=>if 0≤n∧n.toNat*bytes≤281474976710656∧n.toNat≤maxLen then ao rest ((A.aP d (.box (.agg (List.replicate n.toNat z)))).put d (.view d [] 1 0 n.toNat)) else .fail
 |_=>.fail
noncomputable def rY(A:ab)(d bytes:Nat)(z n:I)(rest:List ar):Option ah→bW
 |none=>rZ A d bytes z rest n
 |some _=>.fail
noncomputable def vG(A:ab)(d:Nat)(rest:List ar):I→bW
 | .cV ks vs=>ao rest ((A.aP d (.it ks vs (List.range ks.length) none)).put d (.cQ d))
 |_=>.fail
noncomputable def sD(A:ab)(d:Nat)(x:I)(rest:List ar):Option ah→bW
 |none=>vG A d rest x
 |some _=>.fail
def uc:Option ah→Option I
 |some (.it ks vs _ cur)=>qV ks vs cur
 |_=>none
def ub(A:ab):I→Option I
 | .cQ n=>uc (A.o n)
 |_=>none
open Classical in
noncomputable def AX(A:ab)(d:Option Nat)(n:Nat)(rest:List ar):Option ah→bW
 |some (.it ks vs left _)=>if left=[] then ao rest (A.aM d (.tuple [.bool false])) else
   .any (fun i=>i∈left) fun i=>match ks[i]?,vs[i]? with
    |some kk,some x=>ao rest ((A.aP n (.it ks vs (left.filter (· != i)) (some i))).aM d (.tuple [.bool true,kk,x]))
    |_,_=>.fail
 |_=>.fail
noncomputable def vf(A:ab)(d:Option Nat)(rest:List ar):I→bW
 | .cQ n=>AX A d n rest (A.o n)
 |_=>.fail
section
variable (d:Option Nat) (rest:List ar) (A:ab)
theorem Vc(x:av):bn A d (.nilC x) rest=b7 (ml (ae A x)) (cB d rest A):=rfl
theorem Vg(neg:Bool)(x y:av):bn A d (.ptrE neg x y) rest=b7 (lL neg (gP (ae A x)) (gP (ae A y))) (cB d rest A):=rfl
theorem U6(ty:bX)(z:I)(ok:Bool)(m k:av):bn A d (.lk ty z ok m k) rest=b7 (pB ty z ok (ae A k) (fD A (ae A m))) (cB d rest A):=rfl
theorem Un(n:Nat):fD A (.mref n)=u1 (A.o n):=by
 simp only[fD];cases A.o n with
 |none=>rfl
 |some y=>cases y <;>rfl
theorem Va(ty:bX)(m k v:av):bn A none (.jA ty m k v) rest=u7 A ty (ae A k) (ae A v) rest (ae A m):=by
 simp only[bn,aU];cases ae A m <;>rfl
theorem U8(d:Nat):bn A (some d) .j2 rest=u6 A d rest (A.o d):=by
 simp only[bn,aU];cases A.o d <;>rfl
theorem U9(d e bytes:Nat)(z:I)(n:av):bn A (some d) (.jc e bytes z n) rest=rY A d bytes z (ae A n) rest (A.o d):=by
 simp only[bn,aU];cases A.o d with
 |some _=>rfl
 |none=>simp only[rY];cases ae A n <;>rfl
theorem Vh(d:Nat)(x:av):bn A (some d) (.jI x) rest=sD A d (ae A x) rest (A.o d):=by
 simp only[bn,aU];cases A.o d with
 |some _=>rfl
 |none=>simp only[sD];cases ae A x <;>rfl
theorem UR(x:av):bn A d (.ent x) rest=b7 (ub A (ae A x)) (cB d rest A):=by
 simp only[bn,aU,aT];cases ae A x <;>rfl
theorem Ve(x:av):bn A d (.jB x) rest=vf A d rest (ae A x):=by
 simp only[bn,aU];cases ae A x <;>rfl
end
theorem rS :
  (∀ d rest A x,bn A d (.nilC x) rest=b7 (ml (ae A x)) (cB d rest A))∧(∀ n p,ml (.ptr n p)=some (.ptr n p))∧(∀ x,ml (.ref x)=some (.ref x)) ∧
  (∀ d rest A neg x y,bn A d (.ptrE neg x y) rest=b7 (lL neg (gP (ae A x)) (gP (ae A y))) (cB d rest A))∧(gP .nilp=some true)∧(∀ n p,gP (.ptr n p)=some false)∧(∀ x,gP (.ref x)=some false) ∧
  (lL false (some true) (some true)=some (.bool true))∧(lL false (some false) (some true)=some (.bool false))∧(lL true (some true) (some true)=some (.bool false))∧(lL true (some false) (some true)=some (.bool true)) ∧
  (∀ d rest A ty z ok m k,bn A d (.lk ty z ok m k) rest=b7 (pB ty z ok (ae A k) (fD A (ae A m))) (cB d rest A))∧(∀ A n,fD A (.mref n)=u1 (A.o n))∧(∀ A ks vs,fD A (.cV ks vs)=some (ks,vs))∧(∀ ks vs,u1 (some (.bZ ks vs))=some (ks,vs)) ∧
  (∀ ty z ok k ks vs,pB ty z ok k (some (ks,vs))=pC ok (pD ty z k ks vs))∧(∀ v b,pC false (some (v,b))=some v)∧(∀ v b,pC true (some (v,b))=some (.tuple [v,.bool b])) ∧
  (∀ rest A ty m k v,bn A none (.jA ty m k v) rest=u7 A ty (ae A k) (ae A v) rest (ae A m))∧(∀ A ty k v rest n,u7 A ty k v rest (.mref n)=u9 A n ty k v rest (A.o n))∧(∀ A n ty k v rest ks vs,u9 A n ty k v rest (some (.bZ ks vs))=vb A n rest (pG ty k v ks vs)) ∧
  (∀ A n rest ks vs,vb A n rest (some (ks,vs))=ao rest (A.aP n (.bZ ks vs))) ∧
  (∀ rest A d,bn A (some d) .j2 rest=u6 A d rest (A.o d))∧(∀ A d rest,u6 A d rest none=ao rest ((A.aP d (.bZ [] [])).put d (.mref d))) ∧
  (∀ rest A d e bytes z n,bn A (some d) (.jc e bytes z n) rest=rY A d bytes z (ae A n) rest (A.o d))∧(∀ A d bytes z n rest,rY A d bytes z n rest none=rZ A d bytes z rest n) ∧
  (∀ rest A d x,bn A (some d) (.jI x) rest=sD A d (ae A x) rest (A.o d))∧(∀ A d x rest,sD A d x rest none=vG A d rest x)∧(∀ A d rest ks vs,vG A d rest (.cV ks vs)=ao rest ((A.aP d (.it ks vs (List.range ks.length) none)).put d (.cQ d))) ∧
  (∀ d rest A x,bn A d (.ent x) rest=b7 (ub A (ae A x)) (cB d rest A))∧(∀ A n,ub A (.cQ n)=uc (A.o n))∧(∀ ks vs l cur,uc (some (.it ks vs l cur))=qV ks vs cur) ∧
  (∀ d rest A x,bn A d (.jB x) rest=vf A d rest (ae A x))∧(∀ A d rest n,vf A d rest (.cQ n)=AX A d n rest (A.o n)) :=
 ⟨Vc,fun _ _=>rfl,fun _=>rfl,Vg,rfl,fun _ _=>rfl,fun _=>rfl,rfl,rfl,rfl,rfl,U6,Un,fun _ _ _=>rfl,fun _ _=>rfl,fun _ _ _ _ _ _=>rfl,fun _ _=>rfl,fun _ _=>rfl,
  fun rest A ty m k v=>Va rest A ty m k v,fun _ _ _ _ _ _=>rfl,fun _ _ _ _ _ _ _ _=>rfl,fun _ _ _ _ _=>rfl,fun rest A d=>U8 rest A d,fun _ _ _=>rfl,fun rest A d e bytes z n=>U9 rest A d e bytes z n,fun _ _ _ _ _ _=>rfl,
  fun rest A d x=>Vh rest A d x,fun _ _ _ _=>rfl,fun _ _ _ _ _=>rfl,UR,fun _ _=>rfl,fun _ _ _ _=>rfl,Ve,fun _ _ _ _=>rfl⟩
theorem r0{A:ab}{d bytes:Nat}{z:I}{rest:List ar}{n:Nat}(h1:n*bytes≤281474976710656)(h2:n≤maxLen):rZ A d bytes z rest (.int .i64 n)=ao rest ((A.aP d (.box (.agg (List.replicate n z)))).put d (.view d [] 1 0 n)):=by
 simp only[rZ,Int.toNat_natCast];rw[if_pos ⟨Int.natCast_nonneg n,h1,h2⟩]
section
variable {α:Type} [Enc α]
theorem WY{A:ab}{n i:Nat}{xs:List α}(v u:α){rest:List ar}(hA:Enc.gz α=false)(h:i<xs.length):er A none n [i] (.agg (xs.map enc)) (enc v) rest (some (enc u))=ao rest (A.aP n (.box (.agg ((xs.set i v).map enc)))):=by
 rw[fj (fe v) (by rw[KA,hA];rfl) ((eA v).trans (eA u).symm)];have h2:(xs.map (enc (α:=α)))[i]?=some (enc (xs[i])):=by simp[h]
 simp only[I.dp,h2,List.map_set]
end
theorem TF{m sz lo l i:Nat}{fs:List I}(h:i<l):mf m [] sz lo l sz (i:Int) (some fs)=some (.ptr m [lo+i]):=by rw[TE h];rfl
theorem yJ:(∀ {α:Type} [Enc α] (x:α),(enc x).bu=true)∧(∀ n p z lo k,(I.view n p z lo k).bu=false)∧(∀ n,(I.mref n).bu=false)∧(∀ n p,(I.ptr n p).bu=false)∧(∀ n k,(I.own n k).bu=false) :=
 ⟨@jS,fun _ _ _ _ _=>rfl,fun _=>rfl,fun _ _=>rfl,fun _ _=>rfl⟩
end Go.Abs
namespace Go.Abs
open Go Go.RowKit
def qN(on:List (List Nat)):List Nat:=on.foldl (fun acc ks=>acc++[mX acc ks]) []
def tX(d:Option (List (List Nat)))(gs:List ar):Bool:=match d with
 |none=>true
 |some on=>qU on gs (qN on)
section
variable {c:cd} {Q:Exit→ab→Prop} {A:ab} {d:Option (List (List Nat))} {on:List (List Nat)} {gs:List ar}
theorem U.gT(hd:tX d gs=true)(h:∀ K:ab→Prop,(∀ B,Q .normal B→K B)→aX c.P c.Y d.isSome K (ao gs A)):U c (.bS d gs) Q A:=by
 cases d with
 |none=>exact U.bS (cl:=[]) rfl h
 |some on=>exact U.bS (cl:=qN on) hd h
theorem U.dN{y:bj}(hd:tX d gs=true)(h:∀ K:ab→Prop,(∀ B,U c y Q B→K B)→aX c.P c.Y d.isSome K (ao gs A)):U c (.seq (.bS d gs) y) Q A :=
 U.seq (U.gT hd h)
theorem U.lN(hs:List FuncId)(au:dX)(σ:List Nat)(hd:si hs au on gs (qN on) σ=true)(hi:dD au A)(h:∀ K:ab→Prop,(∀ B,Q .normal B→K B)→bH c.P c.Y hs K (ao (j7 σ gs) A)):U c (.bS (some on) gs) Q A :=
 U.We hs au (qN on) σ hd hi h
def fA(c:cd):bj→(Exit→ab→Prop)→ab→Prop
 | .seq x y,Q,A=>fA c x (cP (fun B=>U c y Q B) Q) A
 | .block id x,Q,A=>fA c x (kC id Q) A
 | .skip,Q,A=>Q .normal A
 | .exit id,Q,A=>Q (.exit id) A
 | .ret,Q,A=>Q .ret A
 | .cond b x y,Q,A=>aw (ae A b) (U c x Q A) (U c y Q A)
 |x,Q,A=>U c x Q A
def TC:bj→Bool
 | .seq _ _ | .block _ _ | .skip | .exit _ | .ret | .cond _ _ _=>true
 |_=>false
theorem fA.tw:∀ (x:bj) {Q:Exit→ab→Prop} {A:ab},fA c x Q A→U c x Q A
 | .seq x y,_,_,h=>U.seq (fA.tw x h)
 | .block id x,_,_,h=>U.block (fA.tw x h)
 | .skip,_,_,h=>U.skip h
 | .exit _,_,_,h=>U.exit h
 | .ret,_,_,h=>U.ret h
 | .cond _ _ _,_,_,h=>U.gB h
 | .bS _ _,_,_,h | .loop _,_,_,h | .scope _,_,_,h | .label,_,_,h | .oL,_,_,h | .mJ _ _ _ _,_,_,h=>h
theorem U.of{x:bj}(_:TC x=true)(h:fA c x Q A):U c x Q A:=fA.tw x h
theorem aH :
  (∀ c x y Q A,fA c (.seq x y) Q A=fA c x (cP (fun B=>U c y Q B) Q) A)∧(∀ c id x Q A,fA c (.block id x) Q A=fA c x (kC id Q) A)∧(∀ c Q A,fA c .skip Q A=Q .normal A)∧(∀ c id Q A,fA c (.exit id) Q A=Q (.exit id) A)∧(∀ c Q A,fA c .ret Q A=Q .ret A) ∧
  (∀ c b x y Q A,fA c (.cond b x y) Q A=aw (ae A b) (U c x Q A) (U c y Q A))∧(∀ c d gs Q A,fA c (.bS d gs) Q A=U c (.bS d gs) Q A)∧(∀ c x Q A,fA c (.loop x) Q A=U c (.loop x) Q A)∧(∀ c f ps x y Q A,fA c (.mJ f ps x y) Q A=U c (.mJ f ps x y) Q A) ∧
  (∀ k Q A,cP k Q .normal A=k A)∧(∀ k Q A,cP k Q .ret A=Q .ret A)∧(∀ k Q A i,cP k Q (.exit i) A=Q (.exit i) A)∧(∀ i Q A,kC i Q .normal A=Q .normal A)∧(∀ i Q A,kC i Q .ret A=Q .ret A)∧(∀ i Q A j,kC i Q (.exit j) A=if j=i then Q .normal A else Q (.exit j) A) ∧
  (∀ p q,aw (.bool true) p q=p)∧(∀ p q,aw (.bool false) p q=q)∧(type_of% @Ao) :=
 ⟨fun _ _ _ _ _=>rfl,fun _ _ _ _ _=>rfl,fun _ _ _=>rfl,fun _ _ _ _=>rfl,fun _ _ _=>rfl,fun _ _ _ _ _ _=>rfl,fun _ _ _ _ _=>rfl,fun _ _ _ _=>rfl,fun _ _ _ _ _ _ _=>rfl,fun _ _ _=>rfl,fun _ _ _=>rfl,fun _ _ _ _=>rfl,fun _ _ _=>rfl,fun _ _ _=>rfl,fun _ _ _ _=>rfl,
  fun p q=>by simp[aw],fun p q=>by simp[aw],Ao⟩
theorem aw.aF{t:Bool}{p q:Prop}(h1:t=true→p)(h2:t=false→q):aw (.bool t) p q:=⟨h1,h2⟩
theorem U.aG{g:ar}{r:List ar}(hd:tX d gs=true)(e:gs=g::r)(h:∀ K:ab→Prop,(∀ B,Q .normal B→K B)→aX c.P c.Y d.isSome K (ao (g::r) A)):U c (.bS d gs) Q A :=
 U.gT hd (e▸h)
theorem aX.aE(au:List Nat){P:Program}{Y:Value→List I→List (Nat×ah)→bY→Prop}{dr:Bool}{x:bj}{K:ab→Prop}{ts:List (Nat×I)}{os:List (Nat×ah)}(hK:∀ B,U c x Q B→K B)(h:U c x Q (ay (fS au ts) os)):aX P Y dr K (.done (ay ts os)) :=
 .done (hK _ (U.px au h))
theorem bH.aE(au:List Nat){P:Program}{Y:Value→List I→List (Nat×ah)→bY→Prop}{hs:List FuncId}{x:bj}{K:ab→Prop}{ts:List (Nat×I)}{os:List (Nat×ah)}(hK:∀ B,U c x Q B→K B)(h:U c x Q (ay (fS au ts) os)):bH P Y hs K (.done (ay ts os)) :=
 .done (hK _ (U.px au h))
end
section
variable {c:cd} {A:ab} {o:Oper}
theorem yx{P:Program}{m:Nat}{bh:Array Oper}{l:List Oper}{gs:List ar}(h:e9 P m bh (o::l)=some gs):∃ g gs',gs=g::gs'∧kD P m bh o=some g∧e9 P m bh l=some gs':=by
 simp only[e9] at h;split at h
 ·rename_i g gs' h1 h2;simp only[v6] at h;exact ⟨g,gs',h.symm,h1,h2⟩
 ·cases h
end
def sF(P:Program)(f:FuncId)(ch:List PanicEntry)(vs:Array Value)(w:World)(R:Ending→World→Prop):Prop :=
 Calls P f vs w fun e w'=>e=.panicked ch∧R (.returned (.tuple #[])) w'
theorem sF.mono{P:Program}{f:FuncId}{ch:List PanicEntry}{vs:Array Value}{w:World}{R R':Ending→World→Prop}(h:sF P f ch vs w R)(hr:∀ e w',R e w'→R' e w'):sF P f ch vs w R' :=
 Calls.mono h fun _ _ q=>⟨q.1,hr _ _ q.2⟩
def nY(post:List (Nat×ah)→Prop):bY:=fun r os'=>r=.tuple []∧post os'
def oA(P:Program)(f:FuncId)(ch:List PanicEntry)(args:List I)(os:List (Nat×ah))(post:List (Nat×ah)→Prop):Prop :=
 dM P f=true∧lW (sF P f ch) (fun w _ E=>ew P w (bO E)) args os (nY post)
def vq(ch:List PanicEntry)(post:List (Nat×ah)→Prop):Exit→ab→Prop
 | .panic ch',A=>ch'=ch∧iA [] (nY post) A
 |_,_=>False
theorem AB{P:Program}{n:Nat}{w:World}{D:aI}{E:aN}{Y:Value→List I→List (Nat×ah)→bY→Prop}{post:List (Nat×ah)→Prop}{fn:Func}{A:ab}{D':aI}{E':aN}{ch:List PanicEntry}(h:iA [] (nY post) A){R:World→Prop}(hR:∀ v w',kq w D E (nY post) v w'→R w') :
  ∀ (ds:List Deferred) (a:Act) (w':World),a.defers=ds→aL ⟨P,w,D,n,bO E,E,Y,none,none⟩ A a w' D' E'→LeavesInM Fence.wide 9 P fn a.tmps (fun e w'=>e=.panicked ch∧R w') ds (.panicking ch) w'
 | [],a,w',_,hs=>by
  obtain ⟨v,h1,h2⟩:=hs.rJ (fn := { fn with results := #[] }) (rs:=[]) rfl h;exact ⟨rfl,hR v w' h2⟩
 |d::ds,a,w',hd,hs=>by
  obtain ⟨Bs,h1,_⟩:=hs.eb;rw[hd] at h1;cases Bs with
  |nil=>cases h1
  |cons B Bs =>
   simp only[Z4,Y6] at h1;obtain ⟨rfl,rfl⟩:=h1;obtain ⟨k1,k2⟩:=hs.yK rfl hd;exact ⟨by simp,.inl ⟨B,_,rfl,run_takeDeferred k1,AB h hR _ { a with defers:=Bs.map _ } _ rfl k2⟩⟩
theorem Ua{w:World}{D:aI}{E:aN}{post:List (Nat×ah)→Prop}{v:Value}{w':World}(h:kq w D E (nY post) v w'):∃ v' D' E' r os',Ending.returned (.tuple #[])=.returned v'∧nY post r os'∧aO w' D' E' r v'∧iM (fun b=>w.heap.size≤b∨bO E b) w' D' E' (aJ os') ∧
   ej (fun b=>w.heap.size≤b∨bO E b) w w'∧(∀ b o,D b o→D' b o)∧(∀ b o,D' b o→b<w'.heap.size)∧(∀ b o,D' b o→b<w.heap.size→¬ bO E b→D b o) ∧
   (∀ n e,E n=some e→aB os' n=true→∃ e',E' n=some e'∧e.ff e')∧fH w D w':=by
 obtain ⟨D',E',r,os',h1,h2,h3⟩:=h;refine ⟨_,D',E',r,os',rfl,h1,?_,h3⟩;obtain ⟨rfl,_⟩:=h1;simp only[aO];exact ⟨[],by simp,by simp[al]⟩
theorem oA.mk{P:Program}{f:FuncId}{fn:Func}{x:bj}{ch:List PanicEntry}{args:List I}{os:List (Nat×ah)}{post:List (Nat×ah)→Prop}(hf:P.funcs[f]?=some fn)(hcall:dM P f=true)(hc:(fn.body.bind (dL P fn.ntmps))=some x)
  (hn:args.length≤fn.ntmps) (hn2:fn.ntmps≤1000000) (hos:∀ m,aB os m=true→1000000≤m) (h:I.gq args→∀ (w:World) (D:aI) (E:aN),U ⟨P,w,D,fn.ntmps,bO E,E,fq,none,none⟩ x (vq ch post) (ay (bB 0 args) os)):oA P f ch args os post:=by
 obtain ⟨body,hb,hc'⟩:=Option.bind_eq_some_iff.1 hc;refine ⟨hcall,fun w D E vs hl hD ho hv =>?_⟩;have hlen:=p8 hv;have hsim:=wb (P:=P) (n:=fn.ntmps) (Y:=fq) hD ho hv (by omega) (fun m hm=>⟨Nat.le_trans hn2 (hos m hm),hos m hm⟩) (ox hl);refine (callsIn_wide (n:=9)).1 (callsIn_of_wp_marks hf hb trivial ?_);refine wpIn_mono (((h (og _ _ hv) w D E).sub (sP args os)) body hc' _ w ⟨D,E,hsim⟩) ?_;rintro e a w' ⟨A,hq,D',E',hs⟩;cases e <;>simp only[vq] at hq
 obtain ⟨rfl,hq⟩:=hq;exact AB hq (fun v w' h=>Ua h) a.defers a w' rfl hs
section
variable {c:cd} {A:ab} {Q:Exit→ab→Prop}
theorem rv{dr:Bool}{K:ab→Prop}{bh:Array Oper}{Q:Exit→Act→World→Prop}{l2:List Oper}(hQ:∀ B a w,K B→bz c B a w→wpListIn c.bl 9 c.P bh Q l2 a w):∀ (l:List Oper) (gs:List ar) (A:ab) (a:Act) (w:World),e9 c.P c.n bh l=some gs→aX c.P c.Y dr K (ao gs A) →
  bz c A a w→wpListIn c.bl 9 c.P bh Q (l++l2) a w
 | [],gs,A,a,w,hc,hwp,hs=>by
  simp only[e9,v6] at hc;subst hc;simp only[ao] at hwp;cases hwp with
  |done hk=>exact hQ A a w hk hs
 |o::l,gs,A,a,w,hc,hwp,hs=>by
  simp only[e9] at hc;split at hc
  case h_2=>cases hc
  rename_i g gs' hg hgs;simp only[v6] at hc;subst hc;obtain ⟨h1,h2,h3,h4⟩:=nm hg;have step:aX c.P c.Y dr K (aU A g.dst g.op gs' (ao gs'))→o.wpIn c.bl 9 c.P a w (wpListIn c.bl 9 c.P bh Q (l++l2)) Q:=fun h =>
   rq h1 h2.symm (by rw[h2];exact h3) h hs (fun B a' w' hw hs'=>rv hQ l gs' B a' w' hgs hw hs')
  simp only[Y3,wpListIn];simp only[ao] at hwp;rcases h4 with ⟨h5,h6⟩ | ⟨j,b,t,h5,h6,h7⟩
  ·rw[h6] at hwp;have hw:Region.wanted o (yielded bh a.tmps)=true:=by simp[Region.wanted,h5]
   rw[hw,if_pos rfl];exact step hwp
  ·rw[h7] at hwp;simp only at hwp;split at hwp
   ·rename_i b' hb';rw[rz hs h5 h6 hb'];split at hwp
    ·rename_i hbb;subst hbb;simp only[BEq.rfl,if_true];exact step hwp
    ·rename_i hbb;have:(b'==b)=false:=by simpa using hbb
     rw[this];simp only[Z5,if_false];exact ⟨fun f _=>kK c f,rv hQ l gs' _ _ w hgs hwp (by rw[h2];exact hs.lM h3)⟩
   ·rename_i hb';rw[rA hs h5 h6 hb'];simp only[Z5,if_false];exact ⟨fun f _=>kK c f,rv hQ l gs' _ _ w hgs hwp (by rw[h2];exact hs.lM h3)⟩
   ·cases hwp
theorem yw{P:Program}{m:Nat}{bh:Array Oper}{g:ar}{gs2:List ar} : ∀ {l:List Oper} {gs1:List ar},e9 P m bh l=some (gs1++g::gs2)→∃ l1 o l2,l=l1++o::l2∧e9 P m bh l1=some gs1∧kD P m bh o=some g
 | [],gs1,h=>by simp[e9] at h
 |o::l,[],h=>by
  obtain ⟨g',gs',e,h1,h2⟩:=yx h;simp only[X3,Y6] at e;obtain ⟨rfl,rfl⟩:=e;exact ⟨[],o,l,rfl,rfl,h1⟩
 |o::l,k::gs1,h=>by
  obtain ⟨g',gs',e,h1,h2⟩:=yx h;simp only[Y3,Y6] at e;obtain ⟨rfl,rfl⟩:=e;obtain ⟨l1,o',l2,rfl,q1,q2⟩:=yw h2;exact ⟨o::l1,o',l2,rfl,by simp only[e9,h1,q1],q2⟩
inductive oE (P:Program) (Q:Exit→ab→Prop) (f:FuncId) (avs:List I):ab→Prop where
 |mk {ts:List (Nat×I)} {os0:List (Nat×ah)} (aA:Bool) (ρ:List (Nat×Nat)) (os:List (Nat×ah)) (cargs:List I) (ch:List PanicEntry) (post:List (Nat×ah)→Prop):oA P f ch cargs os post→eJ ρ os os0→fI aA (ay ts (dO (ij ρ os) os0)) ρ os avs cargs →
  (∀ os',post os'→dC aA ρ os os0 (.tuple []) os')→(∀ os',post os'→Q (.panic ch) (ay ts (cX ρ os'++os0)))→oE P Q f avs (ay ts os0)
inductive lq (P:Program) (Q:Exit→ab→Prop):bq→ab→Prop where
 |call {f:FuncId} {args:List av} {A:ab} : oE P Q f (args.map (ae A)) A→lq P Q (.call f args) A
 |eT {x:av} {args:List av} {f:Nat} {caps:List I} {A:ab} : ae A x=.func f caps→oE P Q (jU f) (gy f (args.map (ae A)) caps) A→lq P Q (.eT x args) A
 |j6 {x:av} {t:TypeId} {A:ab} : ae A x=.iface t (.agg [])→Q (.panic [{ v:=.iface t (.agg #[]),recovered:=false }]) A→lq P Q (.prim .j6 [x]) A
theorem vr{o:Oper}{g:bq}{f:FuncId}{avs:List I}{vs:List Value}{a:Act}{w:World}{D:aI}{E:aN}{Kw:Act→World→Prop}(hop0:cu c.P o=some g)(h:oE c.P Q f avs A)(hs:aL c A a w D E)(hall:dV (aO w D E) avs vs)
  (hrun:dM c.P f=true→(execOp a.eval o).run c.P w=.ok (.enter f vs.toArray) w):o.wpIn c.bl 9 c.P a w Kw (rL c Q):=by
 cases h with
 |mk aA ρ os cargs ch post hspec hgv ha hb hrest =>
  have hu:=hspec.2.use hs aA (fun h=>h.mono) ⟨fun _ _=>hs.nN,fun _=>hs.nN⟩ hgv ha (fun r os' hp=>by obtain ⟨rfl,hp⟩:=hp;exact hb os' hp) hall;refine ⟨iO,?_⟩;rw[jh hop0,hrun hspec.1,Oper.uponIn_enter];refine ⟨tU c,yG (Calls.mono hu ?_)⟩;rintro e w' ⟨rfl,v,r,os',D2,E2,he,⟨rfl,hp⟩,hs',hv,_⟩;exact ⟨_,hrest os' hp,D2,E2,hs'⟩
theorem VJ{o:Oper}{g:bq}{a:Act}{w:World}{Kw:Act→World→Prop}(hop:cu c.P o=some g)(h:lq c.P Q g A)(hsim:bz c A a w):o.wpIn c.bl 9 c.P a w Kw (rL c Q):=by
 have hop0:=hop;obtain ⟨D,E,hs⟩:=hsim;cases h with
 |call h =>
  unfold cu at hop;split at hop <;>try (first | (simp at hop;done) | ((repeat' split at hop) <;>simp at hop;done))
  rename_i f' xs ts ho;split at hop
  case isFalse=>simp at hop
  simp only[t7,bq.call.injEq] at hop;obtain ⟨ys,hys,rfl,rfl⟩:=hop;have e:xs.map a.eval=(xs.toList.map a.eval).toArray:=by apply Array.ext';simp
  refine vr (vs:=xs.toList.map a.eval) hop0 h hs (jN hs xs.toList ts.toList ys hys) fun hc =>?_;simp only[execOp,ho,resolve,Act.eval,Deferred.ofValue,Sem.run_bind,Sem.run_pure,Result.andThen_ok,invoke,Array.append_empty,Array.empty_append,lO hc];rw[←e]
 |eT hx h =>
  rename_i x args f caps;unfold cu at hop;split at hop <;>try (first | (simp at hop;done) | ((repeat' split at hop) <;>simp at hop;done))
  rename_i y xs ts _ ho;split at hop
  case h_2=>cases hop
  rename_i y' ys h1 h2;simp only[v6,bq.eT.injEq] at hop;obtain ⟨rfl,rfl⟩:=hop;have hv:=bo hs h1;rw[hx] at hv;obtain ⟨cs,q1,q2⟩:=hv;simp only[af] at q2;obtain ⟨vs,q3,q4⟩:=q2;have hval:a.eval y=iF f vs:=by simpa[aW,I.isAgg,q3] using q1.symm
  have e:xs.map a.eval=(xs.toList.map a.eval).toArray:=by apply Array.ext';simp
  have hargs:=jN hs xs.toList ts.toList ys h2;rcases Nat.lt_or_ge f 1000000 with hf | hf
  ·rw[um hf,uk hf] at h;rw[lA hf] at hval;refine vr (vs:=xs.toList.map a.eval++vs) hop0 h hs (hargs.append (od q4)) fun hc =>?_;simp only[execOp,ho,resolve,hval,Deferred.ofValue,Sem.run_bind,Sem.run_pure,Result.andThen_ok,invoke,Array.empty_append,lO hc];rw[e];simp
  ·obtain ⟨g,rfl⟩:∃ g:Nat,f=g+1000000:=⟨Nat.sub f 1000000,(Nat.sub_add_cancel hf).symm⟩
   rw[zp,zo] at h;rw[pb] at hval;refine vr (vs:=vs++xs.toList.map a.eval) hop0 h hs ((od q4).append hargs) fun hc =>?_;simp only[execOp,ho,resolve,hval,Deferred.ofValue,Sem.run_bind,Sem.run_pure,Result.andThen_ok,invoke,Array.append_empty,lO hc];rw[e];simp

 |j6 hx hq =>
  rename_i x t;unfold cu at hop;split at hop <;>try (first | (simp at hop;done) | ((repeat' split at hop) <;>simp at hop;done))
  rename_i x0 ho;simp only[t7,bq.prim.injEq,Y6,and_true,true_and] at hop;obtain ⟨y,hy,rfl⟩:=hop;have hv:=bo hs hy;rw[hx] at hv;obtain ⟨cs,q1,q2⟩:=hv;simp only[af] at q2;obtain ⟨u,cs',q3,q4,q5⟩:=q2;simp only[aC] at q5;subst q5;have hu:u=.agg #[]:=by simpa[aW,I.isAgg] using q4
  have hval:a.eval x0=.iface t (.agg #[]):=by simpa[aW,I.isAgg,q3,hu] using q1.symm
  have hrun:(execOp a.eval o).run c.P w=.halt (.panic (.iface t (.agg #[]))) w:=by simp[execOp,ho,hval,Instr.panic,goPanic]
  refine ⟨iO,?_⟩;rw[jh hop0,hrun,Oper.uponIn_panic];exact ⟨A,hq,D,E,hs⟩
theorem U.Wd{gs:List ar}(k:Nat){g:bq}{dst:Option Nat}(hk:gs=gs.take k++⟨dst,g,none⟩::gs.drop (k+1))(h:∀ K:ab→Prop,(∀ B,lq c.P Q g B→K B)→aX c.P c.Y false K (ao (gs.take k) A)):U c (.bS none gs) Q A:=by
 intro code hc a w hs;cases code <;>simp only[dL] at hc <;>try (first | (cases hc;done) | ((repeat' split at hc) <;>cases hc;done))
 rename_i id bh draw;split at hc
 case h_2=>cases hc
 rename_i gs' hgs;split at hc
 case isFalse=>cases hc
 simp only[v6,bj.bS.injEq] at hc;obtain ⟨hdr,rfl⟩:=hc;cases draw with
 |true=>simp at hdr
 |false =>
  refine wpIn_region_list ?_;rw[hk] at hgs;obtain ⟨l1,o,l2,hl,h1,h2⟩:=yw hgs;rw[hl];refine rv (K:=lq c.P Q g) (fun B a' w' hp hs' =>?_) l1 _ A a w h1 (h _ fun _ hb=>hb) hs;obtain ⟨q1,q2,q3,q4⟩:=nm h2;have wn:Region.wanted o (yielded bh a'.tmps)=true:=by
   rcases q4 with ⟨a5,_⟩ | ⟨_,_,_,_,_,a5⟩
   ·simp[Region.wanted,a5]
   ·simp at a5
  simp only[wpListIn,wn,if_true];exact VJ q1 hp hs'
theorem U.kS{gs gs1 gs2:List ar}{g:bq}{dst:Option Nat}(e:gs=gs1++⟨dst,g,none⟩::gs2)(h:∀ K:ab→Prop,(∀ B,lq c.P Q g B→K B)→aX c.P c.Y false K (ao gs1 A)):U c (.bS none gs) Q A:=by
 subst e;refine U.Wd gs1.length (g:=g) (dst:=dst) ?_ fun K hK =>?_
 ·simp
 ·simpa using h K hK
end
section
variable {P:Program} {n:Nat} {w:World} {D:aI} {E:aN} {rs:List bt} {post:bY} {fn:Func} {ch:List PanicEntry} {f:FuncId} {N b:Nat}
theorem nO{bl:Fence}{m:Nat}{tmps:Array Value}{R R':Ending→World→Prop}(hr:∀ e w,R e w→R' e w):∀ (ds:List Deferred) (u:FrameMode) (w:World),LeavesInM bl m P fn tmps R ds u w→LeavesInM bl m P fn tmps R' ds u w
 | [],u,w,h=>by
  cases u with
  |run=>exact h
  |returning=>obtain ⟨v,h1,h2⟩:=h;exact ⟨v,h1,hr _ _ h2⟩
  |panicking c=>exact hr _ _ h
 |d::ds,u,w,h=>by
  obtain ⟨h1,h2⟩:=h;refine ⟨h1,?_⟩;rcases h2 with ⟨r,w',k1,k2,k3⟩ | ⟨k1,fv,cap,g,args,k2,k3,k4,k5⟩
  ·exact .inl ⟨r,w',k1,k2,nO hr ds u w' k3⟩
  ·refine .inr ⟨k1,fv,cap,g,args,k2,k3,k4,k5.mono fun e u' w' h =>?_⟩;cases e with
   |returned v=>exact nO hr ds _ w' h
   |panicked c=>exact nO hr ds _ w' h
   |outgrown=>exact hr _ _ h
def p7(P:Program)(fn:Func)(rest:Code)(slots:List Nat)(a:Act)(vs:Array Value)(w:World)(R:Ending→World→Prop):Prop :=
 vs.toList=slots.map (fun t=>a.tmps.getD t undef)→rest.wpIn Fence.wide 9 P (bodyPostM Fence.wide 9 P fn R) a w
theorem p7.mono{rest:Code}{slots:List Nat}{a:Act}{vs:Array Value}{w:World}{R R':Ending→World→Prop}(h:p7 P fn rest slots a vs w R)(hr:∀ e w,R e w→R' e w):p7 P fn rest slots a vs w R':=fun hv=>by
 refine wpIn_mono (h hv) fun e a' w' q =>?_;cases e <;>simp only[bodyPostM] at q ⊢ <;>first
  |exact nO hr _ _ _ q
  |exact hr _ _ q
  |exact q
theorem DI{w:World}{D:aI}{E:aN}(g:Nat→Value):∀ (slots:List Nat) (args:List I),al w D E args (slots.map g)→∀ t,aO w D E (b8 (slots.zip args) t) (g t)
 | [],args,h,t=>by simp[b8,aO]
 |s::slots,[],h,t=>by simp[b8,aO]
 |s::slots,x::args,h,t=>by
  simp only[al,Z4] at h;obtain ⟨v,rest,cs,e,h1,h2,h3⟩:=h;simp only[Y6] at e;obtain ⟨rfl,rfl⟩:=e;simp only[List.zip_cons_cons,b8];split
  ·rename_i hk;subst hk;exact fg h1 h2
  ·exact DI g slots args h3 t
end
abbrev qR(P:Program)(w:World)(D:aI)(n:Nat)(E:aN)(b:Option (List Deferred)):cd:=⟨P,w,D,n,bO E,E,fq,none,b⟩
theorem aL.T8{P:Program}{n:Nat}{w:World}{D:aI}{E:aN}{dT:Option (List Deferred)}{post:bY}{A:ab}{a:Act}{w':World}{D':aI}{E':aN}{r:I}{v:Value}{os:List (Nat×ah)}
  (hs:aL (qR P w D n E dT) A a w' D' E') (h1:∀ m z,aJ os m=some z→A.o m=some z∧z.only (aB os)=true∧z.ef=true) (hf:r.flat=true) (hv:aO w' D' E' r v) (hp:post r os):kq w D E post v w':=by
 obtain ⟨D2,E2,hw,e2,e2n,q1,q2,q3,q4,q5,q6⟩:=hs.uX h1;exact ⟨D2,E2,r,os,hp,aO.flat hf hv,q1,q2,q3,q4,q5,q6⟩
def jF(b:Nat):Value:=.pointer (some ⟨b,0,none⟩)
def qv(P:Program)(f:FuncId)(k:Nat):Prop:=dM P f=true∧∀ (bs:List Nat) (w:World),bs.length=k →
 CallsDIn Fence.wide 8 P f (bs.map jF).toArray .returning w fun e u' w'=>(∃ v,e=.returned v)∧u'=.returning∧w'=w
def mN(A:ab):List Nat→List I→ab
 |N::Ns,z::zs=>mN (A.aP N (.box z)) Ns zs
 |_,_=>A
def kl(E:aN):List Nat→List Nat→List I→Prop
 | [],[],[]=>True
 |N::Ns,b::bs,z::zs=>E N=some (.aA b z.aK)∧kl E Ns bs zs
 |_,_,_=>False
def nc(A:ab):List Nat→List I→Prop
 | [],[]=>True
 |N::Ns,z::zs=>(∃ x,A.o N=some (.box x)∧x.aK=z.aK)∧nc A Ns zs
 |_,_=>False
def qq(P:Program)(f:FuncId)(ch:List PanicEntry)(zs:List I):Prop:=dM P f=true∧∀ (c:cd) (A:ab) (a:Act) (w:World) (D:aI) (E:aN) (Ns bs:List Nat),c.P=P→aL c A a w D E→kl E Ns bs zs→nc A Ns zs →
 CallsDIn Fence.wide 8 P f (bs.map jF).toArray (.panicking ch) w fun e u' w'=>(∃ v,e=.returned v)∧settle u'=.returning∧aL c (mN A Ns zs) a w' D E
def jq(f:FuncId)(vs:List Value):Deferred := { target:=.fn (.func f) vs.toArray,args := #[] }
def pT(rs:List bt)(post:bY)(ch:List PanicEntry)(Ns:List Nat)(zs:List I):Exit→ab→Prop
 | .ret,A=>nc A Ns zs∧iA rs post A
 | .panic ch',A=>ch'=ch∧nc A Ns zs∧iA rs post (mN A Ns zs)
 |_,_=>False
theorem kl.len{E:aN} : ∀ {Ns bs:List Nat} {zs:List I},kl E Ns bs zs→bs.length=zs.length∧Ns.length=zs.length
 | [],[],[],_=>⟨rfl,rfl⟩
 |_::Ns,_::bs,_::zs,h=>by
  have:=kl.len h.2;simp[this.1,this.2]
 | [],_::_,_,h=>h.elim
 | [],[],_::_,h=>h.elim
 |_::_,[],_,h=>h.elim
 |_::_,_::_,[],h=>h.elim
section
variable {P:Program} {n:Nat} {w:World} {D:aI} {E:aN} {rs:List bt} {post:bY} {fn:Func} {ch:List PanicEntry} {f:FuncId} {Ns bs:List Nat} {zs:List I}
theorem xm{A:ab}{a:Act}{w':World}{D':aI}{E':aN}{dT:Option (List Deferred)}(hs:aL ⟨P,w,D,n,bO E,E,fq,none,dT⟩ A a w' D' E'):∀ {Ns bs:List Nat} {zs:List I},kl E Ns bs zs→nc A Ns zs→kl E' Ns bs zs
 | [],[],[],_,_=>trivial
 |N::Ns,b::bs,z::zs,h,hx=>by
  refine ⟨?_,xm hs h.2 hx.2⟩;obtain ⟨x,hx,_⟩:=hx.1;have hob:cW _ w' D' E' N (some (.box x)):=hx▸hs.bx N;rcases hs.uy (n:=N) (e:=.aA b z.aK) h.1 rfl with k | k
  ·exact absurd k (pI hob)
  ·exact k
 | [],_::_,_,h,_=>h.elim
 | [],[],_::_,h,_=>h.elim
 |_::_,[],_,h,_=>h.elim
 |_::_,_::_,[],h,_=>h.elim
theorem AD(hrs:fK P fn.results.toList=some rs)(hEN:kl E Ns bs zs){A:ab}{D':aI}{E':aN}{u:FrameMode}(hx:nc A Ns zs)
  (hcase:(u=.returning∧iA rs post A∧qv P f zs.length)∨(u=.panicking ch∧iA rs post (mN A Ns zs)∧qq P f ch zs)) :
  ∀ (ds:List Deferred) (a:Act) (w':World),a.defers=ds→aL ⟨P,w,D,n,bO E,E,fq,none,some [jq f (bs.map jF)]⟩ A a w' D' E'→LeavesInM Fence.wide 9 P fn a.tmps (fun e w'=>∃ v,e=.returned v∧kq w D E post v w') ds u w'
 | [],a,w',hd,hs=>by
  have h1:a.defers=[jq f (bs.map jF)]:=hs.eb;rw[hd] at h1;cases h1
 |d::ds,a,w',hd,hs=>by
  have h1:a.defers=[jq f (bs.map jF)]:=hs.eb;rw[hd] at h1;simp only[Y6] at h1;obtain ⟨rfl,rfl⟩:=h1;refine ⟨by rcases hcase with ⟨rfl,_⟩ | ⟨rfl,_⟩ <;>simp,.inr ⟨fun _=>by decide,.func f,(bs.map jF).toArray,f,(bs.map jF).toArray,rfl,?_,fun _ _=>trivial,?_⟩⟩
  ·have hcb:dM P f=true:=by rcases hcase with ⟨_,_,h⟩ | ⟨_,_,h⟩ <;>exact h.1
   simp only[jq,invoke,lO hcb,Array.empty_append]
  ·rcases hcase with ⟨rfl,hr,hi⟩ | ⟨rfl,hr,hc⟩
   ·refine (hi.2 bs w' hEN.len.1).mono ?_;rintro e u' w'' ⟨⟨v,rfl⟩,rfl,rfl⟩;obtain ⟨v,h1,h2⟩:=hs.rJ hrs hr;exact ⟨v,h1,v,rfl,h2⟩
   ·refine (hc.2 _ A a w' D' E' Ns bs rfl hs (xm hs hEN hx) hx).mono ?_;rintro e u' w'' ⟨⟨v,rfl⟩,hu,hs2⟩;obtain ⟨v,h1,h2⟩:=hs2.rJ hrs hr;simp only[hu];exact ⟨v,h1,v,rfl,h2⟩
theorem Bv{w:World}{D:aI}{E:aN} : ∀ {Ns:List Nat} {zs:List I} {vs:List Value},dV (aO w D E) (Ns.map fun N=>.ptr N []) vs→(∀ q∈Ns.zip zs,∃ b,E q.1=some (.aA b q.2.aK))→Ns.length=zs.length→∃ bs,vs=bs.map jF∧kl E Ns bs zs
 | [],[],_,.nil,_,_=>⟨[],rfl,trivial⟩
 |N::Ns,z::zs,_,.cons h hs,hb,hl=>by
  obtain ⟨bs,rfl,h2⟩:=Bv (zs:=zs) hs (fun q hq=>hb q (by simp[hq])) (by simpa using hl);obtain ⟨b,aq⟩:=hb (N,z) (by simp);obtain ⟨b',aK,off,p1,p2,rfl⟩:=ka h;simp only at aq;rw[aq] at p1;simp only[v6,br.aA.injEq] at p1;obtain ⟨rfl,rfl⟩:=p1;have hoff:off=0:=by
   cases hz:z.aK <;>rw[hz] at p2 <;>simpa[bK.off] using p2.symm
  subst hoff;exact ⟨b::bs,rfl,aq,h2⟩
 | [],_::_,_,_,_,hl=>by simp at hl
 |_::_,[],_,_,_,hl=>by simp at hl
theorem qA{α:Type}{R:I→Value→Prop}{f:α→I}{g:α→Value}(h:∀ x,R (f x) (g x)):∀ l:List α,dV R (l.map f) (l.map g)
 | []=>.nil
 |x::l=>.cons (h x) (qA h l)
theorem Wo{rest:Code}{x:bj}{slots:List Nat}{a:Act}{args:List I}{os:List (Nat×ah)}{tss:List Nat}(hrs:fK P fn.results.toList=some rs)(hx:dL P n rest=some x)(hsz:a.tmps.size=n)(hd:a.defers=[jq f (tss.map fun t=>a.tmps.getD t undef)])(hos:∀ m,aB os m=true→n≤m∧1000000≤m)
  (hts:tss.map (b8 (slots.zip args))=Ns.map fun N=>.ptr N []) (hl:Ns.length=zs.length) (hN:∀ q∈Ns.zip zs,∃ y,aJ os q.1=some (.box y)∧y.aK=q.2.aK) (hi:qv P f zs.length) (hc:qq P f ch zs)
  (hAW:∀ (w:World) (D:aI) (E:aN) (d:Deferred),U ⟨P,w,D,n,bO E,E,fq,none,some [d]⟩ x (pT rs post ch Ns zs) (ay (slots.zip args) os)):lW (p7 P fn rest slots a) (fun w _ E=>ew P w (bO E)) args os post:=by
 intro w D E vs hl0 hD ho hv hvs;have hvs':vs=slots.map (fun t=>a.tmps.getD t undef):=by simpa using hvs
 subst hvs';have htm:=DI (fun t=>a.tmps.getD t undef) slots args hv;have hp:=qA htm tss;rw[hts] at hp;obtain ⟨bs,hbs,hat⟩:=Bv (zs:=zs) hp (fun q hq=>by
  obtain ⟨y,h1,h2⟩:=hN q hq;have hob:cW _ w D E q.1 (some (.box y)):=h1▸ho.bx q.1;obtain ⟨b',cs,T,e1,_⟩:=hob;exact ⟨b',by rw[e1,h2]⟩) hl
 rw[hbs] at hd;have hsim:aL ⟨P,w,D,n,bO E,E,fq,none,some [jq f (bs.map jF)]⟩ (ay (slots.zip args) os) a w D E:=by
  refine ⟨hsz,hd,htm,ej.refl _ _,fun _ _ h _=>h,hD,fun m =>?_,ho.ct,fun m e h=>.inr ⟨e,h,.refl e⟩,fun m hm =>?_,fun _ _ h=>h,ox hl0,.refl _ _⟩
  ·have h:=ho.bx m;simp only[ay];cases hx:aJ os m with
   |none=>rw[hx] at h;exact h
   |some x=>rw[hx] at h;exact cW.jb h fun e b he hb=>.inr ⟨m,e,he,hb⟩
  ·refine hos m ?_;cases hx:aJ os m with
   |none=>have h:=ho.bx m;rw[hx] at h;exact absurd h hm
   |some x=>simp[aB,hx]
 refine wpIn_mono ((hAW w D E _) rest hx a w ⟨D,E,hsim⟩) ?_;rintro e a' w' ⟨A,hq,D',E',hs⟩;have ba:∀ e w',(∃ v,e=Ending.returned v∧kq w D E post v w')→∃ v D' E' r os',e=.returned v∧post r os'∧aO w' D' E' r v∧iM (fun b=>w.heap.size≤b∨bO E b) w' D' E' (aJ os') ∧
   ej (fun b=>w.heap.size≤b∨bO E b) w w'∧(∀ b o,D b o→D' b o)∧(∀ b o,D' b o→b<w'.heap.size)∧(∀ b o,D' b o→b<w.heap.size→¬ bO E b→D b o) ∧
   (∀ n e,E n=some e→aB os' n=true→∃ e',E' n=some e'∧e.ff e')∧fH w D w':=fun e w' ⟨v,h1,D',E',r,os',h2⟩=>⟨v,D',E',r,os',h1,h2⟩
 cases e <;>simp only[pT] at hq
 ·obtain ⟨h1,h2⟩:=hq;exact nO ba _ _ _ (AD (ch:=ch) hrs hat h1 (.inl ⟨rfl,h2,hi⟩) a'.defers a' w' rfl hs)
 ·obtain ⟨rfl,h1,h2⟩:=hq;exact nO ba _ _ _ (AD hrs hat h1 (.inr ⟨rfl,h2,hc⟩) a'.defers a' w' rfl hs)
end
def oq:List av→Option (List Nat)
 | []=>some []
 | .t n::l=>(oq l).map (n :: ·)
 |_=>none
theorem DJ:∀ {l:List av} {ts:List Nat},oq l=some ts→l=ts.map .t
 | [],ts,h=>by simp only[oq,v6] at h;subst h;rfl
 | .t n::l,ts,h=>by
  simp only[oq,t7] at h;obtain ⟨r,h1,rfl⟩:=h;rw[DJ h1];rfl
 | .c _::_,_,h=>by simp[oq] at h
def tT(P:Program)(n:Nat):Code→Option (bj×FuncId×List Nat×Nat×bj)
 | .seq il (.seq (.region _ bh false) rest)=>match bh.toList with
  | [o1,o2]=>match kD P n bh o1,o2.op with
   |some ⟨some t5,.mk g caps,none⟩,.defer { callee:=.value (.tmp t),args,.. } =>if t=t5∧args = #[]∧o2.guard=none∧o2.dst=none then (match dL P n il,dL P n rest,oq caps with
     |some x0,some x,some tss=>some (x0,g,tss,t5,x)
     |_,_,_=>none)
    else none
   |_,_=>none
  |_=>none
 |_=>none
structure ER (P:Program) (n:Nat) (x:bj) (rs:List bt) (post:bY) (ch:List PanicEntry) (g:FuncId) (tss:List Nat) (t5:Nat) (tsl:List (Nat×I)) (os0:List (Nat×ah)) (ρ:List (Nat×Nat)) (os1:List (Nat×ah)) (slots:List Nat) (cargs:List I) (Ns:List Nat) (zs:List I) (post1:bY):Prop where
 bA:tss.map (b8 tsl)=Ns.map fun N=>.ptr (bp ρ N) []
 z6:eJ ρ os1 os0
 arg:fI false (ay ((t5,.func g (Ns.map fun N=>.ptr (bp ρ N) []))::tsl) (dO (ij ρ os1) os0)) ρ os1 (slots.map (b8 ((t5,.func g (Ns.map fun N=>.ptr (bp ρ N) []))::tsl))) cargs
 xg:∀ r os',post1 r os'→dC false ρ os1 os0 r os'
 Dn:tss.map (b8 (slots.zip cargs))=Ns.map fun N=>.ptr N []
 len:Ns.length=zs.length
 box:∀ q∈Ns.zip zs,∃ y,aJ os1 q.1=some (.box y)∧y.aK=q.2.aK
 lB:∀ m,aB os1 m=true→n≤m∧1000000≤m
 rest:∀ (w:World) (D:aI) (E:aN) (d:Deferred),U ⟨P,w,D,n,bO E,E,fq,none,some [d]⟩ x (pT rs post1 ch Ns zs) (ay (slots.zip cargs) os1)
 kv:∀ r os',post1 r os'→∃ osF,r.flat=true∧r.aR (bp ρ)=r∧(∀ m z,aJ osF m=some z→aJ (cX ρ os'++os0) m=some z∧z.only (aB osF)=true∧z.ef=true)∧post r osF
theorem Bw{w:World}{D:aI}{E:aN}{ρ:List (Nat×Nat)} : ∀ {Ns:List Nat} {vs vs':List Value},dV (aO w D E) (Ns.map fun N=>.ptr (bp ρ N) []) vs→dV (aO w D E) (Ns.map fun N=>.ptr (bp ρ N) []) vs'→vs=vs'
 | [],_,_,.nil,.nil=>rfl
 |N::Ns,_,_,.cons h hs,.cons h' hs'=>by
  obtain ⟨b1,sh1,off1,p1,p2,rfl⟩:=ka h;obtain ⟨b2,sh2,off2,q1,q2,rfl⟩:=ka h';rw[p1] at q1;simp only[v6,br.aA.injEq] at q1;obtain ⟨rfl,rfl⟩:=q1;rw[p2] at q2;simp only[v6] at q2;subst q2;rw[Bw hs hs']
theorem eI.Vo{P:Program}{f:FuncId}{fn:Func}{x0 x:bj}{g:FuncId}{tss:List Nat}{t5:Nat}{rs:List bt}{args:List I}{os:List (Nat×ah)}{post:bY}{ch:List PanicEntry}{zs:List I}(hf:P.funcs[f]?=some fn)(hcall:dM P f=true)(hc:(fn.body.bind (tT P fn.ntmps))=some (x0,g,tss,t5,x))
  (hrs:fK P fn.results.toList=some rs) (hn:args.length≤fn.ntmps) (hn2:fn.ntmps≤1000000) (hos:∀ m,aB os m=true→1000000≤m) (hi:qv P g zs.length) (hca:qq P g ch zs) (hts:tss.contains t5=false)
  (h:I.gq args→∀ (w:World) (D:aI) (E:aN),U ⟨P,w,D,fn.ntmps,bO E,E,fq,none,some []⟩ x0 (cP (fun B=>∃ tsl os0 ρ os1 slots cargs Ns post1,B=ay tsl os0∧ER P fn.ntmps x rs post ch g tss t5 tsl os0 ρ os1 slots cargs Ns zs post1) (fun _ _=>False)) (ay (bB 0 args) os)):eI P f args os post:=by
 obtain ⟨body,hb,hc⟩:=Option.bind_eq_some_iff.1 hc;refine ⟨hcall,fun w D E vs hl hD ho hv =>?_⟩;have hlen:=p8 hv;have s0:=wb (P:=P) (n:=fn.ntmps) (Y:=fq) hD ho hv (by omega) (fun m hm=>⟨Nat.le_trans hn2 (hos m hm),hos m hm⟩) (ox hl);have hsim:aL (qR P w D fn.ntmps E (some [])) (mV args os) { tmps:=vs.toArray++Array.replicate (fn.ntmps-vs.toArray.size) undef,defers:=[] } w D E :=
  ⟨s0.sz,rfl,s0.dx,s0.de,s0.cH,s0.cJ,s0.bx,s0.ct,s0.dv,s0.eB,s0.cq,ox hl,s0.eV⟩
 obtain ⟨RR,hRR⟩:∃ RR:Ending→World→Prop,RR=fun e w'=>∃ v,e=.returned v∧kq w D E post v w':=⟨_,rfl⟩
 refine Calls.mono (R:=RR) ?_ (fun e w' q=>by rw[hRR] at q;obtain ⟨v,he,D',E',r,os',k⟩:=q;exact ⟨v,D',E',r,os',he,k⟩);refine (callsIn_wide (n:=9)).1 (callsIn_of_wp_marks hf hb trivial ?_);unfold tT at hc;split at hc
 case h_2=>cases hc
 rename_i il id bh rest;split at hc
 case h_2=>cases hc
 rename_i o1 o2 hops;split at hc
 case h_2=>cases hc
 rename_i t5' g' caps t dargs _ hg1 ho2;split at hc
 case isFalse=>cases hc
 rename_i hok;obtain ⟨ht,hda,hgd,hdst⟩:=hok;split at hc
 case h_2=>cases hc
 rename_i y0 y tss' hx0 hx htt;simp only[v6,Prod.mk.injEq] at hc;obtain ⟨e1,e2,e3,e4,e5⟩:=hc;subst e4 ht hda e1 e2 e3 e5;have hcaps:=DJ htt;subst hcaps;refine wpIn_seq ?_;have hw0:=((h (og _ _ hv) w D E).sub (sP args os)) il hx0 _ w ⟨D,E,hsim⟩;refine wpIn_mono hw0 ?_;rintro e a1 w1 ⟨B,hq,D1,E1,hs1⟩;cases e <;>simp only[cP] at hq
 obtain ⟨tsl,os0,ρ,os1,slots,cargs,Ns,post1,rfl,R⟩:=hq;simp only[Exit.then];refine wpIn_seq (wpIn_region_list ?_);rw[hops];obtain ⟨q1,q2,q3,q4⟩:=nm hg1;simp only at q1 q2;have wn1:∀ a:Act,Region.wanted o1 (yielded bh a.tmps)=true:=fun a=>by
  rcases q4 with ⟨a5,_⟩ | ⟨_,_,_,_,_,a5⟩
  ·simp[Region.wanted,a5]
  ·simp at a5
 have wn2:∀ a:Act,Region.wanted o2 (yielded bh a.tmps)=true:=fun a=>by simp[Region.wanted,hgd]
 simp only[wpListIn,wn1,if_true];have hmk:aT (ay tsl os0) (.mk g' (tss'.map .t))=some (.func g' (Ns.map fun N=>.ptr (bp ρ N) [])):=by
  have e:(tss'.map av.t).map (ae (ay tsl os0))=Ns.map fun N=>.ptr (bp ρ N) []:=by
   rw[←R.bA,List.map_map];rfl
  simp only[aT,e];rw[if_pos];simp[I.cw]
 have d1:=(By (c:=qR P w D fn.ntmps E (some [])) q1 hmk).does q3;rw[←q2] at d1;refine d1.wp q1 ⟨D1,E1,hs1⟩ fun a2 w2 hs2 =>?_;obtain ⟨D2,E2,hs2⟩:=hs2;simp only[wn2,if_true];rw[AO] at hs2
 -- the deferred call
 have hglt:=yF hi.1;have hfv:=hs2.dx t;simp only[ay,b8,if_true] at hfv;obtain ⟨fc,f1,f2⟩:=hfv;simp only[af] at f2;obtain ⟨fvs,f3,f4⟩:=f2;have hval:a2.tmps.getD t undef=.func (.func g') #[] fvs.toArray:=by
  rw[←lA hglt];simpa[aW,I.isAgg,f3] using f1.symm
 have htl:tss'.map (b8 ((t,.func g' (Ns.map fun N=>.ptr (bp ρ N) []))::tsl))=Ns.map fun N=>.ptr (bp ρ N) []:=by
  rw[←R.bA];refine List.map_congr_left fun k hk =>?_;simp only[b8];rw[if_neg];intro e;have:tss'.contains k=true:=by simpa using hk
  rw[e,hts] at this;cases this
 have hfvs:fvs=tss'.map fun k=>a2.tmps.getD k undef:=by
  refine Bw (w:=w2) (D:=D2) (E:=E2) (ρ:=ρ) (od f4) ?_;have:=qA (f:=b8 ((t,.func g' (Ns.map fun N=>.ptr (bp ρ N) []))::tsl)) (g:=fun k=>a2.tmps.getD k undef) (fun k=>hs2.dx k) tss'
  rwa [htl] at this
 have hdf:a2.defers=[]:=hs2.eb;obtain ⟨a3,ha3⟩:∃ a3:Act,a3 = { a2 with defers:=[jq g' (tss'.map fun k=>a2.tmps.getD k undef)] } :=⟨_,rfl⟩
 have hrun:(o2.semAt Fence.wide.round a2.eval).run P w2=.ok (.defer (jq g' (tss'.map fun k=>a2.tmps.getD k undef))) w2:=by
  show (execOp a2.eval o2).run P w2=_
  have he:a2.eval (.tmp t)=.func (.func g') #[] fvs.toArray:=hval;simp[execOp,ho2,resolve,he,Deferred.ofValue,jq,hfvs]
 refine ⟨fun _ _=>trivial,?_⟩;rw[hrun,Oper.uponIn_defer,hdf,hdst];simp only[Exit.then];have hput:({ tmps:=a2.tmps,defers:=[jq g' (tss'.map fun k=>a2.tmps.getD k undef)] } : Act).put none undef=a3:=by rw[ha3];rfl
 rw[hput]
 -- the rest
 have hand:=Wo (P:=P) (n:=fn.ntmps) (fn:=fn) (f:=g') (Ns:=Ns) (zs:=zs) (ch:=ch) (slots:=slots) (a:=a3) (args:=cargs) (os:=os1) (tss:=tss') hrs hx (by rw[ha3];exact hs2.sz) (by rw[ha3]) R.lB R.Dn R.len R.box hi hca R.rest;have hs3:aL (qR P w D fn.ntmps E (some [jq g' (tss'.map fun k=>a2.tmps.getD k undef)])) (ay ((t,.func g' (Ns.map fun N=>.ptr (bp ρ N) []))::tsl) os0) a3 w2 D2 E2:=by
  rw[ha3];exact ⟨hs2.sz,rfl,hs2.dx,hs2.de,hs2.cH,hs2.cJ,hs2.bx,hs2.ct,hs2.dv,hs2.eB,hs2.cq,ox hl,hs2.eV⟩
 have hall:∀ l:List Nat,dV (aO w2 D2 E2) (l.map (b8 ((t,.func g' (Ns.map fun N=>.ptr (bp ρ N) []))::tsl))) (l.map fun k=>a3.tmps.getD k undef):=fun l=>qA (fun k=>hs3.dx k) l;have hus:=hand.use hs3 false (fun h hr=>h.mono hr) ⟨(fun h=>by cases h),fun _=>hs3.nN⟩ R.z6 R.arg R.xg (hall slots);refine p7.mono hus ?_ (by simp);rintro e w' ⟨v,r,os',D4,E4,rfl,hp,hs4,hv4,_⟩;rw[hRR];obtain ⟨osF,g1,g2,g3,g4⟩:=R.kv r os' hp;rw[g2] at hv4;exact ⟨v,rfl,hs4.T8 g3 g1 hv4 g4⟩
end Go.Abs
namespace Go.Abs
open Go Go.RowKit
open Enc (enc)
def qB(w:World):aI:=fun b _=>b<w.heap.size
end Go.Abs
namespace Go.Abs
open Go Go.RowKit Go.ChangeShapes
open Enc (enc)
def Xw(P:Program)(t:TypeId)(l:List (TypeId×Nat)):Bool:=match P.underlying t with
 |some (.struct fs)=>fs.toList.map (fun f=>(f.type,f.offset))==l
 |_=>false
def Aj(P:Program)(t:TypeId)(n:Nat)(e:TypeId):Bool:=match P.underlying t with
 |some (.array n' e')=>n'==n&&e'==e
 |_=>false
theorem TA{P:Program}{t:TypeId}{n:Nat}{e:TypeId}(h:Aj P t n e=true):P.underlying t=some (.array n e):=by
 unfold Aj at h;split at h
 ·rename_i n' e' ht;simp only[Z0,beq_iff_eq] at h;rw[ht,h.1,h.2]
 ·cases h
theorem VN{H:Type}{enc0:TypeId×Value→H}{P:Program}{f:Func}{s:ChangeSpec}{apart iW handsOn again:Bool}{W W':World}{args:Array Value}{v:Value}{ds gs:List (DataW H)}{before pa pv:List MemPlace}
  (hW:DataW.Whole enc0 P f.params.toList s.vars apart W args.toList ds gs before)
  (hres:∀ (b:Nat) (sp:Nat→Bool) (hd:Bool),DataW.TrodAll enc0 P W' b sp hd f.resultTypes.toList (v.resultList f.resultTypes.size) (s.fn H (ds++gs)).results [])
  (hargs:∀ sp:Nat→Bool,(∀ p∈before,sp p.block=true)→DataW.TrodAll enc0 P W' 0 sp true f.params.toList args.toList (s.fn H (ds++gs)).args pa)
  (hvars:∀ sp:Nat→Bool,(∀ p∈before,sp p.block=true)→DataW.TrodVars enc0 P W' sp s.vars (s.fn H (ds++gs)).vars pv)
  (hps:before=pa++pv) (hb:Below W.heap.size W W')
  (hok:∀ (j:Nat) (t:TypeId) (r:Value),f.resultTypes[j]?=some t→(v.resultList f.resultTypes.size)[j]?=some r→Value.okWide P W' .any 0 t r) :
  s.post enc0 P f apart iW handsOn again W args v W':=by
 have hlt:∀ p∈before,p.block<W.heap.size:=fun p hp=>by simpa using hW.lt p hp
 have hold:∀ p∈before,(fun b=>decide (b<W.heap.size)) p.block=true:=fun p hp=>by simpa using hlt p hp
 refine ⟨ds,gs,before,[],pa,pv,hW,hres _ _ _,hargs _ hold,hvars _ hold,World.keptBut_mono (fun p hp=>⟨hp,?_⟩) (hb.frame (· ∈ before)),fun _ =>?_⟩
 ·rw[hps,zz2] at hp;exact Or.inr hp
 ·obtain ⟨_,_,_,_,_,hz,hn⟩:=hW;refine ⟨hok,_,_,([]++pa)++pv,⟨[]++pa,pv,trodAll_append (hargs _ (fun _ _=>rfl)) (hres _ _ _),hvars _ (fun _ _=>rfl),rfl,?_,?_⟩,?_⟩
  ·intro b off hp;have hp':MemPlace.cell b off∈before:=by rw[hps];simpa using hp
   rw[hb.frozen (p:=⟨b,off,none⟩) (hlt _ hp')];exact hz b off hp'
  ·intro ha;have:=hn ha;rw[hps] at this;simpa using this
  ·intro p hp _;rw[hps];simpa using hp
structure tf (P:Program) (t:TypeId) (α:Type) [Enc α] (B:α→Prop):Prop where
 cells:P.cellsOf t=Enc.sz α
 Xy:0<Enc.sz α
 VE:∀ {H:Type} {enc0:TypeId×Value→H} {w:World} {fuel:Nat} {cs:List Value} {x:DataW H×List MemPlace},DataW.trod enc0 P w 0 (fun _=>true) true fuel t cs=some x→(∀ k∈x.1.weights P t,k≤reachBytes)→∃ a:α,B a∧af w (qB w) cG (enc a) cs
theorem TR{P:Program}{f:FuncId}{fn:Func}{s:ChangeSpec}{H:Type}{enc0:TypeId×Value→H}{W:World}{ds gs:List (DataW H)}{before:List MemPlace}{xs:List I}{tb:TypeId}{v0:Value}{t0:TypeId}{d0:DataW H}{p0:List MemPlace}{again handsOn iW:Bool}
  (hl:laidOutB P=true) (hpar:fn.params.toList=[t0]) (hds:ds=[d0]) (hgs:gs=[]) (hbef:before=p0)
  (hvars:s.vars=[]) (hfn:s.fn H [d0] = { results:=[.lit (.bool true)],args:=[d0] }) (hres:fn.resultTypes = #[tb]) (htb:P.underlying tb=some .bool)
  (hW:DataW.Whole enc0 P fn.params.toList s.vars false W #[v0].toList ds gs before)
  (h0:DataW.Trod enc0 P W 0 (fun _=>true) true t0 v0 d0 p0)
  (hr:∀ t∈[t0],P.readableRec t=true∧t<P.types.size)
  (hctr:aQ P f xs (enc true)) (hlaid:ew P W (fun _=>False)) (hv:al W (qB W) cG xs [v0]) :
  Calls P f #[v0] W fun e W'=>∃ v,e=.returned v∧s.post enc0 P fn false iW handsOn again W #[v0] v W':=by
 subst hds hgs;refine (hctr.2 W (qB W) [v0] hlaid (fun _ _ h=>h) hv).mono fun e W' ⟨v,D',he,hrv,hb,_,_⟩=>⟨v,he,?_⟩
 have hvb:v=.bool true:=j9 hrv;subst hvb;have hlt:∀ x∈before,x.block<W.heap.size:=fun x hx=>by simpa using hW.lt x hx
 rw[hbef] at hlt;refine VN (pa:=p0++[]) (pv:=[]) hW (fun _ _ _ =>?_) (fun sp hsp =>?_) (fun _ _ =>?_) (by rw[hbef];simp) hb ?_
 ·simp only[List.append_nil,hfn,hres];exact trodAll_mk1 (shut_bool htb true)
 ·simp only[List.append_nil,hfn,hpar];rw[hbef] at hsp;have aV:∀ {t:TypeId} {v:Value} {d:DataW H} {p:List MemPlace},t∈[t0]→DataW.Trod enc0 P W 0 (fun _=>true) true t v d p→(∀ x∈p,x∈p0)→DataW.Trod enc0 P W' 0 sp true t v d p:=fun ht h hp =>
   WideElems.Trod_stays hl (hr _ ht).1 (hr _ ht).2 h (fun x hx=>hb.same (hlt x (hp x hx))) (fun x hx=>hsp x (hp x hx))
  exact trodAll_mk1 (aV (by simp) h0 fun x hx=>by simp[hx])
 ·simp only[List.append_nil,hfn,hvars];rfl
 ·intro j t r hj hv';rw[hres] at hj hv'
  match j,hj,hv' with
  |0,hj,hv' =>
   simp[Value.resultList] at hj hv';subst hj;subst hv';simp[Value.okWide,htb,Cell.okWide,Cell.ok]
end Go.Abs
