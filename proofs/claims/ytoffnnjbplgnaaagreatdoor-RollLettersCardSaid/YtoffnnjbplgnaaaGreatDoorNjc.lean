/-
  A part of the proof that the law RollLetters returns true for every input; five variables of Go's library start as the text lays them (the card ties them); conditions: none beyond the statement's own. (part 3 of 7)
-/
import Derived.Test.YtoffnnjbplgnaaaGreatDoorChecked
import Derived.KernelRfl
import Derived.RangeFuncIn
import Derived.Test.YtoffnnjbplgnaaaGreatDoorNjb
set_option linter.unusedSimpArgs false
set_option linter.unusedVariables false
set_option maxHeartbeats 16000000
set_option maxRecDepth 100000
namespace Go.Abs
open Go Go.RowKit
def bT(ts:List (Nat×I)):List (Nat×I)→Prop
 | []=>True
 |(k,v)::r=>cE ts k=v∧bT ts r
def bZ(os:List (Nat×al)):List (Nat×al)→Prop
 | []=>True
 |(k,v)::r=>aq os k=some v∧bZ os r
def bU(p:Nat→Bool):List (Nat×I)→Prop
 | []=>True
 |(_,v)::r=>v.only p=true∧bU p r
theorem AH{ts:List (Nat×I)} : ∀ {ts':List (Nat×I)},bT ts ts'→∀ k,cE ts' k=.dv∨cE ts' k=cE ts k
 | [],_,k=>.inl rfl
 |(j,v)::r,h,k=>by
  simp only[bT] at h;simp only[cE];split
  ·rename_i hk;subst hk;exact .inr h.1.symm
  ·exact AH h.2 k
theorem JC{os:List (Nat×al)} : ∀ {os':List (Nat×al)},bZ os os'→∀ k,aq os' k=none∨aq os' k=aq os k
 | [],_,k=>.inl rfl
 |(j,v)::r,h,k=>by
  simp only[bZ] at h;simp only[aq];split
  ·rename_i hk;subst hk;exact .inr h.1.symm
  ·exact JC h.2 k
theorem zF{p:Nat→Bool} : ∀ {ts:List (Nat×I)},bU p ts→∀ k,(cE ts k).only p=true
 | [],_,k=>by simp[cE,I.only]
 |(j,v)::r,h,k=>by
  simp only[bU] at h;simp only[cE];split
  ·exact h.1
  ·exact zF h.2 k
theorem zE{p:Nat→Bool} : ∀ {os:List (Nat×al)},bB p os→∀ k x,aq os k=some x→x.only p=true
 | [],_,k,x,hx=>by simp[aq] at hx
 |(j,v)::r,h,k,x,hx=>by
  simp only[bB] at h;simp only[aq] at hx;split at hx
  ·simp only[v6] at hx;subst hx;exact h.1
  ·exact zE h.2 k x hx
theorem bt.cF{ts ts':List (Nat×I)}{os os':List (Nat×al)}(h1:bT ts ts')(h2:bZ os os')(h3:bU (ay os') ts')(h4:bB (ay os') os'):bt (aC ts os) (aC ts' os'):=by
 rintro c a w ⟨D,E,hs⟩;have hp:∀ n,ay os' n=true→(if ay os' n then E n else none)=E n:=fun n hn=>by simp[hn]
 refine ⟨D,fun n=>if ay os' n then E n else none,hs.sz,hs.fg,fun t =>?_,hs.dX,hs.df,hs.dy,fun n =>?_,fun n m e e' b h1 h2 h3 h4 =>?_,fun n e hn =>?_,hs.fu,hs.cR,hs.fO,hs.gq⟩
 ·have:=AH h1 t;rcases this with h | h
  ·simp only[aC];rw[h];simp[aV]
  ·refine aV.eF (p:=ay os') hp (zF h3 t) ?_;have:=hs.eG t;simp only[aC] at *;rw[h];exact this
 ·have ho:=hs.bG n;simp only[aC] at *;rcases JC h2 n with h | h
  ·rw[h];simp[dc,ay,h]
  ·rw[h];by_cases hin:aq os n=none
   ·rw[hin];simp[dc,ay,h,hin]
   ·have aE:(if ay os' n then E n else none)=E n:=hp n (by simp[ay,h];cases hh:aq os n <;>simp_all);cases hx:aq os n with
    |none=>exact absurd hx hin
    |some x =>
     have hon:=zE h4 n x (h.trans hx);rw[hx] at ho;cases x with
     |box x =>
      obtain ⟨b,cs,T,k1,k2,k3,k4,k5⟩:=ho;exact ⟨b,cs,T,aE.trans k1,k2,k3,ai.eF hp _ _ (by simpa[al.only] using hon) k4,k5⟩
     |b6 T sz es =>
      obtain ⟨aL,k1,k2,k3⟩:=ho;refine ⟨aL,aE.trans k1,k2,?_⟩;cases aL with
      |none=>exact k3
      |some bc =>
       obtain ⟨b,cap⟩:=bc;obtain ⟨cs,pre,rest,q1,q2,q3,q4,q5⟩:=k3;exact ⟨cs,pre,rest,q1,q2,q3,aK.eF hp _ _ (by simpa[al.only] using hon) q4,q5⟩
     |eN T xs =>
      obtain ⟨aL,k1,k2,k3⟩:=ho;exact ⟨aL,aE.trans k1,k2,k3⟩
     |dU x =>
      obtain ⟨b,k1,k2⟩:=ho;exact ⟨b,aE.trans k1,k2⟩
     |cI ks vs =>
      obtain ⟨b,es,ck,k1,k2,k3,k4,k5,k6,k7⟩:=ho;simp only[al.only,zz0] at hon;exact ⟨b,es,ck,aE.trans k1,k2,k3,k4,aD.eF hp _ _ hon.1 k5,aD.eF hp _ _ hon.2 k6,k7⟩
     |it ks vs left cur =>
      obtain ⟨r,b,es,ck,eM,se,la,k1,k2,k3,k4,k5,k6,k7⟩:=ho;simp only[al.only,zz0] at hon;exact ⟨r,b,es,ck,eM,se,la,aE.trans k1,k2,k3,k4,aD.eF hp _ _ hon.1 k5,aD.eF hp _ _ hon.2 k6,k7⟩
 ·refine hs.cV n m e e' b ?_ ?_ h3 h4
  ·split at h1
   ·exact h1
   ·cases h1
  ·split at h2
   ·exact h2
   ·cases h2
 ·by_cases hi:ay os' n=true
  ·simp only[hi,if_true];exact hs.ev n e hn
  ·simp only[hi];exact .inl rfl
def bC:Nat→List I→List (Nat×I)
 |_,[]=>[]
 |k,a::aS9=>(k,a)::bC (k+1) aS9
theorem F5:∀ (aS9:List I) (k t:Nat),cE (bC k aS9) t=if t<k then .dv else (aS9[t-k]?).getD .dv
 | [],k,t=>by simp[bC,cE]
 |a::aS9,k,t=>by
  simp only[bC,cE,F5 aS9 (k+1) t];by_cases h:t=k
  ·subst h;simp
  ·rw[if_neg h];by_cases h2:t<k
   ·rw[if_pos (by omega),if_pos h2]
   ·rw[if_neg (by omega),if_neg h2,show t-k=(t-(k+1))+1 from by omega];simp
theorem wQ(args:List I)(os:List (Nat×al)):bt (pX args os) (aC (bC 0 args) os):=by
 rintro c a w ⟨D,E,hs⟩;refine ⟨D,E,hs.sz,hs.fg,fun t =>?_,hs.dX,hs.df,hs.dy,hs.bG,hs.cV,hs.ev,hs.fu,hs.cR,hs.fO,hs.gq⟩;have:=hs.eG t;simp only[aC,F5,pX,Nat.not_lt_zero,if_false,Nat.sub_zero] at *;cases h:args[t]? with
 |none=>simp[aV]
 |some x=>simpa[zz2,h] using this
theorem ahp(args:List I):bt (oP args) (aC (bC 0 args) []):=wQ args []
theorem Gb(ts:List (Nat×I))(os:List (Nat×al))(d:Nat)(v:I):(aC ts os).put d v=aC ((d,v)::ts) os:=rfl
theorem Gc(ts:List (Nat×I))(os:List (Nat×al))(d:Nat)(v:I):(aC ts os).aR (some d) v=aC ((d,v)::ts) os:=rfl
theorem aeq(A:af)(v:I):A.aR none v=A:=rfl
theorem zl(ts:List (Nat×I))(os:List (Nat×al))(d:Nat)(x:al):(aC ts os).aM d x=aC ts ((d,x)::os):=rfl
theorem aer(ts:List (Nat×I))(os:List (Nat×al))(k:Nat):(aC ts os).t k=cE ts k:=rfl
theorem aep(ts:List (Nat×I))(os:List (Nat×al))(k:Nat):(aC ts os).o k=aq os k:=rfl
theorem bJ(j:Nat)(v:I)(r:List (Nat×I))(k:Nat):cE ((j,v)::r) k=if k=j then v else cE r k:=rfl
theorem dz(j:Nat)(v:al)(r:List (Nat×al))(k:Nat):aq ((j,v)::r) k=if k=j then some v else aq r k:=rfl
theorem F3(k:Nat):aq [] k=none:=rfl
theorem Sg(A:af)(k:Nat):aj A (.t k)=A.t k:=rfl
theorem Sf(A:af)(x:I):aj A (.c x)=x:=rfl
noncomputable def c6(d:Option Nat)(rest:List aF)(A:af)(v:I):cD:=au rest (A.aR d v)
theorem adL(d:Option Nat)(rest:List aF)(A:af)(v:I):c6 d rest A v=au rest (A.aR d v):=rfl
theorem LX(v:I)(k:I→cD):cL (some v) k=k v:=rfl
theorem Lb(A:af):au [] A=.done A:=rfl
noncomputable def bx(A:af)(d:Option Nat)(op:bH)(rest:List aF):cD:=aX A d op rest (au rest)
noncomputable def iB(x:I)(b:Bool)(d:Option Nat)(op:bH)(rest:List aF)(A:af):cD :=
 match x with
 | .bool b'=>if b'=b then bx A d op rest else au rest (A.aR d .undef)
 | .undef=>au rest (A.aR d .undef)
 |_=>.fail
theorem aY.guard{P:Program}{Y:Value→List I→List (Nat×al)→cv→Prop}{dr:Bool}{K:af→Prop}{x b:Bool}{d:Option Nat}{op:bH}{rest:List aF}{A:af}(h1:x=b→aY P Y dr K (bx A d op rest))(h2:x = !b→aY P Y dr K (au rest (A.aR d .undef))):aY P Y dr K (iB (.bool x) b d op rest A):=by
 unfold iB;by_cases h:x=b
 ·simp only[if_pos h];exact h1 h
 ·simp only[if_neg h];exact h2 (by cases x <;>cases b <;>simp_all)
def I.dC:I→Option (List I)
 | .agg fs=>some fs
 |_=>none
def od(p:List Nat):Option I→Option I
 |some f=>f.at p
 |none=>none
def iv(i:Nat)(p:List Nat):Option (List I)→Option I
 |some fs=>od p fs[i]?
 |none=>none
theorem jy(c:I):c.at []=some c:=by cases c <;>rfl
theorem sf(c:I)(i:Nat)(p:List Nat):c.at (i::p)=iv i p c.dC:=by
 cases c <;>first | rfl | (rename_i fs;simp only[I.at,iv,I.dC,od])
def rG(fs:List I)(i:Nat)(p:List Nat)(v:I):Option I→I
 |some f=>.agg (fs.set i (f.dR p v))
 |none=>.agg fs
def pR(c:I)(i:Nat)(p:List Nat)(v:I):Option (List I)→I
 |some fs=>rG fs i p v fs[i]?
 |none=>c
theorem ez(c v:I):c.dR [] v=v:=by cases c <;>rfl
theorem wG(c:I)(i:Nat)(p:List Nat)(v:I):c.dR (i::p) v=pR c i p v c.dC:=by
 cases c <;>first | rfl | (rename_i fs;simp only[I.dR,pR,I.dC];cases fs[i]? <;>rfl)
def dM(p:List Nat):Option al→Option I
 |some (.box c)=>c.at p
 |_=>none
def gJ(A:af):I→Option I
 | .ref x=>some x
 | .ptr n p=>dM p (A.o n)
 |_=>none
theorem ly(A:af)(x:I):ct A x=gJ A x:=by
 cases x <;>first | rfl | (rename_i n p;simp only[ct,gJ];cases A.o n with | none=>rfl | some y=>cases y <;>rfl)
def oC(s:Option Nat)(x:I):Option I:=if bS s x=true then some x else none
def gS(s:Option Nat):Option I→Option I
 |some x=>oC s x
 |none=>none
open Classical in
noncomputable def e9(fs:List I)(f off:Nat)(y:I):Option I:=if f<fs.length∧I.sizes (fs.take f)=off then some y else none
noncomputable def sA(n:Nat)(p:List Nat)(f off:Nat):Option (List I)→Option I
 |some fs=>e9 fs f off (.ptr n (p++[f]))
 |none=>none
noncomputable def sy(fs:List I)(f off:Nat):Option I→Option I
 |some v=>e9 fs f off (.ref v)
 |none=>none
noncomputable def uS(f off:Nat):Option (List I)→Option I
 |some fs=>sy fs f off fs[f]?
 |none=>none
def eC:Option I→Option (List I)
 |some x=>x.dC
 |none=>none
noncomputable def oi(A:af)(f off:Nat):I→Option I
 | .ref c=>uS f off c.dC
 | .ptr n p=>sA n p f off (eC (dM p (A.o n)))
 |_=>none
theorem afU(A:af)(f off:Nat)(x:aJ):bf A (.fa f off x)=oi A f off (aj A x):=by
 simp only[bf];generalize aj A x=y;cases y with
 |ref c =>
  cases c <;>simp only[oi,I.dC,uS]
  rename_i fs;cases h:fs[f]? with
  |none=>simp[sy]
  |some v =>
   have hl:f<fs.length:=(zy4.1 h).1;simp only[sy,e9,hl,true_and]

 |ptr n p =>
  simp only[oi,ly,gJ];cases dM p (A.o n) with
  |none=>simp[eC,sA]
  |some c =>
   cases c <;>simp only[eC,I.dC,sA]
   simp only[e9]

 |_=>simp only[oi]
noncomputable def qF(f off:Nat)(s:Option Nat):Option (List I)→Option I
 |some fs=>match fs[f]? with
  |some v=>(e9 fs f off v).bind (oC s)
  |none=>none
 |none=>none
theorem afV(A:af)(f off:Nat)(s:Option Nat)(x:aJ):bf A (.fl f off s x)=qF f off s (aj A x).dC:=by
 simp only[bf];generalize aj A x=y;cases y <;>simp only[qF,I.dC]
 rename_i fs;cases h:fs[f]? with
 |none=>rfl
 |some v =>
  have hl:f<fs.length:=(zy4.1 h).1;simp only[e9,hl,true_and];by_cases h1:I.sizes (fs.take f)=off <;>by_cases h2:bS s v=true <;>simp[h1,h2,oC]
open Classical in
noncomputable def gN(k:Int)(n:Nat)(y:Option I):Option I:=if 0≤k∧k<n then y else none
noncomputable def jl(n esz:Nat)(fs:List I)(y:Option I):Option I:=if gL n esz fs=true then y else none
noncomputable def qH(n esz:Nat)(k:Int):Option (List I)→Option I
 |some fs=>jl n esz fs ((fs[k.toNat]?).map .ref)
 |none=>none
noncomputable def lF(n esz m:Nat)(p:List Nat)(k:Int):Option (List I)→Option I
 |some fs=>jl n esz fs (some (.ptr m (p++[k.toNat])))
 |none=>none
noncomputable def fY(A:af)(n esz:Nat)(k:Int):I→Option I
 | .ref c=>gN k n (qH n esz k c.dC)
 | .ptr m p=>gN k n (lF n esz m p k (eC (dM p (A.o m))))
 |_=>none
noncomputable def sK(A:af)(n esz:Nat)(x:I):I→Option I
 | .int _ k=>fY A n esz k x
 |_=>none
theorem afW(A:af)(n esz:Nat)(x i:aJ):bf A (.ia n esz x i)=sK A n esz (aj A x) (aj A i):=by
 simp only[bf];generalize aj A x=y;generalize aj A i=z;cases z <;>simp only[sK]
 rename_i kk k;cases y with
 |ref c =>
  simp only[fY,gN];split
  ·cases c <;>simp only[I.dC,qH,jl]
  ·rfl
 |ptr m p =>
  simp only[fY,gN,ly,gJ];split
  ·cases dM p (A.o m) with
   |none=>simp[eC,lF]
   |some c=>cases c <;>simp only[eC,I.dC,lF,jl]
  ·rfl
 |_=>simp only[fY];split <;>rfl
open Classical in
noncomputable def mw(m:Nat)(p:List Nat)(sz lo l esz:Nat)(k:Int):Option (List I)→Option I
 |some _=>if sz=esz∧0≤k∧k<l then some (.ptr m (p++[lo+k.toNat])) else none
 |none=>none
open Classical in
noncomputable def jY(A:af)(esz:Nat)(k:Int):I→Option I
 | .slice sz es=>if sz=esz∧0≤k∧k<es.length then (es[k.toNat]?).map .ref else none
 | .own m l=>match A.o m with
  |some (.b6 _ sz es)=>if l=es.length∧sz=esz∧0≤k∧k<es.length then (es[k.toNat]?).map .ref else none
  |_=>none
 | .view m p sz lo l=>mw m p sz lo l esz k (eC (dM p (A.o m)))
 |_=>none
noncomputable def sO(A:af)(esz:Nat)(x:I):I→Option I
 | .int _ k=>jY A esz k x
 |_=>none
theorem afX(A:af)(esz:Nat)(x i:aJ):bf A (.is esz x i)=sO A esz (aj A x) (aj A i):=by
 simp only[bf];generalize aj A x=y;generalize aj A i=z;cases z <;>simp only[sO]
 cases y <;>simp only[jY]
 ·split <;>simp_all
 ·rename_i m p sz lo l;simp only[ly,gJ];cases dM p (A.o m) with
  |none=>rfl
  |some c=>cases c <;>simp only[eC,I.dC,mw]
noncomputable def ov(n esz:Nat)(s:Option Nat)(k:Int):Option (List I)→Option I
 |some fs=>gN k n (jl n esz fs (gS s fs[k.toNat]?))
 |none=>none
noncomputable def sR(n esz:Nat)(s:Option Nat)(x:I):I→Option I
 | .int _ k=>ov n esz s k x.dC
 |_=>none
theorem afY(A:af)(n esz:Nat)(s:Option Nat)(x i:aJ):bf A (.ix n esz s x i)=sR n esz s (aj A x) (aj A i):=by
 simp only[bf];generalize aj A x=y;generalize aj A i=z;cases z <;>simp only[sR]
 rename_i kk k;cases y <;>simp only[I.dC,ov]
 case agg fs =>
  simp only[gN,jl];split
  ·split
   ·cases fs[k.toNat]? <;>rfl
   ·rfl
  ·rfl
 all_goals (split <;>rfl)
def kV(A:af):I→Option I
 | .slice _ es=>some (.int .i64 es.length)
 | .nils _=>some (.int .i64 0)
 | .c0 _=>some (.int .i64 0)
 | .own m l=>match A.o m with | some (.b6 _ _ es)=>if l=es.length then some (.int .i64 es.length) else none | _=>none
 | .view _ _ _ _ k=>some (.int .i64 k)
 |_=>none
theorem af0(A:af)(x:aJ):bf A (.len x)=kV A (aj A x):=by
 simp only[bf];generalize aj A x=y;cases y <;>rfl
open Classical in
noncomputable def p8(n esz:Nat)(fs:List I)(y:I):Option I:=if gL n esz fs=true∧n≤maxLen∧n≠0 then some y else none
noncomputable def tT(n esz m:Nat)(p:List Nat):Option (List I)→Option I
 |some fs=>p8 n esz fs (.view m p esz 0 n)
 |none=>none
noncomputable def JN(n esz:Nat):Option (List I)→Option I
 |some fs=>p8 n esz fs (.slice esz fs)
 |none=>none
noncomputable def p7(A:af)(n esz:Nat):I→Option I
 | .ptr m p=>tT n esz m p (eC (dM p (A.o m)))
 | .ref c=>JN n esz c.dC
 |_=>none
theorem af1(A:af)(n esz:Nat)(x:aJ):bf A (.va n esz x)=p7 A n esz (aj A x):=by
 simp only[bf];generalize aj A x=y;cases y with
 |ptr m p =>
  simp only[p7,ly,gJ];cases dM p (A.o m) with
  |none=>simp[eC,tT]
  |some c=>cases c <;>simp only[eC,I.dC,tT,p8] <;>(split <;>simp_all)
 |ref c=>cases c <;>simp only[p7,I.dC,JN,p8] <;>(split <;>simp_all)
 |_=>simp only[p7]
theorem afZ(A:af)(s:Option Nat)(x:aJ):bf A (.ld s x)=gS s (gJ A (aj A x)):=by
 simp only[bf,ly];cases gJ A (aj A x) <;>simp only[gS,oC]
noncomputable def tl(A:af)(d:Option Nat)(a b:aJ)(rest:List aF):I→cD
 | .bool t=>au rest (A.aR d (if t then aj A a else aj A b))
 |_=>.fail
noncomputable def tQ(op:UnOp)(x:I):Option I:=match op,x with
  | .not,.bool b=>some (.bool !b)
  | .neg,.int k n=>some (.int k (k.wrap (0-n)))
  | .xor,.int k n=>some (.int k (qw k n))
  |_,_=>none
def yh(i:Nat):I→Option I
 | .tuple fs=>fs[i]?
 |_=>none
def xP(k:IntKind):I→Option I
 | .int _ n=>some (.int k (k.wrap n))
 |_=>none
noncomputable def xm(A:af)(d:Nat)(z:I)(rest:List aF):Option al→cD
 |none=>au rest ((A.aM d (.box z)).put d (.ptr d []))
 |some _=>.fail
noncomputable def ux(A:af)(d:Nat)(z:I)(rest:List aF)(v:Bool):cD:=if v=true then au rest ((A.aM d (.box z)).put d (.ptr d [])) else .fail
noncomputable def uw(A:af)(d:Nat)(z:I)(rest:List aF):Option al→cD
 |none=>ux A d z rest z.cm
 |some _=>.fail
open Classical in
noncomputable def de(A:af)(s:Option Nat)(n:Nat)(p:List Nat)(b v:I)(rest:List aF):Option I→cD
 |some old=>if zD s v old then au rest (A.aM n (.box (b.dR p v))) else .fail
 |none=>.fail
noncomputable def wO(A:af)(s:Option Nat)(n:Nat)(p:List Nat)(v:I)(rest:List aF):Option al→cD
 |some (.box b)=>de A s n p b v rest (b.at p)
 |_=>.fail
noncomputable def wN(A:af)(s:Option Nat)(v:I)(rest:List aF):I→cD
 | .ptr n p=>wO A s n p v rest (A.o n)
 |_=>.fail
noncomputable def sk(A:af)(d:Option Nat)(args:List I)(rest:List aF):I→cD
 | .func f caps=>.call (ml f) (jk f args caps) (bO true A (jk f args caps)) (bO false A (jk f args caps)) d rest A
 | .raw v=>.nc v args d rest A
 |_=>.fail
section
variable (d:Option Nat) (rest:List aF) (A:af)
theorem KU(op:bH):au (⟨d,op,none⟩::rest) A=bx A d op rest:=rfl
theorem KV(op:bH)(t:Nat)(b:Bool):au (⟨d,op,some (t,b)⟩::rest) A=iB (A.t t) b d op rest A:=rfl
theorem acq(op:bH):iB (.bool true) true d op rest A=bx A d op rest:=by simp[iB]
theorem acn(op:bH):iB (.bool false) false d op rest A=bx A d op rest:=by simp[iB]
theorem acp(op:bH):iB (.bool true) false d op rest A=au rest (A.aR d .undef):=by simp[iB]
theorem aco(op:bH):iB (.bool false) true d op rest A=au rest (A.aR d .undef):=by simp[iB]
theorem acr(op:bH)(b:Bool):iB .undef b d op rest A=au rest (A.aR d .undef):=rfl
theorem ae9(x:aJ):bx A d (.mv x) rest=au rest (A.aR d (aj A x)):=rfl
theorem afd(c a b:aJ):bx A d (.pick c a b) rest=tl A d a b rest (aj A c):=by
 simp only[bx,aX,bf];cases aj A c <;>simp only[cL,tl]
theorem aeK(op:BinOp)(x y:aJ):bx A d (.bin op x y) rest=cL (b8 op (aj A x) (aj A y)) (c6 d rest A):=rfl
theorem aeU(ty:cK)(neg:Bool)(x y:aJ):bx A d (.eqv ty neg x y) rest=cL ((cA ty (aj A x) (aj A y)).map fun b=>.bool (if neg then !b else b)) (c6 d rest A):=rfl
theorem afi(op:UnOp)(x:aJ):bx A d (.un op x) rest=cL (tQ op (aj A x)) (c6 d rest A):=rfl
theorem aeS(k:IntKind)(x:aJ):bx A d (.conv k x) rest=cL (xP k (aj A x)) (c6 d rest A):=by
 simp only[bx,aX,bf];cases aj A x <;>rfl
theorem ae1(s:Option Nat)(x:aJ):bx A d (.ld s x) rest=cL (gS s (gJ A (aj A x))) (c6 d rest A):=by rw[←afZ];rfl
theorem aeW(f off:Nat)(x:aJ):bx A d (.fa f off x) rest=cL (oi A f off (aj A x)) (c6 d rest A):=by rw[←afU];rfl
theorem aeX(f off:Nat)(s:Option Nat)(x:aJ):bx A d (.fl f off s x) rest=cL (qF f off s (aj A x).dC) (c6 d rest A):=by rw[←afV];rfl
theorem aeY(n esz:Nat)(x i:aJ):bx A d (.ia n esz x i) rest=cL (sK A n esz (aj A x) (aj A i)) (c6 d rest A):=by rw[←afW];rfl
theorem aeZ(esz:Nat)(x i:aJ):bx A d (.is esz x i) rest=cL (sO A esz (aj A x) (aj A i)) (c6 d rest A):=by rw[←afX];rfl
theorem ae0(n esz:Nat)(s:Option Nat)(x i:aJ):bx A d (.ix n esz s x i) rest=cL (sR n esz s (aj A x) (aj A i)) (c6 d rest A):=by rw[←afY];rfl
theorem ae2(x:aJ):bx A d (.len x) rest=cL (kV A (aj A x)) (c6 d rest A):=by rw[←af0];rfl
theorem afj(n esz:Nat)(x:aJ):bx A d (.va n esz x) rest=cL (p7 A n esz (aj A x)) (c6 d rest A):=by rw[←af1];rfl
theorem aeL(zs:List I)(ps:List (Nat×aJ)):bx A d (.bld zs ps) rest=cL ((fi zs (ps.map fun p=>(p.1,aj A p.2))).map .agg) (c6 d rest A):=rfl
theorem aeV(x:aJ)(i:Nat):bx A d (.ext x i) rest=cL (yh i (aj A x)) (c6 d rest A):=by
 simp only[bx,aX,bf];cases aj A x <;>rfl
theorem ae5(f:FuncId)(caps:List aJ):bx A d (.mk f caps) rest=cL (if ((caps.map (aj A)).all fun y=>y.cm)=true then some (.func f (caps.map (aj A))) else none) (c6 d rest A):=rfl
theorem aeH(d:Nat)(z:I):bx A (some d) (.alloc z) rest=xm A d z rest (A.o d):=by
 simp only[bx,aX];cases A.o d <;>rfl
theorem aeM(d:Nat)(x:aJ):bx A (some d) (.box x) rest=uw A d (aj A x) rest (A.o d):=by
 simp only[bx,aX];cases A.o d <;>simp only[uw,ux]
theorem afh(s:Option Nat)(x v:aJ):bx A none (.aS s x v) rest=wN A s (aj A v) rest (aj A x):=by
 simp only[bx,aX];cases aj A x <;>simp only[wN]
 rename_i n p;cases A.o n with
 |none=>rfl
 |some y =>
  cases y <;>simp only[wO]
  rename_i b;cases b.at p <;>simp only[de]
theorem aeO(f:FuncId)(args:List aJ):bx A d (.call f args) rest=.call f (args.map (aj A)) (bO true A (args.map (aj A))) (bO false A (args.map (aj A))) d rest A:=rfl
theorem aeP(x:aJ)(args:List aJ):bx A d (.fF x args) rest=sk A d (args.map (aj A)) rest (aj A x):=by
 simp only[bx,aX];cases aj A x <;>rfl
end
end Go.Abs
namespace Go.Abs
open Go Go.RowKit
mutual
/-- Closed,and as a result is told: no nil slice but as the empty one. -/
def I.done:I→Bool
 | .agg fs=>I.gm fs
 | .slice _ es=>I.cG es
 | .ref x=>x.bF
 | .func f caps=>decide (f<1000000)&&I.gm caps
 | .iface _ v=>v.bF
 | .dA ks vs=>I.cG ks&&I.cG vs
 | .bool _ | .int _ _ | .ak _ | .nilp | .dO | .dh | .any | .raw _=>true
 |_=>false
def I.gm:List I→Bool
 | []=>true
 |x::xs=>x.done&&I.gm xs
end
mutual
theorem xX:∀ x:I,x.done=true→x.bF=true
 | .agg fs,h=>by simp only[I.done,I.bF] at *;exact qz fs h
 | .slice _ es,h=>by simpa only[I.done,I.bF] using h
 | .ref x,h=>by simpa only[I.done,I.bF] using h
 | .func _ caps,h=>by simp only[I.done,I.bF,zz0] at *;exact qz caps h.2
 | .iface _ v,h=>by simpa only[I.done,I.bF] using h
 | .bool _,_ | .int _ _,_ | .ak _,_ | .nilp,_ | .dO,_ | .dh,_ | .any,_ | .raw _,_=>by simp[I.bF]
 | .dA _ _,h=>by simpa only[I.done,I.bF] using h
 | .nils _,h | .c0 _,h | .ptr _ _,h | .own _ _,h | .view _ _ _ _ _,h | .mref _,h | .dx _,h | .undef,h | .dv,h | .tuple _,h=>by simp[I.done] at h
theorem qz:∀ xs:List I,I.gm xs=true→I.cG xs=true
 | [],_=>rfl
 |x::xs,h=>by
  simp only[I.gm,I.cG,zz0] at *;exact ⟨xX x h.1,qz xs h.2⟩
end
mutual
theorem El(aG:Bool)(A:af):∀ x:I,x.done=true→bh aG A x=some x
 | .agg fs,h=>by simp only[I.done,bh] at *;rw[pj aG A fs h];rfl
 | .slice _ es,h=>by simp only[I.done] at h;simp[bh,h]
 | .ref x,h=>by simp only[I.done] at h;simp[bh,h]
 | .func _ caps,h=>by simp only[I.done,bh,zz0,decide_eq_true_eq] at *;rw[if_pos h.1,pj aG A caps h.2];rfl
 | .iface _ v,h=>by simp only[I.done] at h;simp[bh,h]
 | .bool _,_ | .int _ _,_ | .ak _,_ | .nilp,_ | .dO,_ | .dh,_ | .any,_ | .raw _,_=>by simp[bh]
 | .dA _ _,h=>by simp only[I.done] at h;simp[bh,h]
 | .nils _,h | .c0 _,h | .ptr _ _,h | .own _ _,h | .view _ _ _ _ _,h | .mref _,h | .dx _,h | .undef,h | .dv,h | .tuple _,h=>by simp[I.done] at h
theorem pj(aG:Bool)(A:af):∀ xs:List I,I.gm xs=true→bO aG A xs=some xs
 | [],_=>by simp[bO]
 |x::xs,h=>by
  simp only[I.gm,zz0] at h;simp only[bO,El aG A x h.1,pj aG A xs h.2]
end
theorem RX{x:I}(h:x.done=true):x.cm=true:=by cases x <;>simp_all[I.done,I.cm]
class Enc (α:Type) where
 enc:α→I
 sz:Nat
 aN:cg
 gA:Bool
 done:∀ x,(enc x).done=true
 size:∀ x,(enc x).size=sz
 iI:∀ x,(enc x).aN=aN
 agg:∀ x,(enc x).isAgg=gA
open Enc (enc)
instance:Enc Int where
 enc n:=.int .i64 n
 sz:=1
 aN:=.one
 gA:=false
 done _:=rfl
 size _:=by simp[I.size]
 iI _:=by simp[I.aN]
 agg _:=rfl
instance:Enc Bool where
 enc b:=.bool b
 sz:=1
 aN:=.one
 gA:=false
 done _:=rfl
 size _:=by simp[I.size]
 iI _:=by simp[I.aN]
 agg _:=rfl
theorem qu{α:Type}[Enc α](l:List α):I.cG (l.map enc)=true:=by
 induction l with
 |nil=>rfl
 |cons x l ih=>simp only[zz9,I.cG,xX _ (Enc.done x),ih,Bool.and_self]
theorem RY{α:Type}[Enc α](l:List α):I.gm (l.map enc)=true:=by
 induction l with
 |nil=>rfl
 |cons x l ih=>simp only[zz9,I.gm,Enc.done x,ih,Bool.and_self]
theorem ag8{α:Type}[Enc α](l:List α):I.sizes (l.map enc)=l.length*Enc.sz α:=by
 rw[I.iJ (sz:=Enc.sz α) _ (by simp only[zx4];rintro x ⟨y,_,rfl⟩;exact Enc.size y)];simp
theorem rH{α:Type}[Enc α](l:List α):I.cB (l.map enc)=List.replicate l.length (Enc.aN α):=by
 induction l with
 |nil=>rfl
 |cons x l ih=>simp only[zz9,I.cB,Enc.iI x,ih,zx5,List.replicate_succ]
instance {α:Type} [Enc α]:Enc (List α) where
 enc l:=.slice (Enc.sz α) (l.map enc)
 sz:=1
 aN:=.one
 gA:=false
 done l:=by simp only[I.done];exact qu l
 size _:=by simp[I.size]
 iI _:=by simp[I.aN]
 agg _:=rfl
structure bd (n:Nat) (α:Type) where
 l:List α
 h:l.length=n
instance {n:Nat} {α:Type} [Enc α]:Enc (bd n α) where
 enc x:=.agg (x.l.map enc)
 sz:=n*Enc.sz α
 aN:=.dP (List.replicate n (Enc.aN α))
 gA:=true
 done x:=by simp only[I.done];exact RY x.l
 size x:=by simp only[I.size,ag8,x.h]
 iI x:=by simp only[I.aN,rH,x.h]
 agg _:=rfl
section
variable {α:Type} [Enc α]
theorem jW(aG:Bool)(A:af)(x:α):bh aG A (enc x)=some (enc x):=El aG A _ (Enc.done x)
theorem iR(x:α):(enc x).bF=true:=xX _ (Enc.done x)
theorem bg(p:Nat→Bool)(x:α):(enc x).only p=true:=nz p _ (iR x)
theorem dH(x:α):(enc x).cm=true:=RX (Enc.done x)
theorem DW(x:α):bS none (enc x) = !(Enc.gA α):=by simp[bS,Enc.agg]
theorem eQ(n:Nat)(x:α):bS (some n) (enc x)=(Enc.gA α&&Enc.sz α==n):=by simp[bS,Enc.agg,Enc.size]
theorem gK(x:α):(enc x).size=Enc.sz α:=Enc.size x
theorem cM(x:α):(enc x).aN=Enc.aN α:=Enc.iI x
theorem x9(n:Int):(enc n:I)=.int .i64 n:=rfl
theorem R4(n:Bool):(enc n:I)=.bool n:=rfl
theorem hG(l:List α):(enc l:I)=.slice (Enc.sz α) (l.map enc):=rfl
theorem uP:Enc.sz Int=1:=rfl
theorem uO(n:Nat):Enc.sz (bd n α)=n*Enc.sz α:=rfl
theorem R9:Enc.sz (List α)=1:=rfl
theorem R5:Enc.gA (List α)=false:=rfl
theorem sw(n esz:Nat)(l:List α)(h:l.length=n)(h2:Enc.sz α=esz):gL n esz (l.map enc)=true:=by
 simp only[gL,zz3,h,BEq.rfl,zu6,zx1,zx4];rintro x ⟨y,_,rfl⟩;simp[Enc.size,h2]
theorem K6(l:List α):∀ x∈l.map (enc (α:=α)),x.size=Enc.sz α:=by
 simp only[zx4];rintro x ⟨y,_,rfl⟩;exact Enc.size y
end
theorem eX(n:Int)(h1:-9223372036854775808≤n)(h2:n≤9223372036854775807):IntKind.i64.wrap n=n:=IntWalk.i64_in n ⟨h1,h2⟩
theorem aP.mk{P:Program}{f:FuncId}{fn:Func}{x:bn}{rs:List bu}{args:List I}{r:I}(hf:P.funcs[f]?=some fn)(hcall:eV P f=true)(hc:(fn.body.bind (eU P fn.ntmps))=some x)
  (hrs:iw P fn.results.toList=some rs) (hn:args.length≤fn.ntmps) (h:∀ (w:World) (D:aO) (E:aU),ab ⟨P,w,D,fn.ntmps,cu E,E,fS,none,none⟩ x (lR rs r) (aC (bC 0 args) [])):aP P f args r:=by
 obtain ⟨body,hb,hc'⟩:=zu1.1 hc;exact aP.vW hf hb hcall hc' hrs hn (fun w D E=>(h w D E).sub (ahp args))
end Go.Abs
namespace Go.Abs.C
open Go Go.Abs
abbrev o(a:Nat)(x:bH):aF:=⟨some a,x,none⟩
abbrev cw(a:Nat)(x:bH)(k:Nat):aF:=⟨some a,x,some (k,true)⟩
abbrev on(a:Nat)(x:bH)(k:Nat):aF:=⟨some a,x,some (k,false)⟩
abbrev p(x:bH):aF:=⟨none,x,none⟩
abbrev aW(n:Int):aJ:=.c (.int .i64 n)
abbrev T:aJ:=.c (.bool true)
abbrev bo:aJ:=.c (.bool false)
abbrev m(a b:Nat):aF:=⟨some a,.mv (.t b),none⟩
abbrev eW(a b k:Nat):aF:=⟨some a,.mv (.t b),some (k,true)⟩
abbrev dJ(a b k:Nat):aF:=⟨some a,.mv (.t b),some (k,false)⟩
abbrev bq(a:Nat)(n:Int):aF:=⟨some a,.mv (.c (.int .i64 n)),none⟩
abbrev l(a b:Nat):aF:=⟨some a,.ld none (.t b),none⟩
abbrev gC(a b k:Nat):aF:=⟨some a,.ld none (.t b),some (k,true)⟩
abbrev fQ(a b k:Nat):aF:=⟨some a,.ld none (.t b),some (k,false)⟩
abbrev ao(a s b:Nat):aF:=⟨some a,.ld (some s) (.t b),none⟩
abbrev f(a b c d:Nat):aF:=⟨some a,.fa b c (.t d),none⟩
abbrev eD(a b c d k:Nat):aF:=⟨some a,.fa b c (.t d),some (k,true)⟩
abbrev fn(a b c d k:Nat):aF:=⟨some a,.fa b c (.t d),some (k,false)⟩
abbrev ad(a b:Nat)(n:Int):aF:=⟨some a,.bin .add (.t b) (.c (.int .i64 n)),none⟩
abbrev lt(a b c:Nat):aF:=⟨some a,.bin .lss (.t b) (.t c),none⟩
abbrev and(a b c:Nat):aF:=⟨some a,.pick (.t b) (.t c) (.c (.bool false)),none⟩
abbrev or(a b c:Nat):aF:=⟨some a,.pick (.t b) (.c (.bool true)) (.t c),none⟩
abbrev no(a b:Nat):aF:=⟨some a,.un .not (.t b),none⟩
abbrev b(a c:Nat):aF:=⟨some a,.box (.t c),none⟩
abbrev s(x y:bn):bn:=.seq x y
abbrev r(g:List aF):bn:=.b9 none g
abbrev bX(P:Program)(f:Func)(c:bn):Prop:=f.body.bind (eU P f.ntmps)=some c
abbrev bV(P:Program)(f:Func)(r:List bu):Prop:=iw P f.results.toList=some r
abbrev bK(P:Program)(n:FuncId):Prop:=eV P n=true
theorem e{α:Type}{a b:α}(h:a=b):a=b:=h
end Go.Abs.C
namespace Go.Proofs.YtoffnnjbplgnaaaGreatDoor
open Go Go.Abs Go.Abs.C
def UA:=[o 4 (.mv bo)]
def UB:=[o 22 (.call 14 []),m 5 22]
def UM:=[m 24 0,o 25 (.call 68 [.t 24]),m 23 25,o 26 (.ext (.t 23) 0),o 27 (.ext (.t 23) 1),o 28 (.ext (.t 23) 2),o 6 (.alloc (.agg [.agg [.int .i64 0,.agg [.agg [.ak ⟨#[]⟩,.ak ⟨#[]⟩],.agg [.ak ⟨#[]⟩,.ak ⟨#[]⟩]],.nils 8,.agg [.agg [.int .i64 0,.int .i64 0,.int .i64 0,.int .i64 0,.int .i64 0,.int .i64 0],.agg [.int .i64 0,.int .i64 0,.int .i64 0,.int .i64 0,.int .i64 0,.int .i64 0],.agg [.int .i64 0,.int .i64 0,.int .i64 0,.int .i64 0,.int .i64 0,.int .i64 0],.agg [.int .i64 0,.int .i64 0,.int .i64 0,.int .i64 0,.int .i64 0,.int .i64 0],.agg [.int .i64 0,.int .i64 0,.int .i64 0,.int .i64 0,.int .i64 0,.int .i64 0],.agg [.int .i64 0,.int .i64 0,.int .i64 0,.int .i64 0,.int .i64 0,.int .i64 0]]],.agg [.int .i64 0,.agg [.agg [.ak ⟨#[]⟩,.ak ⟨#[]⟩],.agg [.ak ⟨#[]⟩,.ak ⟨#[]⟩]],.nils 8,.agg [.agg [.int .i64 0,.int .i64 0,.int .i64 0,.int .i64 0,.int .i64 0,.int .i64 0],.agg [.int .i64 0,.int .i64 0,.int .i64 0,.int .i64 0,.int .i64 0,.int .i64 0],.agg [.int .i64 0,.int .i64 0,.int .i64 0,.int .i64 0,.int .i64 0,.int .i64 0],.agg [.int .i64 0,.int .i64 0,.int .i64 0,.int .i64 0,.int .i64 0,.int .i64 0],.agg [.int .i64 0,.int .i64 0,.int .i64 0,.int .i64 0,.int .i64 0,.int .i64 0],.agg [.int .i64 0,.int .i64 0,.int .i64 0,.int .i64 0,.int .i64 0,.int .i64 0]]],.agg [.int .i64 0,.agg [.agg [.ak ⟨#[]⟩,.ak ⟨#[]⟩],.agg [.ak ⟨#[]⟩,.ak ⟨#[]⟩]],.nils 8,.agg [.agg [.int .i64 0,.int .i64 0,.int .i64 0,.int .i64 0,.int .i64 0,.int .i64 0],.agg [.int .i64 0,.int .i64 0,.int .i64 0,.int .i64 0,.int .i64 0,.int .i64 0],.agg [.int .i64 0,.int .i64 0,.int .i64 0,.int .i64 0,.int .i64 0,.int .i64 0],.agg [.int .i64 0,.int .i64 0,.int .i64 0,.int .i64 0,.int .i64 0,.int .i64 0],.agg [.int .i64 0,.int .i64 0,.int .i64 0,.int .i64 0,.int .i64 0,.int .i64 0],.agg [.int .i64 0,.int .i64 0,.int .i64 0,.int .i64 0,.int .i64 0,.int .i64 0]]]])),p (.aS (some 126) (.t 6) (.t 26)),m 7 27,m 8 28]
def UR:=[m 29 5,no 30 29,m 31 30,dJ 32 8 31,on 33 (.un .not (.t 32)) 31,or 34 31 33,m 35 34,dJ 36 7 35,on 37 (.len (.t 36)) 35,on 38 (.bin .gtr (.t 37) (aW 100)) 35,or 39 35 38]
def US:=[o 4 (.mv bo)]
def UT:=[bq 9 0]
def UU:=[m 40 9,o 41 (.bin .lss (.t 40) (aW 3))]
def UW:=[m 45 9,o 46 (.ia 3 42 (.t 6) (.t 45)),ao 47 42 46,m 48 1,o 49 (.call 63 [.t 47,.t 48]),m 44 49,o 50 (.ext (.t 44) 0),o 51 (.ext (.t 44) 1),o 10 (.alloc (.agg [.int .i64 0,.agg [.agg [.ak ⟨#[]⟩,.ak ⟨#[]⟩],.agg [.ak ⟨#[]⟩,.ak ⟨#[]⟩]],.nils 8,.agg [.agg [.int .i64 0,.int .i64 0,.int .i64 0,.int .i64 0,.int .i64 0,.int .i64 0],.agg [.int .i64 0,.int .i64 0,.int .i64 0,.int .i64 0,.int .i64 0,.int .i64 0],.agg [.int .i64 0,.int .i64 0,.int .i64 0,.int .i64 0,.int .i64 0,.int .i64 0],.agg [.int .i64 0,.int .i64 0,.int .i64 0,.int .i64 0,.int .i64 0,.int .i64 0],.agg [.int .i64 0,.int .i64 0,.int .i64 0,.int .i64 0,.int .i64 0,.int .i64 0],.agg [.int .i64 0,.int .i64 0,.int .i64 0,.int .i64 0,.int .i64 0,.int .i64 0]]])),p (.aS (some 42) (.t 10) (.t 50)),m 11 51]
def UX:=[m 53 9,o 54 (.ia 3 42 (.t 6) (.t 53)),f 55 2 5 54,l 56 55,o 57 (.call 41 [.t 56]),m 52 57,o 58 (.ext (.t 52) 0),o 59 (.ext (.t 52) 1),o 12 (.alloc (.agg [.nils 8])),p (.aS (some 1) (.t 12) (.t 58)),m 13 59]
def UY:=[f 61 2 5 10,l 62 61,o 63 (.call 41 [.t 62]),m 60 63,o 64 (.ext (.t 60) 0),o 65 (.ext (.t 60) 1),o 14 (.alloc (.agg [.nils 8])),p (.aS (some 1) (.t 14) (.t 64)),m 15 65]
def UC:=[ao 67 1 12,o 68 (.call 47 [.t 67]),m 66 68,o 69 (.ext (.t 66) 0),o 70 (.ext (.t 66) 1),o 16 (.alloc (.agg [.int .i64 0,.int .i64 0,.int .i64 0,.int .i64 0,.int .i64 0,.int .i64 0])),p (.aS (some 6) (.t 16) (.t 69)),m 17 70]
def UD:=[ao 72 1 14,o 73 (.call 47 [.t 72]),m 71 73,o 74 (.ext (.t 71) 0),o 75 (.ext (.t 71) 1),o 18 (.alloc (.agg [.int .i64 0,.int .i64 0,.int .i64 0,.int .i64 0,.int .i64 0,.int .i64 0])),p (.aS (some 6) (.t 18) (.t 74)),m 19 75]
def UE:=[m 76 11,o 77 (.bin .neq (.t 76) (aW 0)),m 78 77,dJ 79 13 78,on 80 (.bin .neq (.t 79) (aW 0)) 78,or 81 78 80,m 82 81,dJ 83 15 82,on 84 (.bin .neq (.t 83) (aW 0)) 82,or 85 82 84,m 86 85,dJ 87 17 86,on 88 (.bin .neq (.t 87) (aW 0)) 86,or 89 86 88,m 90 89,dJ 91 19 90,on 92 (.bin .neq (.t 91) (aW 0)) 90,or 93 90 92]
def UF:=[o 4 (.mv bo)]
def UG:=[bq 20 0]
def UH:=[m 94 20,o 95 (.bin .lss (.t 94) (aW 3))]
def UI:=[bq 21 0]
def UJ:=[m 98 21,o 99 (.bin .lss (.t 98) (aW 6))]
def UK:=[m 102 20,m 103 9,m 104 21,o 105 (.ia 3 42 (.t 6) (.t 102)),f 106 3 6 105,o 107 (.ia 6 6 (.t 106) (.t 103)),o 108 (.ia 6 1 (.t 107) (.t 104)),l 109 108,m 110 21,o 111 (.ia 6 1 (.t 16) (.t 110)),l 112 111,o 113 (.bin .gtr (.t 109) (.t 112)),m 114 113,dJ 115 20 114,dJ 116 9 114,dJ 117 21 114,on 118 (.ia 3 42 (.t 6) (.t 115)) 114,fn 119 3 6 118 114,on 120 (.ia 6 6 (.t 119) (.t 116)) 114,on 121 (.ia 6 1 (.t 120) (.t 117)) 114,fQ 122 121 114,dJ 123 21 114,on 124 (.ia 6 1 (.t 18) (.t 123)) 114,fQ 125 124 114,on 126 (.bin .gtr (.t 122) (.t 125)) 114,or 127 114 126]
def Q4:=some [[],[],[],[0],[3],[4,1],[5,2],[6],[],[8],[9],[7,10],[11],[12],[12],[12],[13,12],[16,12],[17,14,12],[18,15,12],[19,12],[12],[21,12],[22,12],[20,23,12],[12,24]]
def UL:=[o 4 (.mv bo)]
def UN:=[m 100 21,ad 101 100 1,m 21 101]
def UO:=[m 96 20,ad 97 96 1,m 20 97]
def UP:=[m 42 9,ad 43 42 1,m 9 43]
def UQ:=[o 4 (.mv T)]
def Ck:bn:=(s (r UA) (s (r UB) (s (r UM) (s (s (r UR) (.cond (.t 39) (s (r US) .ret) .skip)) (s (s (r UT) (.block 0 (.loop (s (s (r UU) (.cond (.t 41) .skip (.exit 0))) (s (.block 1 (s (r UW) (s (r UX) (s (r UY) (s (r UC) (s (r UD) (s (s (r UE) (.cond (.t 93) (s (r UF) .ret) .skip)) (s (r UG) (.block 2 (.loop (s (s (r UH) (.cond (.t 95) .skip (.exit 2))) (s (.block 3 (s (r UI) (.block 4 (.loop (s (s (r UJ) (.cond (.t 99) .skip (.exit 4))) (s (.block 5 (s (.b9 Q4 UK) (.cond (.t 127) (s (r UL) .ret) .skip))) (r UN))))))) (r UO))))))))))))) (r UP)))))) (s (r UQ) .ret))))))
def Hq:List bu:=[.tmp 4]
theorem N7:bX Tryz.prog Tryz.f13 Ck:=e (by kernel_rfl)
theorem PM:bV Tryz.prog Tryz.f13 Hq:=e (by kernel_rfl)
theorem Ms:bK Tryz.prog 13:=e (by kernel_rfl)
def Vg:=[o 0 (.mv bo)]
def Vh:=[o 21 (.bld [.int .i64 0,.int .i64 0] [(0,(aW 2))]),o 22 (.bld [.agg [.int .i64 0,.int .i64 0],.int .i64 0,.int .i64 0,.int .i64 0,.agg [.int .i64 0,.int .i64 0],.ak ⟨#[]⟩] [(0,(.t 21)),(1,(aW 5)),(2,(aW 10)),(3,(aW 12)),(5,(.c (.ak ⟨#[97]⟩)))]),o 1 (.alloc (.agg [.agg [.int .i64 0,.int .i64 0],.int .i64 0,.int .i64 0,.int .i64 0,.agg [.int .i64 0,.int .i64 0],.ak ⟨#[]⟩])),p (.aS (some 8) (.t 1) (.t 22))]
def Vk:=[ao 24 8 1,o 25 (.call 29 [(aW 1),.t 24]),m 23 25,o 26 (.ext (.t 23) 0),o 27 (.ext (.t 23) 1),o 28 (.ext (.t 23) 2),m 2 26,m 3 27,m 4 28]
def Vl:=[m 30 2,o 31 (.call 31 [(aW 1),.t 30]),m 29 31,o 32 (.ext (.t 29) 0),o 33 (.ext (.t 29) 1),o 34 (.ext (.t 29) 2),o 5 (.alloc (.agg [.agg [.int .i64 0,.int .i64 0],.int .i64 0,.int .i64 0,.int .i64 0,.agg [.int .i64 0,.int .i64 0],.ak ⟨#[]⟩])),p (.aS (some 8) (.t 5) (.t 32)),m 6 33,m 7 34]
def Vm:=[o 36 (.bld [.agg [.ak ⟨#[]⟩,.ak ⟨#[]⟩],.agg [.ak ⟨#[]⟩,.ak ⟨#[]⟩]] []),ao 37 8 1,o 38 (.call 35 [.t 36,(.c (.nils 8)),.t 37]),m 35 38,o 39 (.ext (.t 35) 0),o 40 (.ext (.t 35) 1),o 41 (.ext (.t 35) 2),o 8 (.alloc (.agg [.agg [.ak ⟨#[]⟩,.ak ⟨#[]⟩],.agg [.ak ⟨#[]⟩,.ak ⟨#[]⟩]])),p (.aS (some 4) (.t 8) (.t 39)),m 9 40,m 10 41]
def Vn:=[ao 43 4 8,o 44 (.call 22 [.t 43,(.c (.nils 1))]),o 45 (.call 18 [.t 44]),m 42 45,o 46 (.ext (.t 42) 0),o 47 (.ext (.t 42) 1),o 11 (.alloc (.agg [.agg [.ak ⟨#[]⟩,.ak ⟨#[]⟩],.agg [.ak ⟨#[]⟩,.ak ⟨#[]⟩]])),p (.aS (some 4) (.t 11) (.t 46)),m 12 47]
def Vo:=[ao 49 4 8,f 50 0 0 8,f 51 1 1 50,l 52 51,o 53 (.lenT (.t 52)),o 54 (.bs 3 1 [.t 53,(aW 0),(aW 0)]),o 55 (.call 22 [.t 49,.t 54]),o 56 (.call 18 [.t 55]),m 48 56,o 57 (.ext (.t 48) 0),o 58 (.ext (.t 48) 1),o 13 (.alloc (.agg [.agg [.ak ⟨#[]⟩,.ak ⟨#[]⟩],.agg [.ak ⟨#[]⟩,.ak ⟨#[]⟩]])),p (.aS (some 4) (.t 13) (.t 57)),m 14 58]
def Vp:=[ao 60 4 8,f 61 0 0 8,f 62 1 1 61,l 63 62,o 64 (.lenT (.t 63)),o 65 (.bs 3 1 [.t 64,(aW 1),(aW 3)]),o 66 (.call 22 [.t 60,.t 65]),o 67 (.call 18 [.t 66]),m 59 67,o 68 (.ext (.t 59) 0),o 69 (.ext (.t 59) 1),o 15 (.alloc (.agg [.agg [.ak ⟨#[]⟩,.ak ⟨#[]⟩],.agg [.ak ⟨#[]⟩,.ak ⟨#[]⟩]])),p (.aS (some 4) (.t 15) (.t 68)),m 16 69]
def Vq:=[ao 71 4 8,o 72 (.call 20 [.t 71]),o 73 (.call 24 [.t 72,bo]),o 74 (.call 18 [.t 73]),m 70 74,o 75 (.ext (.t 70) 0),o 76 (.ext (.t 70) 1),o 17 (.alloc (.agg [.agg [.ak ⟨#[]⟩,.ak ⟨#[]⟩],.agg [.ak ⟨#[]⟩,.ak ⟨#[]⟩]])),p (.aS (some 4) (.t 17) (.t 75)),m 18 76]
def Vr:=[m 77 4,o 78 (.bin .eql (.t 77) (aW 0)),m 79 78,eW 80 7 79,cw 81 (.bin .eql (.t 80) (aW 0)) 79,and 82 79 81,m 83 82,eW 84 10 83,cw 85 (.bin .eql (.t 84) (aW 0)) 83,and 86 83 85,m 87 86,eW 88 9 87,cw 89 (.len (.t 88)) 87,cw 90 (.bin .eql (.t 89) (aW 1)) 87,and 91 87 90,m 19 91]
def Vi:=[m 92 2,o 93 (.lenT (.t 92)),o 94 (.bin .gtr (.t 93) (aW 18)),m 95 94,eW 96 2 95,eW 97 2 95,cw 98 (.lenT (.t 97)) 95,cw 99 (.bin .sub (.t 98) (aW 18)) 95,cw 100 (.prim (.ss true false) [.t 96,.t 99]) 95,cw 101 (.bin .eql (.t 100) (.c (.ak ⟨#[50,32,48,32,53,32,49,48,32,49,50,32,48,32,48,32,97,10]⟩))) 95,and 102 95 101,m 20 102]
def Vj:=[m 103 19,m 104 103,eW 105 20 104,and 106 104 105,m 107 106,cw 108 (.ld (some 8) (.t 5)) 107,cw 109 (.ld (some 8) (.t 1)) 107,cw 110 (.eqv (.aS [(.aS [(.i .i64),(.i .i64)]),(.i .i64),(.i .i64),(.i .i64),(.aS [(.i .i64),(.i .i64)]),.s]) false (.t 108) (.t 109)) 107,and 111 107 110,m 112 111,eW 113 6 112,eW 114 3 112,cw 115 (.bin .eql (.t 113) (.t 114)) 112,and 116 112 115,m 117 116,eD 118 0 0 8 117,eD 119 1 1 118 117,gC 120 119 117,eW 121 2 117,cw 122 (.bin .eql (.t 120) (.t 121)) 117,and 123 117 122,m 124 123,eD 125 1 2 8 124,cw 126 (.ld (some 2) (.t 125)) 124,cw 127 (.bld [.ak ⟨#[]⟩,.ak ⟨#[]⟩] []) 124,cw 128 (.eqv (.aS [.s,.s]) false (.t 126) (.t 127)) 124,and 129 124 128,m 130 129,eW 131 12 130,cw 132 (.len (.t 131)) 130,cw 133 (.bin .eql (.t 132) (aW 0)) 130,and 134 130 133,m 135 134,eW 136 14 135,cw 137 (.len (.t 136)) 135,cw 138 (.bin .eql (.t 137) (aW 1)) 135,and 139 135 138,m 140 139,eW 141 16 140,cw 142 (.len (.t 141)) 140,cw 143 (.bin .eql (.t 142) (aW 0)) 140,and 144 140 143,m 145 144,eW 146 18 145,cw 147 (.len (.t 146)) 145,cw 148 (.bin .eql (.t 147) (aW 1)) 145,and 149 145 148,m 150 149,eD 151 0 0 17 150,eD 152 0 0 151 150,gC 153 152 150,eW 154 2 150,cw 155 (.bin .eql (.t 153) (.t 154)) 150,and 156 150 155,m 157 156,eD 158 1 2 17 157,eD 159 0 0 158 157,gC 160 159 157,eW 161 2 157,cw 162 (.bin .eql (.t 160) (.t 161)) 157,and 163 157 162,m 0 163]
def Cs:bn:=(s (r Vg) (s (r Vh) (s (r Vk) (s (r Vl) (s (r Vm) (s (r Vn) (s (r Vo) (s (r Vp) (s (r Vq) (s (r Vr) (s (r Vi) (s (r Vj) .ret))))))))))))
def Hy:List bu:=[.tmp 0]
theorem Of:bX Tryz.prog Tryz.f14 Cs:=e (by kernel_rfl)
theorem PV:bV Tryz.prog Tryz.f14 Hy:=e (by kernel_rfl)
theorem MD:bK Tryz.prog 14:=e (by kernel_rfl)
def VG:=[o 2 (.mv (.c (.nils 8))),o 3 (.mv (.c (.ak ⟨#[]⟩)))]
def VH:=[o 4 (.alloc (.nils 8))]
def VJ:=[o 5 (.alloc (.int .i64 0)),o 6 (.alloc (.int .i64 0)),p (.aS none (.t 5) (aW 1)),p (.aS none (.t 6) (aW 0))]
def VK:=[m 11 0,o 12 (.call 69 [.t 11])]
def VL:=[m 7 13]
def VM:=[l 15 5,m 16 7,o 17 (.call 70 [.t 15,.t 16]),m 14 17,o 18 (.ext (.t 14) 0),o 19 (.ext (.t 14) 1),o 20 (.ext (.t 14) 2),o 8 (.alloc (.agg [.agg [.int .i64 0,.int .i64 0],.int .i64 0,.int .i64 0,.int .i64 0,.agg [.int .i64 0,.int .i64 0],.ak ⟨#[]⟩])),p (.aS (some 8) (.t 8) (.t 18)),m 9 19,m 10 20]
def VN:=[m 21 10,no 22 21,m 23 22,fQ 24 4 23,on 25 (.ld (some 8) (.t 8)) 23,on 26 (.call 71 [.t 24,.t 25]) 23,on 27 (.un .not (.t 26)) 23,or 28 23 27]
def VO:=[l 29 4,ao 30 8 8,o 31 (.bs 50 8 [.t 30]),o 32 (.eB 50 8 72 (.agg [.agg [.int .i64 0,.int .i64 0],.int .i64 0,.int .i64 0,.int .i64 0,.agg [.int .i64 0,.int .i64 0],.ak ⟨#[]⟩]) (.t 29) (.t 31)),p (.aS none (.t 4) (.t 32))]
def VP:=[m 33 9,p (.aS none (.t 5) (.t 33))]
def VQ:=[l 34 6,m 35 7,o 36 (.lenT (.t 35)),o 37 (.bin .add (.t 34) (.t 36)),p (.aS none (.t 6) (.t 37))]
def VI:=[l 38 4,m 39 0,l 40 6,o 41 (.prim (.ss false true) [.t 39,.t 40]),m 2 38,m 3 41]
def Q8:=some [[],[],[],[1,2],[0,0],[3,4,0,1,2,3,4]]
def Cx:bn:=(s (r VG) (s (r VH) (s (r VJ) (s (s (r VK) (.block 0 (.pM (.t 12) [13] (r VL) (.block 1 (s (r VM) (s (s (r VN) (.cond (.t 28) (.exit 0) .skip)) (s (r VO) (s (r VP) (r VQ))))))))) (s (.b9 Q8 VI) .ret)))))
def HD:List bu:=[.tmp 2,.tmp 3]
theorem Ol:bX Tryz.prog Tryz.f15 Cx:=e (by kernel_rfl)
theorem P0:bV Tryz.prog Tryz.f15 HD:=e (by kernel_rfl)
theorem MJ:bK Tryz.prog 15:=e (by kernel_rfl)
def Xb:=[b 1 0,o 2 (.alloc (.agg [.agg [.ak ⟨#[]⟩,.ak ⟨#[]⟩],.agg [.ak ⟨#[]⟩,.ak ⟨#[]⟩]])),o 3 (.mv (.c (.nils 8)))]
def Xc:=[f 10 0 0 1,ao 11 2 10,o 12 (.call 73 [.t 11]),o 13 (.call 15 [.t 12]),m 9 13,o 14 (.ext (.t 9) 0),o 15 (.ext (.t 9) 1),m 4 14,m 5 15]
def Xd:=[f 17 1 2 1,ao 18 2 17,o 19 (.call 73 [.t 18]),o 20 (.call 15 [.t 19]),m 16 20,o 21 (.ext (.t 16) 0),o 22 (.ext (.t 16) 1),m 6 21,m 7 22]
def Xe:=[m 23 6,o 24 (.len (.t 23)),m 25 4,o 26 (.len (.t 25)),o 27 (.bin .gtr (.t 24) (.t 26))]
def Xf:=[m 28 6,m 29 7,m 4 28,m 5 29]
def Xg:=[m 30 5,o 31 (.call 74 [.t 30]),o 32 (.bld [.ak ⟨#[]⟩,.ak ⟨#[]⟩] [(0,(.t 31))]),o 8 (.alloc (.agg [.ak ⟨#[]⟩,.ak ⟨#[]⟩])),p (.aS (some 2) (.t 8) (.t 32))]
def Xh:=[ao 33 2 8,ao 34 2 8,o 35 (.bld [.agg [.ak ⟨#[]⟩,.ak ⟨#[]⟩],.agg [.ak ⟨#[]⟩,.ak ⟨#[]⟩]] [(0,(.t 33)),(1,(.t 34))]),m 36 4,p (.aS (some 4) (.t 2) (.t 35)),m 3 36]
def CG:bn:=(s (r Xb) (s (r Xc) (s (s (r Xd) (s (r Xe) (.cond (.t 27) (r Xf) .skip))) (s (r Xg) (s (r Xh) .ret)))))
def HP:List bu:=[.cell 2 (some 4),.tmp 3]
theorem Oz:bX Tryz.prog Tryz.f18 CG:=e (by kernel_rfl)
theorem Qb:bV Tryz.prog Tryz.f18 HP:=e (by kernel_rfl)
theorem MW:bK Tryz.prog 18:=e (by kernel_rfl)
def Xi:=[b 1 0,o 2 (.alloc (.agg [.agg [.ak ⟨#[]⟩,.ak ⟨#[]⟩],.agg [.ak ⟨#[]⟩,.ak ⟨#[]⟩]]))]
def Xj:=[f 4 0 0 1,ao 5 2 4,o 6 (.call 73 [.t 5]),o 7 (.bld [.ak ⟨#[]⟩,.ak ⟨#[]⟩] [(0,(.t 6))]),o 3 (.alloc (.agg [.ak ⟨#[]⟩,.ak ⟨#[]⟩])),p (.aS (some 2) (.t 3) (.t 7))]
def Xk:=[ao 8 2 3,ao 9 2 3,o 10 (.bld [.agg [.ak ⟨#[]⟩,.ak ⟨#[]⟩],.agg [.ak ⟨#[]⟩,.ak ⟨#[]⟩]] [(0,(.t 8)),(1,(.t 9))]),p (.aS (some 4) (.t 2) (.t 10))]
def c20:bn:=(s (r Xi) (s (r Xj) (s (r Xk) .ret)))
def HS:List bu:=[.cell 2 (some 4)]
theorem OC:bX Tryz.prog Tryz.f20 c20:=e (by kernel_rfl)
theorem Qe:bV Tryz.prog Tryz.f20 HS:=e (by kernel_rfl)
theorem MZ:bK Tryz.prog 20:=e (by kernel_rfl)
def Xl:=[b 2 0,o 4 (.alloc (.agg [.agg [.ak ⟨#[]⟩,.ak ⟨#[]⟩],.agg [.ak ⟨#[]⟩,.ak ⟨#[]⟩]]))]
def Xm:=[f 5 0 0 2,ao 6 2 5,m 7 1,o 8 (.call 75 [.t 6,.t 7,(aW 0)]),f 9 1 2 2,ao 10 2 9,m 11 1,o 12 (.call 75 [.t 10,.t 11,(aW 3)]),o 13 (.bld [.agg [.ak ⟨#[]⟩,.ak ⟨#[]⟩],.agg [.ak ⟨#[]⟩,.ak ⟨#[]⟩]] [(0,(.t 8)),(1,(.t 12))]),p (.aS (some 4) (.t 4) (.t 13))]
def Ra:=some [[],[0],[],[1,2],[],[4],[],[5,6,3],[3,7],[8,7,0,1,2,3,4,5,6,7,8]]
def CJ:bn:=(s (r Xl) (s (.b9 Ra Xm) .ret))
def HT:List bu:=[.cell 4 (some 4)]
theorem OD:bX Tryz.prog Tryz.f22 CJ:=e (by kernel_rfl)
theorem Qf:bV Tryz.prog Tryz.f22 HT:=e (by kernel_rfl)
theorem M0:bK Tryz.prog 22:=e (by kernel_rfl)
def Xn:=[b 2 0,o 4 (.alloc (.agg [.agg [.ak ⟨#[]⟩,.ak ⟨#[]⟩],.agg [.ak ⟨#[]⟩,.ak ⟨#[]⟩]]))]
def Xo:=[m 5 1]
def Xp:=[o 6 (.bld [.ak ⟨#[]⟩,.ak ⟨#[]⟩] []),f 7 1 2 2,p (.aS (some 2) (.t 7) (.t 6))]
def Xq:=[o 8 (.bld [.ak ⟨#[]⟩,.ak ⟨#[]⟩] []),f 9 0 0 2,p (.aS (some 2) (.t 9) (.t 8))]
def Xr:=[ao 10 4 2,p (.aS (some 4) (.t 4) (.t 10))]
def CK:bn:=(s (r Xn) (s (s (r Xo) (.cond (.t 5) (r Xp) (r Xq))) (s (r Xr) .ret)))
def HU:List bu:=[.cell 4 (some 4)]
theorem OE:bX Tryz.prog Tryz.f24 CK:=e (by kernel_rfl)
theorem Qg:bV Tryz.prog Tryz.f24 HU:=e (by kernel_rfl)
theorem M2:bK Tryz.prog 24:=e (by kernel_rfl)
def Xs:=[o 2 (.mv (.c (.ak ⟨#[]⟩))),o 3 (.mv bo)]
def Xt:=[o 4 (.mv (.c (.ak ⟨#[]⟩)))]
def Xw:=[bq 5 1]
def Xx:=[bq 6 0]
def Xy:=[m 10 6,m 11 0,o 12 (.len (.t 11)),lt 13 10 12]
def Xz:=[m 17 5,m 18 0,m 19 6,o 20 (.is 8 (.t 18) (.t 19)),ao 21 8 20,o 22 (.call 29 [.t 17,.t 21]),m 16 22,o 23 (.ext (.t 16) 0),o 24 (.ext (.t 16) 1),o 25 (.ext (.t 16) 2),m 7 23,m 8 24,m 9 25]
def XA:=[m 26 9,o 27 (.bin .neq (.t 26) (aW 0))]
def XB:=[o 2 (.mv (.c (.ak ⟨#[]⟩))),o 3 (.mv bo)]
def XC:=[m 28 4,m 29 7,o 30 (.bin .add (.t 28) (.t 29)),m 4 30]
def XD:=[m 31 8,m 5 31]
def Xu:=[m 14 6,ad 15 14 1,m 6 15]
def Xv:=[m 32 4,m 2 32,o 3 (.mv T)]
def CL:bn:=(s (r Xs) (s (r Xt) (s (r Xw) (s (s (r Xx) (.block 0 (.loop (s (s (r Xy) (.cond (.t 13) .skip (.exit 0))) (s (.block 1 (s (r Xz) (s (s (r XA) (.cond (.t 27) (s (r XB) .ret) .skip)) (s (r XC) (r XD))))) (r Xu)))))) (s (r Xv) .ret)))))
def HV:List bu:=[.tmp 2,.tmp 3]
theorem OF:bX Tryz.prog Tryz.f27 CL:=e (by kernel_rfl)
theorem Qh:bV Tryz.prog Tryz.f27 HV:=e (by kernel_rfl)
theorem M3:bK Tryz.prog 27:=e (by kernel_rfl)
def XE:=[bq 4 0]
def XF:=[m 5 0,m 6 1,o 7 (.bin .rem (.t 5) (.t 6)),m 8 1,o 9 (.bin .add (.t 7) (.t 8)),m 10 1,o 11 (.bin .rem (.t 9) (.t 10)),m 4 11]
def CM:bn:=(s (r XE) (s (r XF) .ret))
def HW:List bu:=[.tmp 4]
theorem OG:bX Tryz.prog Tryz.f28 CM:=e (by kernel_rfl)
theorem Qi:bV Tryz.prog Tryz.f28 HW:=e (by kernel_rfl)
theorem M4:bK Tryz.prog 28:=e (by kernel_rfl)
def XG:=[b 3 1,o 4 (.mv (.c (.ak ⟨#[]⟩))),bq 5 0,bq 6 0]
def XH:=[m 10 0,o 11 (.call 79 [.t 10]),no 12 11,m 9 12]
def XI:=[o 4 (.mv (.c (.ak ⟨#[]⟩))),bq 5 0,bq 6 1]
def XJ:=[ao 14 8 3,o 15 (.call 80 [.t 14]),no 16 15,m 13 16]
def XK:=[o 4 (.mv (.c (.ak ⟨#[]⟩))),bq 5 0,bq 6 80]
def XL:=[m 18 0,ao 19 8 3,o 20 (.call 81 [.t 18,.t 19]),m 17 20,o 21 (.ext (.t 17) 0),o 22 (.ext (.t 17) 1),m 7 21,m 8 22]
def XM:=[m 23 7,m 24 8,m 4 23,m 5 24,bq 6 0]
def CN:bn:=(s (r XG) (s (.block 0 (s (r XH) (.cond (.t 9) (s (r XI) .ret) (s (r XJ) (.cond (.t 13) (s (r XK) .ret) .skip))))) (s (r XL) (s (r XM) .ret))))
def HX:List bu:=[.tmp 4,.tmp 5,.tmp 6]
theorem OH:bX Tryz.prog Tryz.f29 CN:=e (by kernel_rfl)
theorem Qj:bV Tryz.prog Tryz.f29 HX:=e (by kernel_rfl)
theorem M5:bK Tryz.prog 29:=e (by kernel_rfl)
def XN:=[o 4 (.alloc (.agg [.agg [.int .i64 0,.int .i64 0],.int .i64 0,.int .i64 0,.int .i64 0,.agg [.int .i64 0,.int .i64 0],.ak ⟨#[]⟩])),bq 5 0,bq 6 0]
def XO:=[m 10 0,o 11 (.call 79 [.t 10]),no 12 11]
def XP:=[o 13 (.bld [.agg [.int .i64 0,.int .i64 0],.int .i64 0,.int .i64 0,.int .i64 0,.agg [.int .i64 0,.int .i64 0],.ak ⟨#[]⟩] []),p (.aS (some 8) (.t 4) (.t 13)),bq 5 0,bq 6 1]
def XQ:=[m 15 0,m 16 1,o 17 (.call 70 [.t 15,.t 16]),m 14 17,o 18 (.ext (.t 14) 0),o 19 (.ext (.t 14) 1),o 20 (.ext (.t 14) 2),o 7 (.alloc (.agg [.agg [.int .i64 0,.int .i64 0],.int .i64 0,.int .i64 0,.int .i64 0,.agg [.int .i64 0,.int .i64 0],.ak ⟨#[]⟩])),p (.aS (some 8) (.t 7) (.t 18)),m 8 19,m 9 20]
def XR:=[m 21 9,no 22 21]
def XS:=[o 23 (.bld [.agg [.int .i64 0,.int .i64 0],.int .i64 0,.int .i64 0,.int .i64 0,.agg [.int .i64 0,.int .i64 0],.ak ⟨#[]⟩] []),p (.aS (some 8) (.t 4) (.t 23)),bq 5 0,bq 6 87]
def XT:=[ao 24 8 7,m 25 8,p (.aS (some 8) (.t 4) (.t 24)),m 5 25,bq 6 0]
def CO:bn:=(s (r XN) (s (s (r XO) (.cond (.t 12) (s (r XP) .ret) .skip)) (s (r XQ) (s (s (r XR) (.cond (.t 22) (s (r XS) .ret) .skip)) (s (r XT) .ret)))))
def HY:List bu:=[.cell 4 (some 8),.tmp 5,.tmp 6]
theorem OI:bX Tryz.prog Tryz.f31 CO:=e (by kernel_rfl)
theorem Qk:bV Tryz.prog Tryz.f31 HY:=e (by kernel_rfl)
theorem M6:bK Tryz.prog 31:=e (by kernel_rfl)
def XU:=[b 1 0,bq 2 0]
def XV:=[f 3 0 0 1,ao 4 2 3,o 5 (.call 85 [.t 4]),no 6 5,m 7 6,fn 8 1 2 1 7,fQ 9 8 7,on 10 (.call 82 [.t 9,(aW 0),(aW 40)]) 7,on 11 (.un .not (.t 10)) 7,or 12 7 11,m 13 12,fn 14 2 3 1 13,fQ 15 14 13,on 16 (.call 82 [.t 15,(aW 0),(aW 100000)]) 13,on 17 (.un .not (.t 16)) 13,or 18 13 17,m 19 18,fn 20 3 4 1 19,fQ 21 20 19,on 22 (.call 82 [.t 21,(aW 0),(aW 100000)]) 19,on 23 (.un .not (.t 22)) 19,or 24 19 23,m 25 24,fn 26 5 7 1 25,fQ 27 26 25,on 28 (.call 86 [.t 27]) 25,on 29 (.un .not (.t 28)) 25,or 30 25 29]
def XW:=[bq 2 80]
def XX:=[f 31 1 2 1,l 32 31,o 33 (.bin .eql (.t 32) (aW 0))]
def XY:=[f 34 2 3 1,l 35 34,o 36 (.bin .neq (.t 35) (aW 0)),m 37 36,fn 38 5 7 1 37,fQ 39 38 37,on 40 (.bin .neq (.t 39) (.c (.ak ⟨#[]⟩))) 37,or 41 37 40,m 42 41,fn 43 4 5 1 42,on 44 (.ld (some 2) (.t 43)) 42,on 45 (.call 85 [.t 44]) 42,on 46 (.un .not (.t 45)) 42,or 47 42 46,m 48 47,fn 49 4 5 1 48,fn 50 0 0 49 48,fQ 51 50 48,fn 52 0 0 1 48,fn 53 0 0 52 48,fQ 54 53 48,on 55 (.bin .neq (.t 51) (.t 54)) 48,or 56 48 55,m 57 56,fn 58 4 5 1 57,fn 59 1 1 58 57,fQ 60 59 57,fn 61 0 0 1 57,fn 62 1 1 61 57,fQ 63 62 57,on 64 (.bin .geq (.t 60) (.t 63)) 57,or 65 57 64]
def XZ:=[bq 2 80]
def X0:=[bq 2 0]
def X1:=[f 66 4 5 1,ao 67 2 66,o 68 (.bld [.int .i64 0,.int .i64 0] []),o 69 (.eqv (.aS [(.i .i64),(.i .i64)]) true (.t 67) (.t 68))]
def X2:=[bq 2 80]
def X3:=[bq 2 0]
def CP:bn:=(s (r XU) (s (s (r XV) (.cond (.t 30) (s (r XW) .ret) .skip)) (s (s (r XX) (.cond (.t 33) (s (s (r XY) (.cond (.t 65) (s (r XZ) .ret) .skip)) (s (r X0) .ret)) .skip)) (s (s (r X1) (.cond (.t 69) (s (r X2) .ret) .skip)) (s (r X3) .ret)))))
def HZ:List bu:=[.tmp 2]
theorem OJ:bX Tryz.prog Tryz.f34 CP:=e (by kernel_rfl)
theorem Ql:bV Tryz.prog Tryz.f34 HZ:=e (by kernel_rfl)
theorem M7:bK Tryz.prog 34:=e (by kernel_rfl)
def X4:=[b 3 0,b 5 2,o 6 (.alloc (.agg [.agg [.ak ⟨#[]⟩,.ak ⟨#[]⟩],.agg [.ak ⟨#[]⟩,.ak ⟨#[]⟩]])),o 7 (.mv (.c (.nils 8))),bq 8 0]
def X5:=[ao 9 4 3,m 10 1,o 11 (.call 87 [.t 9,.t 10]),no 12 11]
def X6:=[o 13 (.bld [.agg [.ak ⟨#[]⟩,.ak ⟨#[]⟩],.agg [.ak ⟨#[]⟩,.ak ⟨#[]⟩]] []),p (.aS (some 4) (.t 6) (.t 13)),o 7 (.mv (.c (.nils 8))),bq 8 84]
def X7:=[ao 14 4 3,m 15 1,ao 16 8 5,o 17 (.call 88 [.t 14,.t 15,.t 16]),o 18 (.ext (.t 17) 0),o 19 (.ext (.t 17) 1),o 20 (.ext (.t 17) 2),p (.aS (some 4) (.t 6) (.t 18)),m 7 19,m 8 20]
def CQ:bn:=(s (r X4) (s (s (r X5) (.cond (.t 12) (s (r X6) .ret) .skip)) (s (r X7) .ret)))
def H0:List bu:=[.cell 6 (some 4),.tmp 7,.tmp 8]
theorem OK:bX Tryz.prog Tryz.f35 CQ:=e (by kernel_rfl)
theorem Qm:bV Tryz.prog Tryz.f35 H0:=e (by kernel_rfl)
theorem M8:bK Tryz.prog 35:=e (by kernel_rfl)
def X8:=[o 2 (.alloc (.agg [.nils 8])),bq 3 0]
def X9:=[m 4 0,o 5 (.call 98 [.t 4]),no 6 5]
def Ya:=[o 7 (.bld [.nils 8] []),p (.aS (some 1) (.t 2) (.t 7)),bq 3 81]
def Yb:=[m 8 0,o 9 (.call 95 [.t 8]),p (.aS (some 1) (.t 2) (.t 9)),bq 3 0]
def CR:bn:=(s (r X8) (s (s (r X9) (.cond (.t 6) (s (r Ya) .ret) .skip)) (s (r Yb) .ret)))
def H3:List bu:=[.cell 2 (some 1),.tmp 3]
theorem OL:bX Tryz.prog Tryz.f41 CR:=e (by kernel_rfl)
theorem Qn:bV Tryz.prog Tryz.f41 H3:=e (by kernel_rfl)
theorem M9:bK Tryz.prog 41:=e (by kernel_rfl)
def Yc:=[b 2 0,b 3 1,o 4 (.alloc (.agg [.nils 8])),bq 5 0]
def Yd:=[ao 9 1 2,o 10 (.call 92 [.t 9]),no 11 10,m 8 11]
def Yi:=[o 12 (.bld [.nils 8] []),p (.aS (some 1) (.t 4) (.t 12)),bq 5 81]
def Yj:=[ao 14 8 3,o 15 (.call 80 [.t 14]),no 16 15,m 13 16]
def Yk:=[o 17 (.bld [.nils 8] []),p (.aS (some 1) (.t 4) (.t 17)),bq 5 80]
def Yl:=[ao 19 1 2,f 20 0 0 3,ao 21 2 20,o 22 (.call 94 [.t 19,.t 21]),m 18 22,o 23 (.ext (.t 18) 0),o 24 (.ext (.t 18) 1),m 6 23,m 7 24]
def Ym:=[m 26 7,m 27 26,eD 28 0 0 2 27,gC 29 28 27,eW 30 6 27,cw 31 (.is 8 (.t 29) (.t 30)) 27,cw 32 (.ld (some 8) (.t 31)) 27,cw 33 (.ld (some 8) (.t 3)) 27,cw 34 (.eqv (.aS [(.aS [(.i .i64),(.i .i64)]),(.i .i64),(.i .i64),(.i .i64),(.aS [(.i .i64),(.i .i64)]),.s]) false (.t 32) (.t 33)) 27,and 35 27 34,m 25 35]
def Re:=some [[],[0],[1],[2,1],[1],[3,4,1],[5,1],[1],[6,7,1],[1,8],[9,1]]
def Yn:=[f 36 0 0 2,l 37 36,o 38 (.call 93 [.t 37]),o 39 (.bld [.nils 8] [(0,(.t 38))]),p (.aS (some 1) (.t 4) (.t 39)),bq 5 0]
def Yo:=[m 41 7,m 40 41]
def Yp:=[o 42 (.bld [.nils 8] []),p (.aS (some 1) (.t 4) (.t 42)),bq 5 82]
def Ye:=[f 44 0 0 2,l 45 44,o 46 (.call 100 [.t 45]),f 47 0 0 3,f 48 0 0 47,l 49 48,o 50 (.ix 6 1 none (.t 46) (.t 49)),f 51 0 0 3,f 52 1 1 51,l 53 52,lt 54 50 53,m 43 54]
def Rb:=some [[],[0],[1],[],[3],[4],[2,5],[],[7],[8],[6,9],[10,2]]
def Yf:=[o 55 (.bld [.nils 8] []),p (.aS (some 1) (.t 4) (.t 55)),bq 5 83]
def Yg:=[f 57 0 0 2,l 58 57,o 59 (.len (.t 58)),o 60 (.bin .eql (.t 59) (aW 60)),m 56 60]
def Yh:=[o 61 (.bld [.nils 8] []),p (.aS (some 1) (.t 4) (.t 61)),bq 5 2]
def yw:=[f 62 0 0 2,l 63 62,o 64 (.call 93 [.t 63]),m 65 6,ao 66 8 3,o 67 (.bs 50 8 [.t 66]),o 68 (.call 101 [.t 64,.t 65,.t 67]),o 69 (.bld [.nils 8] [(0,(.t 68))]),p (.aS (some 1) (.t 4) (.t 69)),bq 5 0]
def Rc:=some [[],[0],[1],[],[],[4],[2,3,5,2],[6],[7,6,0,1,2,3,4,5,6,7],[8,0,1,2,3,4,5,6,7,8]]
def CS:bn:=(s (r Yc) (s (.block 0 (s (r Yd) (.cond (.t 8) (s (r Yi) .ret) (s (r Yj) (.cond (.t 13) (s (r Yk) .ret) .skip))))) (s (r Yl) (s (.block 1 (s (.b9 Re Ym) (.cond (.t 25) (s (r Yn) .ret) (s (r Yo) (.cond (.t 40) (s (r Yp) .ret) (s (.b9 Rb Ye) (.cond (.t 43) (s (r Yf) .ret) (s (r Yg) (.cond (.t 56) (s (r Yh) .ret) .skip))))))))) (s (.b9 Rc yw) .ret)))))
def H4:List bu:=[.cell 4 (some 1),.tmp 5]
theorem OM:bX Tryz.prog Tryz.f44 CS:=e (by kernel_rfl)
theorem Qo:bV Tryz.prog Tryz.f44 H4:=e (by kernel_rfl)
theorem Na:bK Tryz.prog 44:=e (by kernel_rfl)
def Yq:=[b 1 0,o 2 (.alloc (.agg [.int .i64 0,.int .i64 0,.int .i64 0,.int .i64 0,.int .i64 0,.int .i64 0])),bq 3 0]
def Yr:=[ao 4 1 1,o 5 (.call 92 [.t 4]),no 6 5]
def Ys:=[o 7 (.bld [.int .i64 0,.int .i64 0,.int .i64 0,.int .i64 0,.int .i64 0,.int .i64 0] []),p (.aS (some 6) (.t 2) (.t 7)),bq 3 81]
def Yt:=[f 8 0 0 1,l 9 8,o 10 (.call 100 [.t 9]),p (.aS (some 6) (.t 2) (.t 10)),bq 3 0]
def CT:bn:=(s (r Yq) (s (s (r Yr) (.cond (.t 6) (s (r Ys) .ret) .skip)) (s (r Yt) .ret)))
def H5:List bu:=[.cell 2 (some 6),.tmp 3]
theorem ON:bX Tryz.prog Tryz.f47 CT:=e (by kernel_rfl)
theorem Qp:bV Tryz.prog Tryz.f47 H5:=e (by kernel_rfl)
theorem Nb:bK Tryz.prog 47:=e (by kernel_rfl)
def Yu:=[o 2 (.alloc (.agg [.int .i64 0,.agg [.agg [.ak ⟨#[]⟩,.ak ⟨#[]⟩],.agg [.ak ⟨#[]⟩,.ak ⟨#[]⟩]],.nils 8,.agg [.agg [.int .i64 0,.int .i64 0,.int .i64 0,.int .i64 0,.int .i64 0,.int .i64 0],.agg [.int .i64 0,.int .i64 0,.int .i64 0,.int .i64 0,.int .i64 0,.int .i64 0],.agg [.int .i64 0,.int .i64 0,.int .i64 0,.int .i64 0,.int .i64 0,.int .i64 0],.agg [.int .i64 0,.int .i64 0,.int .i64 0,.int .i64 0,.int .i64 0,.int .i64 0],.agg [.int .i64 0,.int .i64 0,.int .i64 0,.int .i64 0,.int .i64 0,.int .i64 0],.agg [.int .i64 0,.int .i64 0,.int .i64 0,.int .i64 0,.int .i64 0,.int .i64 0]]])),bq 3 0]
def Yv:=[m 4 0,o 5 (.call 110 [.t 4]),no 6 5]
def Yw:=[o 7 (.bld [.int .i64 0,.agg [.agg [.ak ⟨#[]⟩,.ak ⟨#[]⟩],.agg [.ak ⟨#[]⟩,.ak ⟨#[]⟩]],.nils 8,.agg [.agg [.int .i64 0,.int .i64 0,.int .i64 0,.int .i64 0,.int .i64 0,.int .i64 0],.agg [.int .i64 0,.int .i64 0,.int .i64 0,.int .i64 0,.int .i64 0,.int .i64 0],.agg [.int .i64 0,.int .i64 0,.int .i64 0,.int .i64 0,.int .i64 0,.int .i64 0],.agg [.int .i64 0,.int .i64 0,.int .i64 0,.int .i64 0,.int .i64 0,.int .i64 0],.agg [.int .i64 0,.int .i64 0,.int .i64 0,.int .i64 0,.int .i64 0,.int .i64 0],.agg [.int .i64 0,.int .i64 0,.int .i64 0,.int .i64 0,.int .i64 0,.int .i64 0]]] []),p (.aS (some 42) (.t 2) (.t 7)),bq 3 1]
def Yx:=[m 8 0,o 9 (.bld [.int .i64 0,.agg [.agg [.ak ⟨#[]⟩,.ak ⟨#[]⟩],.agg [.ak ⟨#[]⟩,.ak ⟨#[]⟩]],.nils 8,.agg [.agg [.int .i64 0,.int .i64 0,.int .i64 0,.int .i64 0,.int .i64 0,.int .i64 0],.agg [.int .i64 0,.int .i64 0,.int .i64 0,.int .i64 0,.int .i64 0,.int .i64 0],.agg [.int .i64 0,.int .i64 0,.int .i64 0,.int .i64 0,.int .i64 0,.int .i64 0],.agg [.int .i64 0,.int .i64 0,.int .i64 0,.int .i64 0,.int .i64 0,.int .i64 0],.agg [.int .i64 0,.int .i64 0,.int .i64 0,.int .i64 0,.int .i64 0,.int .i64 0],.agg [.int .i64 0,.int .i64 0,.int .i64 0,.int .i64 0,.int .i64 0,.int .i64 0]]] [(0,(.t 8))]),p (.aS (some 42) (.t 2) (.t 9)),bq 3 0]
def CU:bn:=(s (r Yu) (s (s (r Yv) (.cond (.t 6) (s (r Yw) .ret) .skip)) (s (r Yx) .ret)))
def H6:List bu:=[.cell 2 (some 42),.tmp 3]
theorem OO:bX Tryz.prog Tryz.f55 CU:=e (by kernel_rfl)
theorem Qq:bV Tryz.prog Tryz.f55 H6:=e (by kernel_rfl)
theorem Nc:bK Tryz.prog 55:=e (by kernel_rfl)
def Yy:=[b 2 0,b 3 1,o 4 (.alloc (.agg [.int .i64 0,.agg [.agg [.ak ⟨#[]⟩,.ak ⟨#[]⟩],.agg [.ak ⟨#[]⟩,.ak ⟨#[]⟩]],.nils 8,.agg [.agg [.int .i64 0,.int .i64 0,.int .i64 0,.int .i64 0,.int .i64 0,.int .i64 0],.agg [.int .i64 0,.int .i64 0,.int .i64 0,.int .i64 0,.int .i64 0,.int .i64 0],.agg [.int .i64 0,.int .i64 0,.int .i64 0,.int .i64 0,.int .i64 0,.int .i64 0],.agg [.int .i64 0,.int .i64 0,.int .i64 0,.int .i64 0,.int .i64 0,.int .i64 0],.agg [.int .i64 0,.int .i64 0,.int .i64 0,.int .i64 0,.int .i64 0,.int .i64 0],.agg [.int .i64 0,.int .i64 0,.int .i64 0,.int .i64 0,.int .i64 0,.int .i64 0]]])),o 5 (.alloc (.agg [.agg [.int .i64 0,.int .i64 0],.int .i64 0,.int .i64 0,.int .i64 0,.agg [.int .i64 0,.int .i64 0],.ak ⟨#[]⟩])),bq 6 0]
def Yz:=[ao 9 42 2,o 10 (.call 111 [.t 9]),no 11 10]
def YA:=[o 12 (.bld [.int .i64 0,.agg [.agg [.ak ⟨#[]⟩,.ak ⟨#[]⟩],.agg [.ak ⟨#[]⟩,.ak ⟨#[]⟩]],.nils 8,.agg [.agg [.int .i64 0,.int .i64 0,.int .i64 0,.int .i64 0,.int .i64 0,.int .i64 0],.agg [.int .i64 0,.int .i64 0,.int .i64 0,.int .i64 0,.int .i64 0,.int .i64 0],.agg [.int .i64 0,.int .i64 0,.int .i64 0,.int .i64 0,.int .i64 0,.int .i64 0],.agg [.int .i64 0,.int .i64 0,.int .i64 0,.int .i64 0,.int .i64 0,.int .i64 0],.agg [.int .i64 0,.int .i64 0,.int .i64 0,.int .i64 0,.int .i64 0,.int .i64 0],.agg [.int .i64 0,.int .i64 0,.int .i64 0,.int .i64 0,.int .i64 0,.int .i64 0]]] []),o 13 (.bld [.agg [.int .i64 0,.int .i64 0],.int .i64 0,.int .i64 0,.int .i64 0,.agg [.int .i64 0,.int .i64 0],.ak ⟨#[]⟩] []),p (.aS (some 42) (.t 4) (.t 12)),p (.aS (some 8) (.t 5) (.t 13)),bq 6 85]
def YB:=[ao 14 42 2,o 15 (.call 112 [.t 14]),m 7 15]
def YC:=[f 16 0 0 2,l 17 16,f 18 2 5 2,l 19 18,o 20 (.call 100 [.t 19]),f 21 0 0 2,l 22 21,o 23 (.ix 6 1 none (.t 20) (.t 22)),o 24 (.bld [.int .i64 0,.int .i64 0] [(0,(.t 17)),(1,(.t 23))]),f 25 0 0 3,p (.aS (some 2) (.t 25) (.t 24))]
def Rf:=some [[],[0],[],[2],[3],[],[5],[4,6],[1,7],[0,1,2,3,4,5,6,7,8],[9,8,4,0,1,2,3,4,5,6,7,8]]
def YD:=[m 26 7,ao 27 8 3,o 28 (.call 113 [.t 26,.t 27]),m 8 28]
def YE:=[m 29 8,o 30 (.bin .neq (.t 29) (aW 0))]
def YF:=[o 31 (.bld [.int .i64 0,.agg [.agg [.ak ⟨#[]⟩,.ak ⟨#[]⟩],.agg [.ak ⟨#[]⟩,.ak ⟨#[]⟩]],.nils 8,.agg [.agg [.int .i64 0,.int .i64 0,.int .i64 0,.int .i64 0,.int .i64 0,.int .i64 0],.agg [.int .i64 0,.int .i64 0,.int .i64 0,.int .i64 0,.int .i64 0,.int .i64 0],.agg [.int .i64 0,.int .i64 0,.int .i64 0,.int .i64 0,.int .i64 0,.int .i64 0],.agg [.int .i64 0,.int .i64 0,.int .i64 0,.int .i64 0,.int .i64 0,.int .i64 0],.agg [.int .i64 0,.int .i64 0,.int .i64 0,.int .i64 0,.int .i64 0,.int .i64 0],.agg [.int .i64 0,.int .i64 0,.int .i64 0,.int .i64 0,.int .i64 0,.int .i64 0]]] []),o 32 (.bld [.agg [.int .i64 0,.int .i64 0],.int .i64 0,.int .i64 0,.int .i64 0,.agg [.int .i64 0,.int .i64 0],.ak ⟨#[]⟩] []),m 33 8,p (.aS (some 42) (.t 4) (.t 31)),p (.aS (some 8) (.t 5) (.t 32)),m 6 33]
def sF:=[m 34 7,o 35 (.nilC (.t 34)),f 36 0 0 35,ao 37 42 36,ao 38 8 3,p (.aS (some 42) (.t 4) (.t 37)),p (.aS (some 8) (.t 5) (.t 38)),bq 6 0]
def Rg:=some [[],[0],[1],[2],[],[3,0,1,2,3],[4,5,0,1,2,3,4,5],[6,0,1,2,3,4,5,6]] -- DRAW BAD
def CV:bn:=(s (r Yy) (s (s (r Yz) (.cond (.t 11) (s (r YA) .ret) .skip)) (s (r YB) (s (.b9 Rf YC) (s (s (r YD) (s (r YE) (.cond (.t 30) (s (r YF) .ret) .skip))) (s (.b9 Rg sF) .ret))))))
def H7:List bu:=[.cell 4 (some 42),.cell 5 (some 8),.tmp 6]
theorem OP:bX Tryz.prog Tryz.f57 CV:=e (by kernel_rfl)
theorem Qr:bV Tryz.prog Tryz.f57 H7:=e (by kernel_rfl)
theorem Nd:bK Tryz.prog 57:=e (by kernel_rfl)
def YG:=[b 2 0,o 4 (.alloc (.agg [.int .i64 0,.agg [.agg [.ak ⟨#[]⟩,.ak ⟨#[]⟩],.agg [.ak ⟨#[]⟩,.ak ⟨#[]⟩]],.nils 8,.agg [.agg [.int .i64 0,.int .i64 0,.int .i64 0,.int .i64 0,.int .i64 0,.int .i64 0],.agg [.int .i64 0,.int .i64 0,.int .i64 0,.int .i64 0,.int .i64 0,.int .i64 0],.agg [.int .i64 0,.int .i64 0,.int .i64 0,.int .i64 0,.int .i64 0,.int .i64 0],.agg [.int .i64 0,.int .i64 0,.int .i64 0,.int .i64 0,.int .i64 0,.int .i64 0],.agg [.int .i64 0,.int .i64 0,.int .i64 0,.int .i64 0,.int .i64 0,.int .i64 0],.agg [.int .i64 0,.int .i64 0,.int .i64 0,.int .i64 0,.int .i64 0,.int .i64 0]]])),o 5 (.alloc (.agg [.int .i64 0,.int .i64 0,.bool false,.agg [.int .i64 0,.int .i64 0,.int .i64 0,.int .i64 0,.int .i64 0,.int .i64 0],.nils 8])),bq 6 0]
def YH:=[ao 9 42 2,o 10 (.call 111 [.t 9]),no 11 10,m 8 11]
def YI:=[o 12 (.bld [.int .i64 0,.agg [.agg [.ak ⟨#[]⟩,.ak ⟨#[]⟩],.agg [.ak ⟨#[]⟩,.ak ⟨#[]⟩]],.nils 8,.agg [.agg [.int .i64 0,.int .i64 0,.int .i64 0,.int .i64 0,.int .i64 0,.int .i64 0],.agg [.int .i64 0,.int .i64 0,.int .i64 0,.int .i64 0,.int .i64 0,.int .i64 0],.agg [.int .i64 0,.int .i64 0,.int .i64 0,.int .i64 0,.int .i64 0,.int .i64 0],.agg [.int .i64 0,.int .i64 0,.int .i64 0,.int .i64 0,.int .i64 0,.int .i64 0],.agg [.int .i64 0,.int .i64 0,.int .i64 0,.int .i64 0,.int .i64 0,.int .i64 0],.agg [.int .i64 0,.int .i64 0,.int .i64 0,.int .i64 0,.int .i64 0,.int .i64 0]]] []),o 13 (.bld [.int .i64 0,.int .i64 0,.bool false,.agg [.int .i64 0,.int .i64 0,.int .i64 0,.int .i64 0,.int .i64 0,.int .i64 0],.nils 8] []),p (.aS (some 42) (.t 4) (.t 12)),p (.aS (some 10) (.t 5) (.t 13)),bq 6 85]
def YJ:=[m 15 1,o 16 (.call 110 [.t 15]),no 17 16,m 18 17,dJ 19 1 18,fn 20 0 0 2 18,fQ 21 20 18,on 22 (.bin .eql (.t 19) (.t 21)) 18,or 23 18 22,m 14 23]
def YK:=[o 24 (.bld [.int .i64 0,.agg [.agg [.ak ⟨#[]⟩,.ak ⟨#[]⟩],.agg [.ak ⟨#[]⟩,.ak ⟨#[]⟩]],.nils 8,.agg [.agg [.int .i64 0,.int .i64 0,.int .i64 0,.int .i64 0,.int .i64 0,.int .i64 0],.agg [.int .i64 0,.int .i64 0,.int .i64 0,.int .i64 0,.int .i64 0,.int .i64 0],.agg [.int .i64 0,.int .i64 0,.int .i64 0,.int .i64 0,.int .i64 0,.int .i64 0],.agg [.int .i64 0,.int .i64 0,.int .i64 0,.int .i64 0,.int .i64 0,.int .i64 0],.agg [.int .i64 0,.int .i64 0,.int .i64 0,.int .i64 0,.int .i64 0,.int .i64 0],.agg [.int .i64 0,.int .i64 0,.int .i64 0,.int .i64 0,.int .i64 0,.int .i64 0]]] []),o 25 (.bld [.int .i64 0,.int .i64 0,.bool false,.agg [.int .i64 0,.int .i64 0,.int .i64 0,.int .i64 0,.int .i64 0,.int .i64 0],.nils 8] []),p (.aS (some 42) (.t 4) (.t 24)),p (.aS (some 10) (.t 5) (.t 25)),bq 6 1]
def YL:=[ao 26 42 2,o 27 (.call 112 [.t 26]),m 7 27]
def YM:=[m 28 7,o 29 (.call 115 [.t 28])]
def yx:=[m 30 7,o 31 (.nilC (.t 30)),f 32 0 0 31,ao 33 42 32,m 34 7,m 35 1,o 36 (.call 116 [.t 34,.t 35,T]),p (.aS (some 42) (.t 4) (.t 33)),p (.aS (some 10) (.t 5) (.t 36)),bq 6 0]
def Rh:=some [[],[0],[1],[2],[],[],[4,5],[3,6,0,1,2,3],[6,7,0,1,2,3,4,5,6,7],[8,0,1,2,3,4,5,6,7,8]]
def CW:bn:=(s (r YG) (s (.block 0 (s (r YH) (.cond (.t 8) (s (r YI) .ret) (s (r YJ) (.cond (.t 14) (s (r YK) .ret) .skip))))) (s (r YL) (s (r YM) (s (.b9 Rh yx) .ret)))))
def H8:List bu:=[.cell 4 (some 42),.cell 5 (some 10),.tmp 6]
theorem OQ:bX Tryz.prog Tryz.f59 CW:=e (by kernel_rfl)
theorem Qs:bV Tryz.prog Tryz.f59 H8:=e (by kernel_rfl)
theorem Nf:bK Tryz.prog 59:=e (by kernel_rfl)
def YN:=[b 2 0,b 3 1,o 4 (.alloc (.agg [.int .i64 0,.agg [.agg [.ak ⟨#[]⟩,.ak ⟨#[]⟩],.agg [.ak ⟨#[]⟩,.ak ⟨#[]⟩]],.nils 8,.agg [.agg [.int .i64 0,.int .i64 0,.int .i64 0,.int .i64 0,.int .i64 0,.int .i64 0],.agg [.int .i64 0,.int .i64 0,.int .i64 0,.int .i64 0,.int .i64 0,.int .i64 0],.agg [.int .i64 0,.int .i64 0,.int .i64 0,.int .i64 0,.int .i64 0,.int .i64 0],.agg [.int .i64 0,.int .i64 0,.int .i64 0,.int .i64 0,.int .i64 0,.int .i64 0],.agg [.int .i64 0,.int .i64 0,.int .i64 0,.int .i64 0,.int .i64 0,.int .i64 0],.agg [.int .i64 0,.int .i64 0,.int .i64 0,.int .i64 0,.int .i64 0,.int .i64 0]]])),o 5 (.mv (.c (.nils 10))),bq 6 0]
def YO:=[ao 15 42 2,o 16 (.call 111 [.t 15]),no 17 16,m 14 17]
def YZ:=[o 18 (.bld [.int .i64 0,.agg [.agg [.ak ⟨#[]⟩,.ak ⟨#[]⟩],.agg [.ak ⟨#[]⟩,.ak ⟨#[]⟩]],.nils 8,.agg [.agg [.int .i64 0,.int .i64 0,.int .i64 0,.int .i64 0,.int .i64 0,.int .i64 0],.agg [.int .i64 0,.int .i64 0,.int .i64 0,.int .i64 0,.int .i64 0,.int .i64 0],.agg [.int .i64 0,.int .i64 0,.int .i64 0,.int .i64 0,.int .i64 0,.int .i64 0],.agg [.int .i64 0,.int .i64 0,.int .i64 0,.int .i64 0,.int .i64 0,.int .i64 0],.agg [.int .i64 0,.int .i64 0,.int .i64 0,.int .i64 0,.int .i64 0,.int .i64 0],.agg [.int .i64 0,.int .i64 0,.int .i64 0,.int .i64 0,.int .i64 0,.int .i64 0]]] []),p (.aS (some 42) (.t 4) (.t 18)),o 5 (.mv (.c (.nils 10))),bq 6 85]
def Y5:=[ao 20 10 3,o 21 (.call 118 [.t 20]),no 22 21,m 23 22,fn 24 1 1 3 23,fQ 25 24 23,fn 26 0 0 2 23,fQ 27 26 23,on 28 (.bin .neq (.t 25) (.t 27)) 23,or 29 23 28,m 19 29]
def Y6:=[o 30 (.bld [.int .i64 0,.agg [.agg [.ak ⟨#[]⟩,.ak ⟨#[]⟩],.agg [.ak ⟨#[]⟩,.ak ⟨#[]⟩]],.nils 8,.agg [.agg [.int .i64 0,.int .i64 0,.int .i64 0,.int .i64 0,.int .i64 0,.int .i64 0],.agg [.int .i64 0,.int .i64 0,.int .i64 0,.int .i64 0,.int .i64 0,.int .i64 0],.agg [.int .i64 0,.int .i64 0,.int .i64 0,.int .i64 0,.int .i64 0,.int .i64 0],.agg [.int .i64 0,.int .i64 0,.int .i64 0,.int .i64 0,.int .i64 0,.int .i64 0],.agg [.int .i64 0,.int .i64 0,.int .i64 0,.int .i64 0,.int .i64 0,.int .i64 0],.agg [.int .i64 0,.int .i64 0,.int .i64 0,.int .i64 0,.int .i64 0,.int .i64 0]]] []),p (.aS (some 42) (.t 4) (.t 30)),o 5 (.mv (.c (.nils 10))),bq 6 86]
def Y7:=[ao 31 42 2,o 32 (.call 112 [.t 31]),m 7 32]
def Y8:=[f 33 4 9 3,l 34 33,o 35 (.len (.t 34)),bq 36 0]
def Y9:=[lt 37 36 35]
def Za:=[o 38 (.is 8 (.t 34) (.t 36)),ao 39 8 38,o 9 (.alloc (.agg [.agg [.int .i64 0,.int .i64 0],.int .i64 0,.int .i64 0,.int .i64 0,.agg [.int .i64 0,.int .i64 0],.ak ⟨#[]⟩])),p (.aS (some 8) (.t 9) (.t 39))]
def Zb:=[m 40 7,o 41 (.nilC (.t 40)),f 42 0 0 41,f 43 2 5 42,l 44 43,o 45 (.call 100 [.t 44]),f 46 0 0 9,f 47 0 0 46,l 48 47,o 49 (.ix 6 1 none (.t 45) (.t 48)),f 50 0 0 9,f 51 1 1 50,l 52 51,lt 53 49 52]
def Rm:=some [[],[0],[1],[2],[3],[4],[],[6],[7],[5,8],[],[10],[11],[9,12]]
def YP:=[m 54 7,ao 55 8 9,o 56 (.call 113 [.t 54,.t 55]),m 10 56]
def YQ:=[m 57 10,o 58 (.bin .neq (.t 57) (aW 0))]
def YR:=[o 59 (.bld [.int .i64 0,.agg [.agg [.ak ⟨#[]⟩,.ak ⟨#[]⟩],.agg [.ak ⟨#[]⟩,.ak ⟨#[]⟩]],.nils 8,.agg [.agg [.int .i64 0,.int .i64 0,.int .i64 0,.int .i64 0,.int .i64 0,.int .i64 0],.agg [.int .i64 0,.int .i64 0,.int .i64 0,.int .i64 0,.int .i64 0,.int .i64 0],.agg [.int .i64 0,.int .i64 0,.int .i64 0,.int .i64 0,.int .i64 0,.int .i64 0],.agg [.int .i64 0,.int .i64 0,.int .i64 0,.int .i64 0,.int .i64 0,.int .i64 0],.agg [.int .i64 0,.int .i64 0,.int .i64 0,.int .i64 0,.int .i64 0,.int .i64 0],.agg [.int .i64 0,.int .i64 0,.int .i64 0,.int .i64 0,.int .i64 0,.int .i64 0]]] []),m 60 10,p (.aS (some 42) (.t 4) (.t 59)),o 5 (.mv (.c (.nils 10))),m 6 60]
def YS:=[ad 61 36 1,m 36 61]
def YT:=[m 62 7,o 63 (.call 115 [.t 62])]
def YU:=[f 64 3 3 3,ao 65 6 64,bq 66 0]
def YV:=[o 67 (.bin .lss (.t 66) (aW 6))]
def YW:=[m 68 66,o 69 (.ix 6 1 none (.t 65) (.t 66)),m 11 68,m 12 69]
def YX:=[m 70 7,f 71 0 0 3,l 72 71,m 73 11,m 74 7,f 75 0 0 3,l 76 75,m 77 11,o 78 (.nilC (.t 74)),f 79 0 0 78,f 80 3 6 79,o 81 (.ia 6 6 (.t 80) (.t 76)),o 82 (.ia 6 1 (.t 81) (.t 77)),l 83 82,m 84 12,o 85 (.max2 (.t 83) (.t 84)),o 86 (.nilC (.t 70)),f 87 0 0 86,f 88 3 6 87,o 89 (.ia 6 6 (.t 88) (.t 72)),o 90 (.ia 6 1 (.t 89) (.t 73)),p (.aS none (.t 90) (.t 85))]
def Ri:=some [[],[],[1],[],[],[],[5],[],[4],[8],[9],[10,6],[11,7],[12],[],[13,14],[0],[16],[17],[18,2],[19,3,0,1,2,3,4,5,6,7,8,9,10,11,12,13,14,15],[20,15,0,1,2,3,4,5,6,7,8,9,10,11,12,13,14,15]]
def YY:=[ad 91 66 1,m 66 91]
def Y0:=[f 93 2 2 3,l 94 93,m 92 94]
def Y1:=[m 95 7,f 96 0 0 3,l 97 96,o 98 (.call 116 [.t 95,.t 97,bo]),o 13 (.alloc (.agg [.int .i64 0,.int .i64 0,.bool false,.agg [.int .i64 0,.int .i64 0,.int .i64 0,.int .i64 0,.int .i64 0,.int .i64 0],.nils 8])),p (.aS (some 10) (.t 13) (.t 98))]
def Y2:=[m 99 7,f 100 3 3 3,ao 101 6 100,o 102 (.call 119 [.t 99,.t 101]),f 103 4 9 13,p (.aS none (.t 103) (.t 102))]
def yz:=[m 104 7,o 105 (.nilC (.t 104)),f 106 0 0 105,ao 107 42 106,ao 108 10 13,o 109 (.bs 91 10 [.t 108]),p (.aS (some 42) (.t 4) (.t 107)),m 5 109,bq 6 0]
def Rj:=some [[],[0],[1],[2],[],[4],[3,0,1,2,3],[5,6,0,1,2,3,4,5,6],[7,0,1,2,3,4,5,6,7]] -- DRAW BAD
def Y3:=[m 111 7,o 112 (.nilC (.t 111)),f 113 0 0 112,f 114 2 5 113,l 115 114,o 116 (.len (.t 115)),f 117 2 5 2,l 118 117,o 119 (.len (.t 118)),o 120 (.bin .gtr (.t 116) (.t 119)),m 110 120]
def Rk:=some [[],[0],[1],[2],[3],[4],[],[6],[7],[5,8],[9]]
def yA:=[m 121 7,o 122 (.nilC (.t 121)),f 123 0 0 122,ao 124 42 123,m 125 7,f 126 0 0 3,l 127 126,o 128 (.call 116 [.t 125,.t 127,T]),o 129 (.bs 91 10 [.t 128]),p (.aS (some 42) (.t 4) (.t 124)),m 5 129,bq 6 0]
def Rl:=some [[],[0],[1],[2],[],[],[5],[4,6],[7],[3,7,0,1,2,3],[8,9,0,1,2,3,4,5,6,7,8,9],[10,0,1,2,3,4,5,6,7,8,9,10]] -- DRAW BAD
def Y4:=[m 130 7,o 131 (.nilC (.t 130)),f 132 0 0 131,ao 133 42 132,p (.aS (some 42) (.t 4) (.t 133)),o 5 (.mv (.c (.nils 10))),bq 6 0]
def CX:bn:=(s (r YN) (s (.block 0 (s (r YO) (.cond (.t 14) (s (r YZ) .ret) (s (r Y5) (.cond (.t 19) (s (r Y6) .ret) .skip))))) (s (r Y7) (s (s (r Y8) (.block 1 (.loop (s (r Y9) (s (.cond (.t 37) .skip (.exit 1)) (s (.block 2 (s (r Za) (s (s (.b9 Rm Zb) (.cond (.t 53) (.exit 2) .skip)) (s (r YP) (s (r YQ) (.cond (.t 58) (s (r YR) .ret) .skip)))))) (r YS))))))) (s (r YT) (s (s (r YU) (.block 3 (.loop (s (r YV) (s (.cond (.t 67) .skip (.exit 3)) (s (.block 4 (s (r YW) (.b9 Ri YX))) (r YY))))))) (s (.block 5 (s (r Y0) (.cond (.t 92) (s (r Y1) (s (r Y2) (s (.b9 Rj yz) .ret))) (s (.b9 Rk Y3) (.cond (.t 110) (s (.b9 Rl yA) .ret) .skip))))) (s (r Y4) .ret))))))))
def H9:List bu:=[.cell 4 (some 42),.tmp 5,.tmp 6]
theorem OR:bX Tryz.prog Tryz.f61 CX:=e (by kernel_rfl)
theorem Qt:bV Tryz.prog Tryz.f61 H9:=e (by kernel_rfl)
theorem Ng:bK Tryz.prog 61:=e (by kernel_rfl)
def Zc:=[b 2 0,o 4 (.alloc (.agg [.int .i64 0,.agg [.agg [.ak ⟨#[]⟩,.ak ⟨#[]⟩],.agg [.ak ⟨#[]⟩,.ak ⟨#[]⟩]],.nils 8,.agg [.agg [.int .i64 0,.int .i64 0,.int .i64 0,.int .i64 0,.int .i64 0,.int .i64 0],.agg [.int .i64 0,.int .i64 0,.int .i64 0,.int .i64 0,.int .i64 0,.int .i64 0],.agg [.int .i64 0,.int .i64 0,.int .i64 0,.int .i64 0,.int .i64 0,.int .i64 0],.agg [.int .i64 0,.int .i64 0,.int .i64 0,.int .i64 0,.int .i64 0,.int .i64 0],.agg [.int .i64 0,.int .i64 0,.int .i64 0,.int .i64 0,.int .i64 0,.int .i64 0],.agg [.int .i64 0,.int .i64 0,.int .i64 0,.int .i64 0,.int .i64 0,.int .i64 0]]])),bq 5 0]
def Zd:=[ao 9 42 2,o 10 (.call 111 [.t 9]),no 11 10]
def Zf:=[o 12 (.bld [.int .i64 0,.agg [.agg [.ak ⟨#[]⟩,.ak ⟨#[]⟩],.agg [.ak ⟨#[]⟩,.ak ⟨#[]⟩]],.nils 8,.agg [.agg [.int .i64 0,.int .i64 0,.int .i64 0,.int .i64 0,.int .i64 0,.int .i64 0],.agg [.int .i64 0,.int .i64 0,.int .i64 0,.int .i64 0,.int .i64 0,.int .i64 0],.agg [.int .i64 0,.int .i64 0,.int .i64 0,.int .i64 0,.int .i64 0,.int .i64 0],.agg [.int .i64 0,.int .i64 0,.int .i64 0,.int .i64 0,.int .i64 0,.int .i64 0],.agg [.int .i64 0,.int .i64 0,.int .i64 0,.int .i64 0,.int .i64 0,.int .i64 0],.agg [.int .i64 0,.int .i64 0,.int .i64 0,.int .i64 0,.int .i64 0,.int .i64 0]]] []),p (.aS (some 42) (.t 4) (.t 12)),bq 5 85]
def Zg:=[f 13 1 1 2,ao 14 4 13,m 15 1,o 16 (.call 22 [.t 14,.t 15]),o 6 (.alloc (.agg [.agg [.ak ⟨#[]⟩,.ak ⟨#[]⟩],.agg [.ak ⟨#[]⟩,.ak ⟨#[]⟩]])),p (.aS (some 4) (.t 6) (.t 16))]
def Zh:=[m 17 1,o 18 (.call 121 [.t 17,(aW 6),(aW 3)])]
def Zi:=[o 20 (.bin .eql (.t 18) (aW 1)),m 19 20]
def Zj:=[ao 21 4 6,o 22 (.call 24 [.t 21,bo]),p (.aS (some 4) (.t 6) (.t 22))]
def Zk:=[o 24 (.bin .eql (.t 18) (aW 2)),m 23 24]
def Zl:=[ao 25 4 6,o 26 (.call 24 [.t 25,T]),p (.aS (some 4) (.t 6) (.t 26))]
def Zm:=[ao 28 4 6,o 29 (.call 18 [.t 28]),m 27 29,o 30 (.ext (.t 27) 0),o 31 (.ext (.t 27) 1),o 7 (.alloc (.agg [.agg [.ak ⟨#[]⟩,.ak ⟨#[]⟩],.agg [.ak ⟨#[]⟩,.ak ⟨#[]⟩]])),p (.aS (some 4) (.t 7) (.t 30)),m 8 31]
def Ze:=[f 32 0 0 2,l 33 32,ao 34 4 7,m 35 8,o 36 (.bld [.int .i64 0,.agg [.agg [.ak ⟨#[]⟩,.ak ⟨#[]⟩],.agg [.ak ⟨#[]⟩,.ak ⟨#[]⟩]],.nils 8,.agg [.agg [.int .i64 0,.int .i64 0,.int .i64 0,.int .i64 0,.int .i64 0,.int .i64 0],.agg [.int .i64 0,.int .i64 0,.int .i64 0,.int .i64 0,.int .i64 0,.int .i64 0],.agg [.int .i64 0,.int .i64 0,.int .i64 0,.int .i64 0,.int .i64 0,.int .i64 0],.agg [.int .i64 0,.int .i64 0,.int .i64 0,.int .i64 0,.int .i64 0,.int .i64 0],.agg [.int .i64 0,.int .i64 0,.int .i64 0,.int .i64 0,.int .i64 0,.int .i64 0],.agg [.int .i64 0,.int .i64 0,.int .i64 0,.int .i64 0,.int .i64 0,.int .i64 0]]] [(0,(.t 33)),(1,(.t 34)),(2,(.t 35))]),p (.aS (some 42) (.t 4) (.t 36)),bq 5 0]
def CY:bn:=(s (r Zc) (s (s (r Zd) (.cond (.t 11) (s (r Zf) .ret) .skip)) (s (r Zg) (s (s (r Zh) (.block 0 (s (r Zi) (.cond (.t 19) (r Zj) (s (r Zk) (.cond (.t 23) (r Zl) .skip)))))) (s (r Zm) (s (r Ze) .ret))))))
def Ia:List bu:=[.cell 4 (some 42),.tmp 5]
theorem OS:bX Tryz.prog Tryz.f63 CY:=e (by kernel_rfl)
theorem Qu:bV Tryz.prog Tryz.f63 Ia:=e (by kernel_rfl)
theorem Nh:bK Tryz.prog 63:=e (by kernel_rfl)
def Zn:=[o 2 (.alloc (.agg [.agg [.int .i64 0,.agg [.agg [.ak ⟨#[]⟩,.ak ⟨#[]⟩],.agg [.ak ⟨#[]⟩,.ak ⟨#[]⟩]],.nils 8,.agg [.agg [.int .i64 0,.int .i64 0,.int .i64 0,.int .i64 0,.int .i64 0,.int .i64 0],.agg [.int .i64 0,.int .i64 0,.int .i64 0,.int .i64 0,.int .i64 0,.int .i64 0],.agg [.int .i64 0,.int .i64 0,.int .i64 0,.int .i64 0,.int .i64 0,.int .i64 0],.agg [.int .i64 0,.int .i64 0,.int .i64 0,.int .i64 0,.int .i64 0,.int .i64 0],.agg [.int .i64 0,.int .i64 0,.int .i64 0,.int .i64 0,.int .i64 0,.int .i64 0],.agg [.int .i64 0,.int .i64 0,.int .i64 0,.int .i64 0,.int .i64 0,.int .i64 0]]],.agg [.int .i64 0,.agg [.agg [.ak ⟨#[]⟩,.ak ⟨#[]⟩],.agg [.ak ⟨#[]⟩,.ak ⟨#[]⟩]],.nils 8,.agg [.agg [.int .i64 0,.int .i64 0,.int .i64 0,.int .i64 0,.int .i64 0,.int .i64 0],.agg [.int .i64 0,.int .i64 0,.int .i64 0,.int .i64 0,.int .i64 0,.int .i64 0],.agg [.int .i64 0,.int .i64 0,.int .i64 0,.int .i64 0,.int .i64 0,.int .i64 0],.agg [.int .i64 0,.int .i64 0,.int .i64 0,.int .i64 0,.int .i64 0,.int .i64 0],.agg [.int .i64 0,.int .i64 0,.int .i64 0,.int .i64 0,.int .i64 0,.int .i64 0],.agg [.int .i64 0,.int .i64 0,.int .i64 0,.int .i64 0,.int .i64 0,.int .i64 0]]],.agg [.int .i64 0,.agg [.agg [.ak ⟨#[]⟩,.ak ⟨#[]⟩],.agg [.ak ⟨#[]⟩,.ak ⟨#[]⟩]],.nils 8,.agg [.agg [.int .i64 0,.int .i64 0,.int .i64 0,.int .i64 0,.int .i64 0,.int .i64 0],.agg [.int .i64 0,.int .i64 0,.int .i64 0,.int .i64 0,.int .i64 0,.int .i64 0],.agg [.int .i64 0,.int .i64 0,.int .i64 0,.int .i64 0,.int .i64 0,.int .i64 0],.agg [.int .i64 0,.int .i64 0,.int .i64 0,.int .i64 0,.int .i64 0,.int .i64 0],.agg [.int .i64 0,.int .i64 0,.int .i64 0,.int .i64 0,.int .i64 0,.int .i64 0],.agg [.int .i64 0,.int .i64 0,.int .i64 0,.int .i64 0,.int .i64 0,.int .i64 0]]]])),o 3 (.mv (.c (.nils 10))),o 4 (.mv bo)]
def Zo:=[o 5 (.alloc (.agg [.agg [.int .i64 0,.agg [.agg [.ak ⟨#[]⟩,.ak ⟨#[]⟩],.agg [.ak ⟨#[]⟩,.ak ⟨#[]⟩]],.nils 8,.agg [.agg [.int .i64 0,.int .i64 0,.int .i64 0,.int .i64 0,.int .i64 0,.int .i64 0],.agg [.int .i64 0,.int .i64 0,.int .i64 0,.int .i64 0,.int .i64 0,.int .i64 0],.agg [.int .i64 0,.int .i64 0,.int .i64 0,.int .i64 0,.int .i64 0,.int .i64 0],.agg [.int .i64 0,.int .i64 0,.int .i64 0,.int .i64 0,.int .i64 0,.int .i64 0],.agg [.int .i64 0,.int .i64 0,.int .i64 0,.int .i64 0,.int .i64 0,.int .i64 0],.agg [.int .i64 0,.int .i64 0,.int .i64 0,.int .i64 0,.int .i64 0,.int .i64 0]]],.agg [.int .i64 0,.agg [.agg [.ak ⟨#[]⟩,.ak ⟨#[]⟩],.agg [.ak ⟨#[]⟩,.ak ⟨#[]⟩]],.nils 8,.agg [.agg [.int .i64 0,.int .i64 0,.int .i64 0,.int .i64 0,.int .i64 0,.int .i64 0],.agg [.int .i64 0,.int .i64 0,.int .i64 0,.int .i64 0,.int .i64 0,.int .i64 0],.agg [.int .i64 0,.int .i64 0,.int .i64 0,.int .i64 0,.int .i64 0,.int .i64 0],.agg [.int .i64 0,.int .i64 0,.int .i64 0,.int .i64 0,.int .i64 0,.int .i64 0],.agg [.int .i64 0,.int .i64 0,.int .i64 0,.int .i64 0,.int .i64 0,.int .i64 0],.agg [.int .i64 0,.int .i64 0,.int .i64 0,.int .i64 0,.int .i64 0,.int .i64 0]]],.agg [.int .i64 0,.agg [.agg [.ak ⟨#[]⟩,.ak ⟨#[]⟩],.agg [.ak ⟨#[]⟩,.ak ⟨#[]⟩]],.nils 8,.agg [.agg [.int .i64 0,.int .i64 0,.int .i64 0,.int .i64 0,.int .i64 0,.int .i64 0],.agg [.int .i64 0,.int .i64 0,.int .i64 0,.int .i64 0,.int .i64 0,.int .i64 0],.agg [.int .i64 0,.int .i64 0,.int .i64 0,.int .i64 0,.int .i64 0,.int .i64 0],.agg [.int .i64 0,.int .i64 0,.int .i64 0,.int .i64 0,.int .i64 0,.int .i64 0],.agg [.int .i64 0,.int .i64 0,.int .i64 0,.int .i64 0,.int .i64 0,.int .i64 0],.agg [.int .i64 0,.int .i64 0,.int .i64 0,.int .i64 0,.int .i64 0,.int .i64 0]]]]))]
def Zy:=[bq 6 0]
def ZI:=[m 26 6,o 27 (.bin .lss (.t 26) (aW 3))]
def ZR:=[m 31 6,o 32 (.call 55 [.t 31]),m 30 32,o 33 (.ext (.t 30) 0),o 34 (.ext (.t 30) 1),o 7 (.alloc (.agg [.int .i64 0,.agg [.agg [.ak ⟨#[]⟩,.ak ⟨#[]⟩],.agg [.ak ⟨#[]⟩,.ak ⟨#[]⟩]],.nils 8,.agg [.agg [.int .i64 0,.int .i64 0,.int .i64 0,.int .i64 0,.int .i64 0,.int .i64 0],.agg [.int .i64 0,.int .i64 0,.int .i64 0,.int .i64 0,.int .i64 0,.int .i64 0],.agg [.int .i64 0,.int .i64 0,.int .i64 0,.int .i64 0,.int .i64 0,.int .i64 0],.agg [.int .i64 0,.int .i64 0,.int .i64 0,.int .i64 0,.int .i64 0,.int .i64 0],.agg [.int .i64 0,.int .i64 0,.int .i64 0,.int .i64 0,.int .i64 0,.int .i64 0],.agg [.int .i64 0,.int .i64 0,.int .i64 0,.int .i64 0,.int .i64 0,.int .i64 0]]])),p (.aS (some 42) (.t 7) (.t 33)),m 8 34]
def ZY:=[m 35 8,o 36 (.bin .neq (.t 35) (aW 0))]
def ZZ:=[ao 37 126 5,p (.aS (some 126) (.t 2) (.t 37)),o 3 (.mv (.c (.nils 10))),o 4 (.mv bo)]
def Z0:=[m 38 6,ao 39 42 7,o 40 (.ia 3 42 (.t 5) (.t 38)),p (.aS (some 42) (.t 40) (.t 39))]
def Z1:=[m 28 6,ad 29 28 1,m 6 29]
def Z2:=[o 9 (.mv (.c (.nils 10)))]
def Zp:=[bq 10 0]
def Zq:=[m 41 10,m 42 0,o 43 (.len (.t 42)),lt 44 41 43,m 45 44,eW 46 10 45,cw 47 (.bin .lss (.t 46) (aW 14)) 45,and 48 45 47]
def Zr:=[m 51 0,m 52 10,o 53 (.is 9 (.t 51) (.t 52)),ao 54 9 53,o 11 (.alloc (.agg [.int .i64 0,.int .i64 0,.int .i64 0,.agg [.int .i64 0,.int .i64 0,.int .i64 0,.int .i64 0,.int .i64 0],.nils 1])),p (.aS (some 9) (.t 11) (.t 54))]
def Zs:=[f 55 1 1 11,l 56 55,o 57 (.call 28 [.t 56,(aW 3)]),m 12 57]
def Zt:=[f 58 0 0 11,l 59 58,o 60 (.call 28 [.t 59,(aW 8)])]
def Zu:=[o 104 (.bin .eql (.t 60) (aW 3)),m 103 104]
def Zv:=[o 105 (.bin .eql (.t 60) (aW 4)),m 103 105]
def yB:=[m 107 12,o 108 (.ia 3 42 (.t 5) (.t 107)),ao 109 42 108,m 110 12,ad 111 110 1,f 112 2 2 11,l 113 112,o 114 (.call 28 [.t 113,(aW 2)]),o 115 (.bin .add (.t 111) (.t 114)),o 116 (.bin .rem (.t 115) (aW 3)),o 117 (.call 59 [.t 109,.t 116]),m 106 117,o 118 (.ext (.t 106) 0),o 119 (.ext (.t 106) 1),o 120 (.ext (.t 106) 2),o 13 (.alloc (.agg [.int .i64 0,.agg [.agg [.ak ⟨#[]⟩,.ak ⟨#[]⟩],.agg [.ak ⟨#[]⟩,.ak ⟨#[]⟩]],.nils 8,.agg [.agg [.int .i64 0,.int .i64 0,.int .i64 0,.int .i64 0,.int .i64 0,.int .i64 0],.agg [.int .i64 0,.int .i64 0,.int .i64 0,.int .i64 0,.int .i64 0,.int .i64 0],.agg [.int .i64 0,.int .i64 0,.int .i64 0,.int .i64 0,.int .i64 0,.int .i64 0],.agg [.int .i64 0,.int .i64 0,.int .i64 0,.int .i64 0,.int .i64 0,.int .i64 0],.agg [.int .i64 0,.int .i64 0,.int .i64 0,.int .i64 0,.int .i64 0,.int .i64 0],.agg [.int .i64 0,.int .i64 0,.int .i64 0,.int .i64 0,.int .i64 0,.int .i64 0]]])),o 14 (.alloc (.agg [.int .i64 0,.int .i64 0,.bool false,.agg [.int .i64 0,.int .i64 0,.int .i64 0,.int .i64 0,.int .i64 0,.int .i64 0],.nils 8])),p (.aS (some 42) (.t 13) (.t 118)),p (.aS (some 10) (.t 14) (.t 119)),m 15 120]
def Rn:=some [[],[0],[1],[],[3],[],[5],[6],[4,7],[8],[2,9,7],[10],[11],[11],[11],[],[],[15,12,10,0,1,2,3,4,5,6,7,8,9,10,11,12,15,16],[16,13,17,0,1,2,3,4,5,6,7,8,9,10,11,12,13,15,16,17],[14,18,0,1,2,3,4,5,6,7,8,9,10,11,12,13,14,15,16,17,18]] -- DRAW BAD
def Zw:=[m 121 15,o 122 (.bin .neq (.t 121) (aW 0))]
def Zx:=[ao 123 126 5,p (.aS (some 126) (.t 2) (.t 123)),o 3 (.mv (.c (.nils 10))),o 4 (.mv bo)]
def Zz:=[m 124 12,ao 125 42 13,o 126 (.ia 3 42 (.t 5) (.t 124)),p (.aS (some 42) (.t 126) (.t 125))]
def ZA:=[m 127 9,ao 128 10 14,o 129 (.bs 91 10 [.t 128]),o 130 (.eB 91 10 96 (.agg [.int .i64 0,.int .i64 0,.bool false,.agg [.int .i64 0,.int .i64 0,.int .i64 0,.int .i64 0,.int .i64 0,.int .i64 0],.nils 8]) (.t 127) (.t 129)),m 9 130]
def ZB:=[o 132 (.bin .eql (.t 60) (aW 5)),m 131 132]
def ZC:=[o 133 (.bin .eql (.t 60) (aW 6)),m 131 133]
def ZD:=[m 134 9,o 135 (.len (.t 134)),o 136 (.bin .eql (.t 135) (aW 0))]
def ZE:=[f 137 2 2 11,l 138 137,m 139 9,o 140 (.len (.t 139)),o 141 (.call 28 [.t 138,.t 140]),m 16 141]
def ZF:=[m 142 9,m 143 16,o 144 (.is 10 (.t 142) (.t 143)),ao 145 10 144,o 17 (.alloc (.agg [.int .i64 0,.int .i64 0,.bool false,.agg [.int .i64 0,.int .i64 0,.int .i64 0,.int .i64 0,.int .i64 0,.int .i64 0],.nils 8])),p (.aS (some 10) (.t 17) (.t 145))]
def ZG:=[f 146 1 1 17,l 147 146,o 148 (.bin .lss (.t 147) (aW 0)),m 149 148,fn 150 1 1 17 149,fQ 151 150 149,on 152 (.bin .gtr (.t 151) (aW 2)) 149,or 153 149 152]
def ZH:=[ao 154 126 5,p (.aS (some 126) (.t 2) (.t 154)),o 3 (.mv (.c (.nils 10))),o 4 (.mv bo)]
def sG:=[f 156 1 1 17,l 157 156,o 158 (.ia 3 42 (.t 5) (.t 157)),ao 159 42 158,ao 160 10 17,o 161 (.call 61 [.t 159,.t 160]),m 155 161,o 162 (.ext (.t 155) 0),o 163 (.ext (.t 155) 1),o 164 (.ext (.t 155) 2),o 18 (.alloc (.agg [.int .i64 0,.agg [.agg [.ak ⟨#[]⟩,.ak ⟨#[]⟩],.agg [.ak ⟨#[]⟩,.ak ⟨#[]⟩]],.nils 8,.agg [.agg [.int .i64 0,.int .i64 0,.int .i64 0,.int .i64 0,.int .i64 0,.int .i64 0],.agg [.int .i64 0,.int .i64 0,.int .i64 0,.int .i64 0,.int .i64 0,.int .i64 0],.agg [.int .i64 0,.int .i64 0,.int .i64 0,.int .i64 0,.int .i64 0,.int .i64 0],.agg [.int .i64 0,.int .i64 0,.int .i64 0,.int .i64 0,.int .i64 0,.int .i64 0],.agg [.int .i64 0,.int .i64 0,.int .i64 0,.int .i64 0,.int .i64 0,.int .i64 0],.agg [.int .i64 0,.int .i64 0,.int .i64 0,.int .i64 0,.int .i64 0,.int .i64 0]]])),p (.aS (some 42) (.t 18) (.t 162)),m 19 163,m 20 164]
def Ro:=some [[],[0],[1],[2],[],[3,4],[5],[6],[6],[6],[],[10,7,5,0,1,2,3,4,5,6,7,10],[8,11,0,1,2,3,4,5,6,7,8,10,11],[9,12,0,1,2,3,4,5,6,7,8,9,10,11,12]]
def ZJ:=[m 165 20,o 166 (.bin .neq (.t 165) (aW 0))]
def ZK:=[ao 167 126 5,p (.aS (some 126) (.t 2) (.t 167)),o 3 (.mv (.c (.nils 10))),o 4 (.mv bo)]
def ZL:=[f 168 1 1 17,l 169 168,ao 170 42 18,o 171 (.ia 3 42 (.t 5) (.t 169)),p (.aS (some 42) (.t 171) (.t 170))]
def ZM:=[f 172 1 1 11,l 173 172,o 174 (.bin .rem (.t 173) (aW 2)),o 175 (.bin .eql (.t 174) (aW 0))]
def yC:=[o 176 (.bs0 10),m 177 9,m 178 16,o 179 (.sl 10 (.t 177) none (some (.t 178)) none),o 180 (.eB 91 10 96 (.agg [.int .i64 0,.int .i64 0,.bool false,.agg [.int .i64 0,.int .i64 0,.int .i64 0,.int .i64 0,.int .i64 0,.int .i64 0],.nils 8]) (.t 176) (.t 179)),m 181 9,m 182 16,ad 183 182 1,o 184 (.sl 10 (.t 181) (some (.t 183)) none none),o 185 (.eB 91 10 96 (.agg [.int .i64 0,.int .i64 0,.bool false,.agg [.int .i64 0,.int .i64 0,.int .i64 0,.int .i64 0,.int .i64 0,.int .i64 0],.nils 8]) (.t 180) (.t 184)),m 9 185]
def Rp:=some [[],[],[],[1,2],[0,3],[],[],[6],[5,7],[4,8,4],[9,9,0,1,2,3,4,5,6,7,8,9]] -- DRAW BAD
def ZN:=[m 186 9,m 187 19,o 188 (.eB 91 10 96 (.agg [.int .i64 0,.int .i64 0,.bool false,.agg [.int .i64 0,.int .i64 0,.int .i64 0,.int .i64 0,.int .i64 0,.int .i64 0],.nils 8]) (.t 186) (.t 187)),m 9 188]
def ZO:=[o 190 (.bin .eql (.t 60) (aW 7)),m 189 190]
def yD:=[m 192 12,o 193 (.ia 3 42 (.t 5) (.t 192)),ao 194 42 193,f 195 4 8 11,l 196 195,o 197 (.call 63 [.t 194,.t 196]),m 191 197,o 198 (.ext (.t 191) 0),o 199 (.ext (.t 191) 1),o 21 (.alloc (.agg [.int .i64 0,.agg [.agg [.ak ⟨#[]⟩,.ak ⟨#[]⟩],.agg [.ak ⟨#[]⟩,.ak ⟨#[]⟩]],.nils 8,.agg [.agg [.int .i64 0,.int .i64 0,.int .i64 0,.int .i64 0,.int .i64 0,.int .i64 0],.agg [.int .i64 0,.int .i64 0,.int .i64 0,.int .i64 0,.int .i64 0,.int .i64 0],.agg [.int .i64 0,.int .i64 0,.int .i64 0,.int .i64 0,.int .i64 0,.int .i64 0],.agg [.int .i64 0,.int .i64 0,.int .i64 0,.int .i64 0,.int .i64 0,.int .i64 0],.agg [.int .i64 0,.int .i64 0,.int .i64 0,.int .i64 0,.int .i64 0,.int .i64 0],.agg [.int .i64 0,.int .i64 0,.int .i64 0,.int .i64 0,.int .i64 0,.int .i64 0]]])),p (.aS (some 42) (.t 21) (.t 198)),m 22 199]
def Rq:=some [[],[0],[1],[],[3],[2,4],[5],[6],[6],[],[9,7,5,0,1,2,3,4,5,6,7,9],[8,10,0,1,2,3,4,5,6,7,8,9,10]]
def ZP:=[m 200 22,o 201 (.bin .neq (.t 200) (aW 0))]
def ZQ:=[ao 202 126 5,p (.aS (some 126) (.t 2) (.t 202)),o 3 (.mv (.c (.nils 10))),o 4 (.mv bo)]
def ZS:=[m 203 12,ao 204 42 21,o 205 (.ia 3 42 (.t 5) (.t 203)),p (.aS (some 42) (.t 205) (.t 204))]
def yE:=[m 62 12,o 63 (.ia 3 42 (.t 5) (.t 62)),ao 64 42 63,f 65 3 3 11,o 66 (.ia 5 1 (.t 65) (aW 1)),l 67 66,o 68 (.call 28 [.t 67,(aW 40)]),o 69 (.bin .add (aW 1) (.t 68)),f 70 3 3 11,o 71 (.ia 5 1 (.t 70) (aW 2)),l 72 71,o 73 (.call 28 [.t 72,(aW 50)]),f 74 3 3 11,o 75 (.ia 5 1 (.t 74) (aW 3)),l 76 75,o 77 (.call 28 [.t 76,(aW 50)]),o 78 (.bs 9 1 [(.c (.ak ⟨#[]⟩)),(.c (.ak ⟨#[111,102,32,97,32,98,101,97,115,116]⟩)),(.c (.ak ⟨#[97,32,116,101,120,116,32,116,104,97,116,32,116,101,97,114,115,32,115,111,109,101,119,104,101,114,101,32,105,110,32,105,116,115,32,109,105,100,115,116]⟩))]),f 79 3 3 11,o 80 (.ia 5 1 (.t 79) (aW 4)),l 81 80,o 82 (.call 28 [.t 81,(aW 3)]),o 83 (.is 1 (.t 78) (.t 82)),l 84 83,o 85 (.bld [.agg [.int .i64 0,.int .i64 0],.int .i64 0,.int .i64 0,.int .i64 0,.agg [.int .i64 0,.int .i64 0],.ak ⟨#[]⟩] [(1,(.t 69)),(2,(.t 73)),(3,(.t 77)),(5,(.t 84))]),o 86 (.call 57 [.t 64,.t 85]),m 61 86,o 87 (.ext (.t 61) 0),o 88 (.ext (.t 61) 1),o 89 (.ext (.t 61) 2),o 23 (.alloc (.agg [.int .i64 0,.agg [.agg [.ak ⟨#[]⟩,.ak ⟨#[]⟩],.agg [.ak ⟨#[]⟩,.ak ⟨#[]⟩]],.nils 8,.agg [.agg [.int .i64 0,.int .i64 0,.int .i64 0,.int .i64 0,.int .i64 0,.int .i64 0],.agg [.int .i64 0,.int .i64 0,.int .i64 0,.int .i64 0,.int .i64 0,.int .i64 0],.agg [.int .i64 0,.int .i64 0,.int .i64 0,.int .i64 0,.int .i64 0,.int .i64 0],.agg [.int .i64 0,.int .i64 0,.int .i64 0,.int .i64 0,.int .i64 0,.int .i64 0],.agg [.int .i64 0,.int .i64 0,.int .i64 0,.int .i64 0,.int .i64 0,.int .i64 0],.agg [.int .i64 0,.int .i64 0,.int .i64 0,.int .i64 0,.int .i64 0,.int .i64 0]]])),o 24 (.alloc (.agg [.agg [.int .i64 0,.int .i64 0],.int .i64 0,.int .i64 0,.int .i64 0,.agg [.int .i64 0,.int .i64 0],.ak ⟨#[]⟩])),p (.aS (some 42) (.t 23) (.t 87)),p (.aS (some 8) (.t 24) (.t 88)),m 25 89]
def Rr:=some [[],[0],[1],[],[3],[4],[5],[6],[],[8],[9],[10,6],[],[12],[13],[14,11],[],[],[17],[18],[19,15],[16,20],[21],[7,11,15,22],[2,23,20],[24],[25],[25],[25],[],[],[29,26,24,0,1,2,3,4,5,6,7,8,9,10,11,12,13,14,15,16,17,18,19,20,21,22,23,24,25,26,29,30],[30,27,31,0,1,2,3,4,5,6,7,8,9,10,11,12,13,14,15,16,17,18,19,20,21,22,23,24,25,26,27,29,30,31],[28,32,0,1,2,3,4,5,6,7,8,9,10,11,12,13,14,15,16,17,18,19,20,21,22,23,24,25,26,27,28,29,30,31,32]] -- DRAW BAD
def ZT:=[m 90 25,o 91 (.bin .neq (.t 90) (aW 0)),m 92 91,fn 93 0 0 24 92,fn 94 0 0 93 92,fQ 95 94 92,dJ 96 12 92,on 97 (.bin .neq (.t 95) (.t 96)) 92,or 98 92 97]
def ZU:=[ao 99 126 5,p (.aS (some 126) (.t 2) (.t 99)),o 3 (.mv (.c (.nils 10))),o 4 (.mv bo)]
def ZV:=[m 100 12,ao 101 42 23,o 102 (.ia 3 42 (.t 5) (.t 100)),p (.aS (some 42) (.t 102) (.t 101))]
def ZW:=[m 49 10,ad 50 49 1,m 10 50]
def ZX:=[ao 206 126 5,m 207 9,p (.aS (some 126) (.t 2) (.t 206)),m 3 207,o 4 (.mv T)]
def CZ:bn:=(s (r Zn) (s (r Zo) (s (s (r Zy) (.block 0 (.loop (s (s (r ZI) (.cond (.t 27) .skip (.exit 0))) (s (.block 1 (s (r ZR) (s (s (r ZY) (.cond (.t 36) (s (r ZZ) .ret) .skip)) (r Z0)))) (r Z1)))))) (s (r Z2) (s (s (r Zp) (.block 2 (.loop (s (s (r Zq) (.cond (.t 48) .skip (.exit 2))) (s (.block 3 (s (r Zr) (s (r Zs) (s (r Zt) (.block 4 (s (s (r Zu) (.cond (.t 103) .skip (r Zv))) (.cond (.t 103) (s (.b9 Rn yB) (s (s (r Zw) (.cond (.t 122) (s (r Zx) .ret) .skip)) (s (r Zz) (r ZA)))) (s (s (r ZB) (.cond (.t 131) .skip (r ZC))) (.cond (.t 131) (s (s (r ZD) (.cond (.t 136) (.exit 3) .skip)) (s (r ZE) (s (r ZF) (s (s (r ZG) (.cond (.t 153) (s (r ZH) .ret) .skip)) (s (.b9 Ro sG) (s (s (r ZJ) (.cond (.t 166) (s (r ZK) .ret) .skip)) (s (r ZL) (s (s (r ZM) (.cond (.t 175) (.b9 Rp yC) .skip)) (r ZN))))))))) (s (r ZO) (.cond (.t 189) (s (.b9 Rq yD) (s (s (r ZP) (.cond (.t 201) (s (r ZQ) .ret) .skip)) (r ZS))) (s (.b9 Rr yE) (s (s (r ZT) (.cond (.t 98) (s (r ZU) .ret) .skip)) (r ZV)))))))))))))) (r ZW)))))) (s (r ZX) .ret))))))
def Ib:List bu:=[.cell 2 (some 126),.tmp 3,.tmp 4]
theorem OT:bX Tryz.prog Tryz.f68 CZ:=e (by kernel_rfl)
theorem Qv:bV Tryz.prog Tryz.f68 Ib:=e (by kernel_rfl)
theorem Ni:bK Tryz.prog 68:=e (by kernel_rfl)
def Z3:=[b 1 0,o 2 (.mv (.c (.dO)))]
def Z4:=[o 3 (.mk 122 [.t 1]),m 2 3]
def C0:bn:=(s (r Z3) (s (r Z4) .ret))
def Ic:List bu:=[.tmp 2]
theorem OU:bX Tryz.prog Tryz.f69 C0:=e (by kernel_rfl)
theorem Qw:bV Tryz.prog Tryz.f69 Ic:=e (by kernel_rfl)
theorem Nj:bK Tryz.prog 69:=e (by kernel_rfl)
def EV:=[o 4 (.alloc (.agg [.agg [.int .i64 0,.int .i64 0],.int .i64 0,.int .i64 0,.int .i64 0,.agg [.int .i64 0,.int .i64 0],.ak ⟨#[]⟩])),o 5 (.alloc (.int .i64 0)),o 6 (.alloc (.bool false))]
def Z5:=[m 15 1,o 16 (.call 125 [.t 15,(.c (.ak ⟨#[10]⟩))]),m 14 16,o 17 (.ext (.t 14) 0),o 18 (.ext (.t 14) 1),m 7 17,m 8 18]
def aab:=[m 19 8,no 20 19]
def EY:=[o 21 (.bld [] []),o 22 (.prim (.oA 176) [.t 21]),p (.prim .mG [.t 22])]
def aac:=[bq 9 0]
def aad:=[o 10 (.alloc (.agg [.int .i64 0,.int .i64 0,.int .i64 0,.int .i64 0,.int .i64 0,.int .i64 0,.int .i64 0]))]
def EZ:=[m 24 7,o 25 (.call 126 [.t 24]),m 23 25,o 26 (.ext (.t 23) 0),o 27 (.ext (.t 23) 1),m 9 26,m 7 27]
def aae:=[bq 28 0]
def aaf:=[o 29 (.bin .lss (.t 28) (aW 7))]
def aag:=[m 30 28,m 11 30]
def EW:=[m 32 11,m 33 7,o 34 (.call 126 [.t 33]),m 31 34,o 35 (.ext (.t 31) 0),o 36 (.ext (.t 31) 1),o 37 (.ia 7 1 (.t 10) (.t 32)),p (.aS none (.t 37) (.t 35)),m 7 36]
def Z6:=[ad 38 28 1,m 28 38]
def Z7:=[o 39 (.ia 7 1 (.t 10) (aW 0)),l 40 39,o 41 (.ia 7 1 (.t 10) (aW 1)),l 42 41,o 43 (.bld [.int .i64 0,.int .i64 0] [(0,(.t 40)),(1,(.t 42))]),o 44 (.ia 7 1 (.t 10) (aW 2)),l 45 44,o 46 (.ia 7 1 (.t 10) (aW 3)),l 47 46,o 48 (.ia 7 1 (.t 10) (aW 4)),l 49 48,o 50 (.ia 7 1 (.t 10) (aW 5)),l 51 50,o 52 (.ia 7 1 (.t 10) (aW 6)),l 53 52,o 54 (.bld [.int .i64 0,.int .i64 0] [(0,(.t 51)),(1,(.t 53))]),m 55 7,o 56 (.bld [.agg [.int .i64 0,.int .i64 0],.int .i64 0,.int .i64 0,.int .i64 0,.agg [.int .i64 0,.int .i64 0],.ak ⟨#[]⟩] [(0,(.t 43)),(1,(.t 45)),(2,(.t 47)),(3,(.t 49)),(4,(.t 54)),(5,(.t 55))]),p (.aS (some 8) (.t 4) (.t 56))]
def Z8:=[ao 57 8 4,o 58 (.call 80 [.t 57]),no 59 58]
def EX:=[o 60 (.bld [] []),o 61 (.prim (.oA 176) [.t 60]),p (.prim .mG [.t 61])]
def Z9:=[m 63 0,ao 64 8 4,o 65 (.call 81 [.t 63,.t 64]),m 62 65,o 66 (.ext (.t 62) 0),o 67 (.ext (.t 62) 1),m 12 66,p (.aS none (.t 5) (.t 67))]
def aaa:=[m 68 12,m 69 1,o 70 (.bin .neq (.t 68) (.t 69)),m 71 70,dJ 72 9 71,fQ 73 5 71,on 74 (.bin .neq (.t 72) (.t 73)) 71,or 75 71 74]
def yF:=[o 76 (.bld [] []),o 77 (.prim (.oA 176) [.t 76]),p (.prim .mG [.t 77])]
def yG:=[ao 78 8 4,l 79 5,p (.aS (some 8) (.t 4) (.t 78)),p (.aS none (.t 5) (.t 79)),p (.aS none (.t 6) T)]
def Rs:=some [[],[],[0,0],[1,2,0,1,2],[3,0,1,2,3]] -- DRAW BAD
def wh:List bu:=[.cell 4 (some 8),.cell 5 none,.cell 6 none]
theorem Qx:bV Tryz.prog Tryz.f70 wh:=e (by kernel_rfl)
theorem Nk:bK Tryz.prog 70:=e (by kernel_rfl)
def aah:=[b 3 1,o 4 (.mv bo)]
def aai:=[m 5 0,o 6 (.len (.t 5)),o 7 (.bin .lss (.t 6) (aW 60)),m 8 7,eW 9 0 8,cw 10 (.call 100 [.t 9]) 8,eD 11 0 0 3 8,eD 12 0 0 11 8,gC 13 12 8,cw 14 (.ix 6 1 none (.t 10) (.t 13)) 8,eD 15 0 0 3 8,eD 16 1 1 15 8,gC 17 16 8,cw 18 (.bin .eql (.t 14) (.t 17)) 8,and 19 8 18,m 4 19]
def Rt:=some [[],[0],[1],[2],[3],[4,3,3],[3],[6,3],[7,3],[5,8,3],[3],[10,3],[11,3],[9,12,3],[3,13],[14,5,0,1,2,3,4,5,6,7,8,9,10,11,12,13,14]]
def C1:bn:=(s (r aah) (s (.b9 Rt aai) .ret))
def Ie:List bu:=[.tmp 4]
theorem OV:bX Tryz.prog Tryz.f71 C1:=e (by kernel_rfl)
theorem Qy:bV Tryz.prog Tryz.f71 Ie:=e (by kernel_rfl)
theorem Nl:bK Tryz.prog 71:=e (by kernel_rfl)
def aaj:=[b 1 0,o 2 (.mv (.c (.ak ⟨#[]⟩)))]
def aak:=[f 3 0 0 1,l 4 3,f 5 1 1 1,l 6 5,o 7 (.bin .add (.t 4) (.t 6)),m 2 7]
def C2:bn:=(s (r aaj) (s (r aak) .ret))
def If:List bu:=[.tmp 2]
theorem OW:bX Tryz.prog Tryz.f73 C2:=e (by kernel_rfl)
theorem Qz:bV Tryz.prog Tryz.f73 If:=e (by kernel_rfl)
theorem Nn:bK Tryz.prog 73:=e (by kernel_rfl)
def aal:=[o 2 (.mv (.c (.ak ⟨#[]⟩)))]
def aam:=[m 3 0,o 4 (.call 127 [.t 3]),m 2 4]
def C3:bn:=(s (r aal) (s (r aam) .ret))
def Ig:List bu:=[.tmp 2]
theorem OX:bX Tryz.prog Tryz.f74 C3:=e (by kernel_rfl)
theorem QA:bV Tryz.prog Tryz.f74 Ig:=e (by kernel_rfl)
theorem Np:bK Tryz.prog 74:=e (by kernel_rfl)
def aan:=[b 3 0,o 6 (.alloc (.agg [.ak ⟨#[]⟩,.ak ⟨#[]⟩]))]
def nk:=[f 9 1 1 3,l 10 9,m 11 1,m 12 2,f 13 1 1 3,l 14 13,o 15 (.lenT (.t 14)),ad 16 15 1,o 17 (.call 121 [.t 11,.t 12,.t 16]),o 18 (.prim (.ss false true) [.t 10,.t 17]),o 19 (.fC (.t 18)),m 7 19]
def Ru:=some [[],[0],[],[],[],[4],[5],[6],[2,3,7],[1,8],[9],[10,8,0,1,2,3,4,5,6,7,8,9,10]]
def aao:=[m 20 1,m 21 2,ad 22 21 1,o 23 (.call 121 [.t 20,.t 22,(aW 2)]),o 24 (.bin .eql (.t 23) (aW 1)),m 25 24,eW 26 7 25,cw 27 (.len (.t 26)) 25,cw 28 (.bin .gtr (.t 27) (aW 0)) 25,and 29 25 28]
def aap:=[m 30 7,m 31 1,m 32 2,ad 33 32 2,m 34 7,o 35 (.len (.t 34)),o 36 (.call 121 [.t 31,.t 33,.t 35]),o 37 (.is 1 (.t 30) (.t 36)),p (.aS none (.t 37) (.c (.int .u8 63)))]
def aaq:=[f 38 0 0 3,l 39 38,o 40 (.lenT (.t 39)),m 41 7,o 42 (.len (.t 41)),o 43 (.bin .add (.t 40) (.t 42)),o 44 (.kX 5 1 (.int .u8 0) (.t 43)),m 8 44]
def aar:=[m 45 8,f 46 0 0 3,l 47 46,o 48 (.iz 1 (.t 45) (.t 47))]
def aas:=[m 49 8,f 50 0 0 3,l 51 50,o 52 (.lenT (.t 51)),o 53 (.sl 1 (.t 49) (some (.t 52)) none none),m 54 7,o 55 (.iz 1 (.t 53) (.t 54))]
def aat:=[m 56 8,o 57 (.b2s (.t 56)),o 58 (.bld [.ak ⟨#[]⟩,.ak ⟨#[]⟩] [(0,(.t 57))]),p (.aS (some 2) (.t 6) (.t 58))]
def c75:bn:=(s (r aan) (s (.b9 Ru nk) (s (s (r aao) (.cond (.t 29) (r aap) .skip)) (s (r aaq) (s (r aar) (s (r aas) (s (r aat) .ret)))))))
def Ih:List bu:=[.cell 6 (some 2)]
theorem OY:bX Tryz.prog Tryz.f75 c75:=e (by kernel_rfl)
theorem QB:bV Tryz.prog Tryz.f75 Ih:=e (by kernel_rfl)
theorem Nq:bK Tryz.prog 75:=e (by kernel_rfl)
def aau:=[o 2 (.mv bo)]
def aav:=[m 3 0,o 4 (.call 128 [.t 3,(aW 0),(aW 1000002)]),m 2 4]
def C4:bn:=(s (r aau) (s (r aav) .ret))
def Ii:List bu:=[.tmp 2]
theorem OZ:bX Tryz.prog Tryz.f79 C4:=e (by kernel_rfl)
theorem QC:bV Tryz.prog Tryz.f79 Ii:=e (by kernel_rfl)
theorem Nr:bK Tryz.prog 79:=e (by kernel_rfl)
def aaw:=[b 1 0,o 2 (.mv bo)]
def aax:=[f 3 0 0 1,ao 4 2 3,o 5 (.call 129 [.t 4]),no 6 5,m 7 6,fn 8 1 2 1 7,fQ 9 8 7,on 10 (.call 128 [.t 9,(aW 0),(aW 40)]) 7,on 11 (.un .not (.t 10)) 7,or 12 7 11,m 13 12,fn 14 2 3 1 13,fQ 15 14 13,on 16 (.call 105 [.t 15]) 13,on 17 (.un .not (.t 16)) 13,or 18 13 17,m 19 18,fn 20 3 4 1 19,fQ 21 20 19,on 22 (.call 105 [.t 21]) 19,on 23 (.un .not (.t 22)) 19,or 24 19 23,m 25 24,fn 26 5 7 1 25,fQ 27 26 25,on 28 (.call 130 [.t 27]) 25,on 29 (.un .not (.t 28)) 25,or 30 25 29]
def aay:=[o 2 (.mv bo)]
def aaz:=[f 31 1 2 1,l 32 31,o 33 (.bin .eql (.t 32) (aW 0))]
def aaA:=[f 34 2 3 1,l 35 34,o 36 (.bin .eql (.t 35) (aW 0)),m 37 36,eD 38 5 7 1 37,gC 39 38 37,cw 40 (.bin .eql (.t 39) (.c (.ak ⟨#[]⟩))) 37,and 41 37 40,m 42 41,eD 43 4 5 1 42,cw 44 (.ld (some 2) (.t 43)) 42,cw 45 (.call 129 [.t 44]) 42,and 46 42 45,m 47 46,eD 48 4 5 1 47,eD 49 0 0 48 47,gC 50 49 47,eD 51 0 0 1 47,eD 52 0 0 51 47,gC 53 52 47,cw 54 (.bin .eql (.t 50) (.t 53)) 47,and 55 47 54,m 56 55,eD 57 4 5 1 56,eD 58 1 1 57 56,gC 59 58 56,eD 60 0 0 1 56,eD 61 1 1 60 56,gC 62 61 56,cw 63 (.bin .lss (.t 59) (.t 62)) 56,and 64 56 63,m 2 64]
def aaB:=[f 65 4 5 1,ao 66 2 65,o 67 (.bld [.int .i64 0,.int .i64 0] []),o 68 (.eqv (.aS [(.i .i64),(.i .i64)]) false (.t 66) (.t 67)),m 2 68]
def c80:bn:=(s (r aaw) (s (s (r aax) (.cond (.t 30) (s (r aay) .ret) .skip)) (s (s (r aaz) (.cond (.t 33) (s (r aaA) .ret) .skip)) (s (r aaB) .ret))))
def Ij:List bu:=[.tmp 2]
theorem O0:bX Tryz.prog Tryz.f80 c80:=e (by kernel_rfl)
theorem QD:bV Tryz.prog Tryz.f80 Ij:=e (by kernel_rfl)
theorem Nt:bK Tryz.prog 80:=e (by kernel_rfl)
def aaC:=[b 3 1,o 4 (.mv (.c (.ak ⟨#[]⟩))),bq 5 0]
def aaD:=[ao 9 8 3,o 10 (.call 131 [.t 9]),m 6 10]
def aaE:=[m 11 6,o 12 (.fC (.t 11)),o 13 (.len (.t 12)),bq 14 0]
def aaF:=[lt 15 14 13]
def aaG:=[o 16 (.is 1 (.t 12) (.t 14)),l 17 16,m 8 17]
def aaH:=[m 18 0,o 19 (.bin .mul (aW 257) (.t 18)),m 20 8,o 21 (.conv .i64 (.t 20)),o 22 (.bin .add (.t 19) (.t 21)),ad 23 22 1,o 24 (.bin .rem (.t 23) (aW 1000003)),m 0 24]
def aaI:=[ad 25 14 1,m 14 25]
def aaJ:=[m 26 0,o 27 (.call 132 [.t 26]),o 28 (.bin .add (.t 27) (.c (.ak ⟨#[32]⟩))),m 29 6,o 30 (.bin .add (.t 28) (.t 29)),o 31 (.bin .add (.t 30) (.c (.ak ⟨#[10]⟩))),m 32 0,m 4 31,m 5 32]
def C5:bn:=(s (r aaC) (s (r aaD) (s (s (r aaE) (.block 0 (.loop (s (r aaF) (s (.cond (.t 15) .skip (.exit 0)) (s (.block 1 (s (r aaG) (r aaH))) (r aaI))))))) (s (r aaJ) .ret))))
def Ik:List bu:=[.tmp 4,.tmp 5]
theorem O1:bX Tryz.prog Tryz.f81 C5:=e (by kernel_rfl)
theorem QE:bV Tryz.prog Tryz.f81 Ik:=e (by kernel_rfl)
theorem Nu:bK Tryz.prog 81:=e (by kernel_rfl)
def aaK:=[o 6 (.mv bo)]
def aaL:=[m 7 0,m 8 1,o 9 (.bin .geq (.t 7) (.t 8)),m 10 9,eW 11 0 10,eW 12 2 10,cw 13 (.bin .leq (.t 11) (.t 12)) 10,and 14 10 13,m 6 14]
def C6:bn:=(s (r aaK) (s (r aaL) .ret))
def Il:List bu:=[.tmp 6]
theorem O2:bX Tryz.prog Tryz.f82 C6:=e (by kernel_rfl)
theorem QF:bV Tryz.prog Tryz.f82 Il:=e (by kernel_rfl)
theorem Nv:bK Tryz.prog 82:=e (by kernel_rfl)
def aaM:=[b 3 1,o 4 (.mv (.c (.ak ⟨#[]⟩))),bq 5 0]
def aaN:=[ao 8 8 3,o 9 (.call 133 [.t 8]),m 6 9]
def aaO:=[bq 7 0]
def aaP:=[m 10 7,m 11 6,o 12 (.lenT (.t 11)),lt 13 10 12]
def aaQ:=[m 16 0,o 17 (.bin .mul (aW 257) (.t 16)),m 18 6,m 19 7,o 20 (.prim .eM [.t 18,.t 19]),o 21 (.conv .i64 (.t 20)),o 22 (.bin .add (.t 17) (.t 21)),ad 23 22 1,o 24 (.bin .rem (.t 23) (aW 1000003)),m 0 24]
def aaR:=[m 14 7,ad 15 14 1,m 7 15]
def aaS:=[m 25 0,o 26 (.call 134 [.t 25]),o 27 (.bin .add (.t 26) (.c (.ak ⟨#[32]⟩))),m 28 6,o 29 (.bin .add (.t 27) (.t 28)),o 30 (.bin .add (.t 29) (.c (.ak ⟨#[10]⟩))),m 31 0,m 4 30,m 5 31]
def C7:bn:=(s (r aaM) (s (r aaN) (s (s (r aaO) (.block 0 (.loop (s (s (r aaP) (.cond (.t 13) .skip (.exit 0))) (s (.block 1 (r aaQ)) (r aaR)))))) (s (r aaS) .ret))))
def Im:List bu:=[.tmp 4,.tmp 5]
theorem O3:bX Tryz.prog Tryz.f83 C7:=e (by kernel_rfl)
theorem QG:bV Tryz.prog Tryz.f83 Im:=e (by kernel_rfl)
theorem Nw:bK Tryz.prog 83:=e (by kernel_rfl)
def aaT:=[b 1 0,o 2 (.mv bo)]
def aaU:=[f 3 0 0 1,l 4 3,o 5 (.call 82 [.t 4,(aW 0),(aW 5)]),m 6 5,eD 7 1 1 1 6,gC 8 7 6,cw 9 (.call 82 [.t 8,(aW 0),(aW 9999)]) 6,and 10 6 9,m 2 10]
def c85:bn:=(s (r aaT) (s (r aaU) .ret))
def Io:List bu:=[.tmp 2]
theorem O4:bX Tryz.prog Tryz.f85 c85:=e (by kernel_rfl)
theorem QH:bV Tryz.prog Tryz.f85 Io:=e (by kernel_rfl)
theorem Nx:bK Tryz.prog 85:=e (by kernel_rfl)
def aaV:=[o 2 (.mv bo)]
def aaW:=[m 4 0,o 5 (.lenT (.t 4)),o 6 (.bin .gtr (.t 5) (aW 160))]
def aaX:=[o 2 (.mv bo)]
def aaY:=[bq 3 0]
def aaZ:=[m 7 3,m 8 0,o 9 (.lenT (.t 8)),lt 10 7 9]
def aa0:=[m 13 0,m 14 3,o 15 (.prim .eM [.t 13,.t 14]),o 16 (.bin .lss (.t 15) (.c (.int .u8 32))),m 17 16,dJ 18 0 17,dJ 19 3 17,on 20 (.prim .eM [.t 18,.t 19]) 17,on 21 (.bin .gtr (.t 20) (.c (.int .u8 126))) 17,or 22 17 21,m 23 22,dJ 24 0 23,dJ 25 3 23,on 26 (.prim .eM [.t 24,.t 25]) 23,on 27 (.bin .eql (.t 26) (.c (.int .u8 63))) 23,or 28 23 27]
def aa1:=[o 2 (.mv bo)]
def aa2:=[m 11 3,ad 12 11 1,m 3 12]
def aa3:=[o 2 (.mv T)]
def C8:bn:=(s (r aaV) (s (s (r aaW) (.cond (.t 6) (s (r aaX) .ret) .skip)) (s (s (r aaY) (.block 0 (.loop (s (s (r aaZ) (.cond (.t 10) .skip (.exit 0))) (s (.block 1 (s (r aa0) (.cond (.t 28) (s (r aa1) .ret) .skip))) (r aa2)))))) (s (r aa3) .ret))))
def Ip:List bu:=[.tmp 2]
theorem O5:bX Tryz.prog Tryz.f86 C8:=e (by kernel_rfl)
theorem QI:bV Tryz.prog Tryz.f86 Ip:=e (by kernel_rfl)
theorem Ny:bK Tryz.prog 86:=e (by kernel_rfl)
def aa4:=[b 2 0,o 4 (.mv bo)]
def aa5:=[m 6 1,o 7 (.call 98 [.t 6]),no 8 7,m 9 8,fn 10 0 0 2 9,on 11 (.ld (some 2) (.t 10)) 9,on 12 (.call 73 [.t 11]) 9,dJ 13 1 9,on 14 (.call 135 [.t 13]) 9,on 15 (.bin .neq (.t 12) (.t 14)) 9,or 16 9 15]
def aa6:=[o 4 (.mv bo)]
def aa7:=[m 17 1,o 18 (.len (.t 17)),ad 19 18 1,bq 20 0]
def aa8:=[lt 21 20 19]
def aa9:=[m 22 20,m 5 22]
def aba:=[f 23 1 2 2,ao 24 2 23,o 25 (.call 73 [.t 24]),m 26 1,m 27 5,o 28 (.sl 8 (.t 26) none (some (.t 27)) none),o 29 (.call 135 [.t 28]),o 30 (.bin .eql (.t 25) (.t 29))]
def Rv:=some [[],[0],[1],[],[],[3,4],[5,2],[2,6]]
def abb:=[o 4 (.mv T)]
def abc:=[ad 31 20 1,m 20 31]
def abd:=[o 4 (.mv bo)]
def C9:bn:=(s (r aa4) (s (s (r aa5) (.cond (.t 16) (s (r aa6) .ret) .skip)) (s (s (r aa7) (.block 0 (.loop (s (r aa8) (s (.cond (.t 21) .skip (.exit 0)) (s (.block 1 (s (r aa9) (s (.b9 Rv aba) (.cond (.t 30) (s (r abb) .ret) .skip)))) (r abc))))))) (s (r abd) .ret))))
def Iq:List bu:=[.tmp 4]
theorem O6:bX Tryz.prog Tryz.f87 C9:=e (by kernel_rfl)
theorem QJ:bV Tryz.prog Tryz.f87 Iq:=e (by kernel_rfl)
theorem Nz:bK Tryz.prog 87:=e (by kernel_rfl)
def abe:=[b 3 0,b 5 2,o 6 (.alloc (.agg [.agg [.ak ⟨#[]⟩,.ak ⟨#[]⟩],.agg [.ak ⟨#[]⟩,.ak ⟨#[]⟩]])),o 7 (.mv (.c (.nils 8))),bq 8 0]
def abf:=[m 13 1,ao 14 8 5,o 15 (.call 136 [.t 13,.t 14])]
def yH:=[ao 16 4 3,m 17 1,o 18 (.call 93 [.t 17]),p (.aS (some 4) (.t 6) (.t 16)),m 7 18,bq 8 0]
def Rw:=some [[],[],[1],[0,2,0],[2,3,0,1,2,3],[4,0,1,2,3,4]]
def abg:=[m 20 1,o 21 (.call 95 [.t 20]),ao 22 8 5,o 23 (.call 44 [.t 21,.t 22]),m 19 23,o 24 (.ext (.t 19) 0),o 25 (.ext (.t 19) 1),o 9 (.alloc (.agg [.nils 8])),p (.aS (some 1) (.t 9) (.t 24)),m 10 25]
def Rx:=some [[],[0],[],[1,2,1],[3],[4],[4],[],[7,5,3,0,1,2,3,4,5,7],[6,8,0,1,2,3,4,5,6,7,8]]
def abh:=[m 26 10,o 27 (.bin .neq (.t 26) (aW 0))]
def abi:=[o 28 (.bld [.agg [.ak ⟨#[]⟩,.ak ⟨#[]⟩],.agg [.ak ⟨#[]⟩,.ak ⟨#[]⟩]] []),m 29 10,p (.aS (some 4) (.t 6) (.t 28)),o 7 (.mv (.c (.nils 8))),m 8 29]
def abj:=[m 31 1,o 32 (.call 137 [.t 31]),ao 33 8 5,o 34 (.call 81 [.t 32,.t 33]),m 30 34,o 35 (.ext (.t 30) 0),o 36 (.ext (.t 30) 1),m 11 35,m 12 36]
def Ry:=some [[],[0],[],[1,2,1],[3],[4],[4],[5,3,0,1,2,3,4,5],[6,7,0,1,2,3,4,5,6,7]]
def abk:=[f 37 0 0 3,f 38 1 1 37,l 39 38,m 40 11,o 41 (.bin .add (.t 39) (.t 40)),f 42 0 0 3,f 43 1 1 42,p (.aS none (.t 43) (.t 41))]
def yI:=[ao 44 4 3,m 45 1,o 46 (.call 93 [.t 45]),ao 47 8 5,o 48 (.bs 50 8 [.t 47]),o 49 (.eB 50 8 72 (.agg [.agg [.int .i64 0,.int .i64 0],.int .i64 0,.int .i64 0,.int .i64 0,.agg [.int .i64 0,.int .i64 0],.ak ⟨#[]⟩]) (.t 46) (.t 48)),p (.aS (some 4) (.t 6) (.t 44)),m 7 49,bq 8 0]
def Rz:=some [[],[],[1],[],[3],[2,4,2],[0,5,0],[5,6,0,1,2,3,4,5,6],[7,0,1,2,3,4,5,6,7]] -- DRAW BAD
def Da:bn:=(s (r abe) (s (s (r abf) (.cond (.t 15) (s (.b9 Rw yH) .ret) .skip)) (s (s (.b9 Rx abg) (s (r abh) (.cond (.t 27) (s (r abi) .ret) .skip))) (s (.b9 Ry abj) (s (r abk) (s (.b9 Rz yI) .ret))))))
def Ir:List bu:=[.cell 6 (some 4),.tmp 7,.tmp 8]
theorem O7:bX Tryz.prog Tryz.f88 Da:=e (by kernel_rfl)
theorem QK:bV Tryz.prog Tryz.f88 Ir:=e (by kernel_rfl)
theorem NA:bK Tryz.prog 88:=e (by kernel_rfl)
def abl:=[o 2 (.mv (.c (.ak ⟨#[]⟩)))]
def abm:=[o 3 (.mv (.c (.ak ⟨#[]⟩)))]
def abn:=[bq 4 1]
def abo:=[bq 5 0]
def abp:=[m 8 5,m 9 0,o 10 (.len (.t 9)),lt 11 8 10]
def abq:=[m 15 4,m 16 0,m 17 5,o 18 (.is 8 (.t 16) (.t 17)),ao 19 8 18,o 20 (.call 83 [.t 15,.t 19]),m 14 20,o 21 (.ext (.t 14) 0),o 22 (.ext (.t 14) 1),m 6 21,m 7 22]
def abr:=[m 23 3,m 24 6,o 25 (.bin .add (.t 23) (.t 24)),m 3 25]
def abt:=[m 26 7,m 4 26]
def abu:=[m 12 5,ad 13 12 1,m 5 13]
def abv:=[m 27 3,m 2 27]
def Db:bn:=(s (r abl) (s (r abm) (s (r abn) (s (s (r abo) (.block 0 (.loop (s (s (r abp) (.cond (.t 11) .skip (.exit 0))) (s (.block 1 (s (r abq) (s (r abr) (r abt)))) (r abu)))))) (s (r abv) .ret)))))
def Is:List bu:=[.tmp 2]
theorem O8:bX Tryz.prog Tryz.f90 Db:=e (by kernel_rfl)
theorem QL:bV Tryz.prog Tryz.f90 Is:=e (by kernel_rfl)
theorem NB:bK Tryz.prog 90:=e (by kernel_rfl)
def abw:=[b 1 0,o 2 (.mv bo)]
def abx:=[f 6 0 0 1,l 7 6,o 8 (.len (.t 7)),bq 9 0]
def abB:=[lt 10 9 8]
def abC:=[m 11 9,o 12 (.is 8 (.t 7) (.t 9)),ao 13 8 12,o 4 (.alloc (.agg [.agg [.int .i64 0,.int .i64 0],.int .i64 0,.int .i64 0,.int .i64 0,.agg [.int .i64 0,.int .i64 0],.ak ⟨#[]⟩])),m 3 11,p (.aS (some 8) (.t 4) (.t 13))]
def abD:=[ao 14 8 4,o 15 (.call 80 [.t 14]),no 16 15]
def abE:=[o 2 (.mv bo)]
def abF:=[o 17 (.bld [.int .i64 0,.int .i64 0] [(0,(.c (.int .i64 (-1))))]),o 5 (.alloc (.agg [.int .i64 0,.int .i64 0])),p (.aS (some 2) (.t 5) (.t 17))]
def abG:=[m 18 3,o 19 (.bin .gtr (.t 18) (aW 0))]
def abH:=[f 20 0 0 1,l 21 20,m 22 3,o 23 (.bin .sub (.t 22) (aW 1)),o 24 (.is 8 (.t 21) (.t 23)),f 25 0 0 24,ao 26 2 25,p (.aS (some 2) (.t 5) (.t 26))]
def abI:=[f 27 0 0 4,ao 28 2 27,f 29 0 0 5,l 30 29,f 31 1 1 5,l 32 31,ad 33 32 1,o 34 (.bld [.int .i64 0,.int .i64 0] [(0,(.t 30)),(1,(.t 33))]),o 35 (.eqv (.aS [(.i .i64),(.i .i64)]) true (.t 28) (.t 34)),m 36 35,eD 37 0 0 4 36,eD 38 0 0 37 36,gC 39 38 36,eD 40 0 0 5 36,gC 41 40 36,cw 42 (.bin .leq (.t 39) (.t 41)) 36,eW 43 42 36,fn 44 0 0 4 43,fn 45 1 1 44 43,fQ 46 45 43,on 47 (.bin .neq (.t 46) (aW 0)) 43,cw 48 (.pick (.t 43) T (.t 47)) 36,and 49 36 48]
def aby:=[o 2 (.mv bo)]
def abz:=[ad 50 9 1,m 9 50]
def abA:=[f 51 0 0 1,l 52 51,o 53 (.len (.t 52)),o 54 (.bin .leq (.t 53) (aW 60)),m 2 54]
def Dc:bn:=(s (r abw) (s (s (r abx) (.block 0 (.loop (s (r abB) (s (.cond (.t 10) .skip (.exit 0)) (s (.block 1 (s (r abC) (s (s (r abD) (.cond (.t 16) (s (r abE) .ret) .skip)) (s (r abF) (s (s (r abG) (.cond (.t 19) (r abH) .skip)) (s (r abI) (.cond (.t 49) (s (r aby) .ret) .skip))))))) (r abz))))))) (s (r abA) .ret)))
def It:List bu:=[.tmp 2]
theorem O9:bX Tryz.prog Tryz.f92 Dc:=e (by kernel_rfl)
theorem QM:bV Tryz.prog Tryz.f92 It:=e (by kernel_rfl)
theorem NC:bK Tryz.prog 92:=e (by kernel_rfl)
def yJ:=[o 2 (.mv (.c (.nils 8)))]
def sH:=[m 3 0,o 4 (.nilS false (.t 3))]
def yK:=[o 2 (.mv (.c (.nils 8)))]
def sI:=[o 5 (.bs0 8),m 6 0,o 7 (.eB 50 8 72 (.agg [.agg [.int .i64 0,.int .i64 0],.int .i64 0,.int .i64 0,.int .i64 0,.agg [.int .i64 0,.int .i64 0],.ak ⟨#[]⟩]) (.t 5) (.t 6)),m 2 7]
def xE:bn:=(s (r yJ) (s (s (r sH) (.cond (.t 4) (s (r yK) .ret) .skip)) (s (r sI) .ret)))
def zV:List bu:=[.tmp 2]
theorem Du:bX Tryz.prog Tryz.f93 xE:=e (by kernel_rfl)
theorem DI:bV Tryz.prog Tryz.f93 zV:=e (by kernel_rfl)
theorem Dn:bK Tryz.prog 93:=e (by kernel_rfl)
def abJ:=[b 2 0,b 3 1,bq 4 0,o 5 (.mv bo)]
def abK:=[f 6 0 0 2,l 7 6,ao 8 2 3,o 9 (.call 138 [.t 7,.t 8,(.c (.func 139 []))]),o 10 (.ext (.t 9) 0),o 11 (.ext (.t 9) 1),m 4 10,m 5 11]
def Dd:bn:=(s (r abJ) (s (r abK) .ret))
def Iu:List bu:=[.tmp 4,.tmp 5]
theorem Pa:bX Tryz.prog Tryz.f94 Dd:=e (by kernel_rfl)
theorem QN:bV Tryz.prog Tryz.f94 Iu:=e (by kernel_rfl)
theorem ND:bK Tryz.prog 94:=e (by kernel_rfl)
def abL:=[o 2 (.alloc (.agg [.nils 8]))]
def abM:=[m 4 0,o 5 (.call 93 [.t 4]),m 3 5]
def yL:=[m 6 3,o 7 (.call 141 [.t 6,(.c (.func 142 []))])]
def abN:=[m 8 3,o 9 (.bld [.nils 8] [(0,(.t 8))]),p (.aS (some 1) (.t 2) (.t 9))]
def uA:bn:=(s (r abL) (s (r abM) (s (r yL) (s (r abN) .ret))))
def wi:List bu:=[.cell 2 (some 1)]
theorem xJ:bX Tryz.prog Tryz.f95 uA:=e (by kernel_rfl)
theorem xR:bV Tryz.prog Tryz.f95 wi:=e (by kernel_rfl)
theorem xG:bK Tryz.prog 95:=e (by kernel_rfl)
def abO:=[o 2 (.mv bo)]
def abP:=[m 5 0,o 6 (.len (.t 5)),bq 7 0]
def abQ:=[lt 8 7 6]
def abR:=[m 9 7,o 10 (.is 8 (.t 5) (.t 7)),ao 11 8 10,o 4 (.alloc (.agg [.agg [.int .i64 0,.int .i64 0],.int .i64 0,.int .i64 0,.int .i64 0,.agg [.int .i64 0,.int .i64 0],.ak ⟨#[]⟩])),m 3 9,p (.aS (some 8) (.t 4) (.t 11))]
def abS:=[ao 12 8 4,o 13 (.call 80 [.t 12]),no 14 13,m 15 14,dJ 16 0 15,dJ 17 3 15,on 18 (.sl 8 (.t 16) none (some (.t 17)) none) 15,on 19 (.ld (some 8) (.t 4)) 15,on 20 (.call 71 [.t 18,.t 19]) 15,on 21 (.un .not (.t 20)) 15,or 22 15 21]
def RA:=some [[],[0],[1],[2,1],[3],[3],[4,5,3],[3],[6,7,3,3],[8,3],[3,9]]
def abT:=[o 2 (.mv bo)]
def abU:=[ad 23 7 1,m 7 23]
def abV:=[o 2 (.mv T)]
def De:bn:=(s (r abO) (s (s (r abP) (.block 0 (.loop (s (r abQ) (s (.cond (.t 8) .skip (.exit 0)) (s (.block 1 (s (r abR) (s (.b9 RA abS) (.cond (.t 22) (s (r abT) .ret) .skip)))) (r abU))))))) (s (r abV) .ret)))
def Iv:List bu:=[.tmp 2]
theorem Pb:bX Tryz.prog Tryz.f98 De:=e (by kernel_rfl)
theorem QO:bV Tryz.prog Tryz.f98 Iv:=e (by kernel_rfl)
theorem NF:bK Tryz.prog 98:=e (by kernel_rfl)
def SJ:=[o 2 (.alloc (.agg [.int .i64 0,.int .i64 0,.int .i64 0,.int .i64 0,.int .i64 0,.int .i64 0]))]
def SK:=[o 3 (.alloc (.agg [.int .i64 0,.int .i64 0,.int .i64 0,.int .i64 0,.int .i64 0,.int .i64 0]))]
def SL:=[m 6 0,o 7 (.len (.t 6)),bq 8 0]
def SM:=[lt 9 8 7]
def SN:=[o 10 (.is 8 (.t 6) (.t 8)),ao 11 8 10,o 5 (.alloc (.agg [.agg [.int .i64 0,.int .i64 0],.int .i64 0,.int .i64 0,.int .i64 0,.agg [.int .i64 0,.int .i64 0],.ak ⟨#[]⟩])),p (.aS (some 8) (.t 5) (.t 11))]
def SO:=[f 12 0 0 5,f 13 0 0 12,l 14 13,o 15 (.ia 6 1 (.t 3) (.t 14)),l 16 15,ad 17 16 1,o 18 (.ia 6 1 (.t 3) (.t 14)),p (.aS none (.t 18) (.t 17))]
def SP:=[ad 19 8 1,m 8 19]
def SQ:=[ao 20 6 3,p (.aS (some 6) (.t 2) (.t 20))]
def uy:bn:=(s (r SJ) (s (r SK) (s (s (r SL) (.block 0 (.loop (s (r SM) (s (.cond (.t 9) .skip (.exit 0)) (s (.block 1 (s (r SN) (r SO))) (r SP))))))) (s (r SQ) .ret))))
def Hb:List bu:=[.cell 2 (some 6)]
theorem NQ:bX Tryz.prog Tryz.f100 uy:=e (by kernel_rfl)
theorem Px:bV Tryz.prog Tryz.f100 Hb:=e (by kernel_rfl)
theorem Mc:bK Tryz.prog 100:=e (by kernel_rfl)
def uV:=[o 6 (.mv (.c (.nils 8)))]
def uW:=[m 10 0,m 11 1,o 12 (.sl 8 (.t 10) (some (.t 11)) none none)]
def uX:=[m 13 2,o 14 (.len (.t 13)),m 7 14]
def uY:=[m 15 7,o 16 (.bin .eql (.t 15) (aW 0))]
def SV:=[m 17 0,m 6 17]
def uZ:=[m 18 0,o 19 (.len (.t 18)),m 8 19]
def u3:=[m 20 1,m 21 8,o 22 (.bin .eql (.t 20) (.t 21))]
def sE:=[m 23 0,m 24 2,o 25 (.eB 50 8 72 (.agg [.agg [.int .i64 0,.int .i64 0],.int .i64 0,.int .i64 0,.int .i64 0,.agg [.int .i64 0,.int .i64 0],.ak ⟨#[]⟩]) (.t 23) (.t 24)),m 6 25]
def EP:=[m 26 8,m 27 7,o 28 (.bin .add (.t 26) (.t 27)),m 29 0,o 30 (.cap (.t 29)),o 31 (.bin .gtr (.t 28) (.t 30))]
def ER:=[m 32 0,m 33 1,o 34 (.sl 8 (.t 32) none (some (.t 33)) none),m 35 8,m 36 7,o 37 (.bin .add (.t 35) (.t 36)),m 38 1,o 39 (.bin .sub (.t 37) (.t 38)),o 40 (.ln 50 8 72 (.agg [.agg [.int .i64 0,.int .i64 0],.int .i64 0,.int .i64 0,.int .i64 0,.agg [.int .i64 0,.int .i64 0],.ak ⟨#[]⟩]) (.t 34) (.t 39)),m 9 40]
def EH:=[m 41 9,m 42 1,o 43 (.sl 8 (.t 41) (some (.t 42)) none none),m 44 2,o 45 (.iz 8 (.t 43) (.t 44))]
def EI:=[m 46 9,m 47 1,m 48 7,o 49 (.bin .add (.t 47) (.t 48)),o 50 (.sl 8 (.t 46) (some (.t 49)) none none),m 51 0,m 52 1,o 53 (.sl 8 (.t 51) (some (.t 52)) none none),o 54 (.iz 8 (.t 50) (.t 53))]
def QW:=some [[],[],[],[1,2],[0,3],[],[],[5,6],[4,7]]
def EJ:=[m 55 9,m 6 55]
def EK:=[m 56 0,m 57 8,m 58 7,o 59 (.bin .add (.t 57) (.t 58)),o 60 (.sl 8 (.t 56) none (some (.t 59)) none),m 0 60]
def EL:=[m 61 2,m 62 0,m 63 1,m 64 7,o 65 (.bin .add (.t 63) (.t 64)),o 66 (.sl 8 (.t 62) (some (.t 65)) none none),o 67 (.jf 143 [.t 61,.t 66]),no 68 67]
def EM:=[m 69 0,m 70 1,m 71 7,o 72 (.bin .add (.t 70) (.t 71)),o 73 (.sl 8 (.t 69) (some (.t 72)) none none),m 74 0,m 75 1,o 76 (.sl 8 (.t 74) (some (.t 75)) none none),o 77 (.iz 8 (.t 73) (.t 76))]
def QX:=some [[],[],[],[1,2],[0,3],[],[],[5,6],[4,7]]
def EN:=[m 78 0,m 79 1,o 80 (.sl 8 (.t 78) (some (.t 79)) none none),m 81 2,o 82 (.iz 8 (.t 80) (.t 81))]
def EO:=[m 83 0,m 6 83]
def SR:=[m 84 0,m 85 8,o 86 (.sl 8 (.t 84) (some (.t 85)) none none),m 87 2,o 88 (.iz 8 (.t 86) (.t 87))]
def SS:=[m 89 0,m 90 1,o 91 (.sl 8 (.t 89) (some (.t 90)) none none),m 92 7,o 93 (.call 144 [.t 91,.t 92])]
def SU:=[m 94 0,m 6 94]
def uz:bn:=(s (r uV) (s (r uW) (s (r uX) (s (s (r uY) (.cond (.t 16) (s (r SV) .ret) .skip)) (s (r uZ) (s (s (r u3) (.cond (.t 22) (s (r sE) .ret) .skip)) (s (s (r EP) (.cond (.t 31) (s (r ER) (s (r EH) (s (.b9 QW EI) (s (r EJ) .ret)))) .skip)) (s (r EK) (s (s (r EL) (.cond (.t 68) (s (.b9 QX EM) (s (r EN) (s (r EO) .ret))) .skip)) (s (r SR) (s (r SS) (s (r SU) .ret))))))))))))
def wg:List bu:=[.tmp 6]
theorem xI:bX Tryz.prog Tryz.f101 uz:=e (by kernel_rfl)
theorem xQ:bV Tryz.prog Tryz.f101 wg:=e (by kernel_rfl)
theorem xF:bK Tryz.prog 101:=e (by kernel_rfl)
def SX:=[o 2 (.mv bo)]
def SY:=[m 3 0,o 4 (.call 128 [.t 3,(aW 0),(aW 100000)]),m 2 4]
def B7:bn:=(s (r SX) (s (r SY) .ret))
def Hc:List bu:=[.tmp 2]
theorem NR:bX Tryz.prog Tryz.f105 B7:=e (by kernel_rfl)
theorem Py:bV Tryz.prog Tryz.f105 Hc:=e (by kernel_rfl)
theorem Md:bK Tryz.prog 105:=e (by kernel_rfl)
def SZ:=[o 4 (.mv (.c (.nils 8)))]
def S0:=[m 8 0,m 9 1,o 10 (.call 146 [.t 8,.t 9]),m 5 10]
def S2:=[m 11 5,o 12 (.bin .eql (.t 11) (.c (.int .i64 (-1))))]
def S3:=[m 13 0,m 4 13]
def S4:=[m 14 5,ad 15 14 1,m 6 15]
def EU:=[m 16 6,m 17 0,o 18 (.len (.t 17)),lt 19 16 18]
def S5:=[m 22 0,m 23 6,o 24 (.is 8 (.t 22) (.t 23)),ao 25 8 24,o 7 (.alloc (.agg [.agg [.int .i64 0,.int .i64 0],.int .i64 0,.int .i64 0,.int .i64 0,.agg [.int .i64 0,.int .i64 0],.ak ⟨#[]⟩])),p (.aS (some 8) (.t 7) (.t 25))]
def S6:=[m 26 1,ao 27 8 7,o 28 (.fF (.t 26) [.t 27]),no 29 28]
def S7:=[m 30 0,m 31 5,ao 32 8 7,o 33 (.is 8 (.t 30) (.t 31)),p (.aS (some 8) (.t 33) (.t 32))]
def S8:=[m 34 5,ad 35 34 1,m 5 35]
def S1:=[m 20 6,ad 21 20 1,m 6 21]
def ES:=[m 36 0,m 37 5,o 38 (.sl 8 (.t 36) (some (.t 37)) none none),p (.kh 8 (.agg [.agg [.int .i64 0,.int .i64 0],.int .i64 0,.int .i64 0,.int .i64 0,.agg [.int .i64 0,.int .i64 0],.ak ⟨#[]⟩]) (.t 38))]
def ET:=[m 39 0,m 40 5,o 41 (.sl 8 (.t 39) none (some (.t 40)) none),m 4 41]
def xC:bn:=(s (r SZ) (s (r S0) (s (s (r S2) (.cond (.t 12) (s (r S3) .ret) .skip)) (s (s (r S4) (.block 0 (.loop (s (s (r EU) (.cond (.t 19) .skip (.exit 0))) (s (.block 1 (s (r S5) (s (r S6) (.cond (.t 29) (s (r S7) (r S8)) .skip)))) (r S1)))))) (s (r ES) (s (r ET) .ret))))))
def zU:List bu:=[.tmp 4]
theorem Ds:bX Tryz.prog Tryz.f106 xC:=e (by kernel_rfl)
theorem DH:bV Tryz.prog Tryz.f106 zU:=e (by kernel_rfl)
theorem Di:bK Tryz.prog 106:=e (by kernel_rfl)
def S9:=[o 2 (.mv bo)]
def Ta:=[m 3 0,o 4 (.call 128 [.t 3,(aW 0),(aW 5)]),m 2 4]
def B8:bn:=(s (r S9) (s (r Ta) .ret))
def Hd:List bu:=[.tmp 2]
theorem NS:bX Tryz.prog Tryz.f110 B8:=e (by kernel_rfl)
theorem Pz:bV Tryz.prog Tryz.f110 Hd:=e (by kernel_rfl)
theorem Me:bK Tryz.prog 110:=e (by kernel_rfl)
def Tb:=[b 1 0,o 2 (.mv bo)]
def Tc:=[f 5 3 6 1,ao 6 36 5,bq 7 0]
def Td:=[o 8 (.bin .lss (.t 7) (aW 6))]
def Te:=[o 9 (.ix 6 6 (some 6) (.t 6) (.t 7)),o 4 (.alloc (.agg [.int .i64 0,.int .i64 0,.int .i64 0,.int .i64 0,.int .i64 0,.int .i64 0])),p (.aS (some 6) (.t 4) (.t 9))]
def Tf:=[ao 10 6 4,o 11 (.call 147 [.t 10]),no 12 11]
def Tg:=[o 2 (.mv bo)]
def Th:=[ad 13 7 1,m 7 13]
def Ti:=[f 14 0 0 1,l 15 14,o 16 (.call 110 [.t 15]),m 17 16,eD 18 1 1 1 17,cw 19 (.ld (some 4) (.t 18)) 17,eD 20 2 5 1 17,gC 21 20 17,cw 22 (.call 87 [.t 19,.t 21]) 17,and 23 17 22,m 2 23]
def B9:bn:=(s (r Tb) (s (s (r Tc) (.block 0 (.loop (s (r Td) (s (.cond (.t 8) .skip (.exit 0)) (s (.block 1 (s (r Te) (s (r Tf) (.cond (.t 12) (s (r Tg) .ret) .skip)))) (r Th))))))) (s (r Ti) .ret)))
def He:List bu:=[.tmp 2]
theorem NT:bX Tryz.prog Tryz.f111 B9:=e (by kernel_rfl)
theorem PA:bV Tryz.prog Tryz.f111 He:=e (by kernel_rfl)
theorem Mf:bK Tryz.prog 111:=e (by kernel_rfl)
def Tj:=[b 1 0,o 2 (.mv (.c (.nilp)))]
def Tk:=[f 3 2 5 1,l 4 3,o 5 (.call 93 [.t 4]),f 6 2 5 1,p (.aS none (.t 6) (.t 5))]
def Tl:=[ao 7 42 1,o 8 (.bld [.agg [.int .i64 0,.agg [.agg [.ak ⟨#[]⟩,.ak ⟨#[]⟩],.agg [.ak ⟨#[]⟩,.ak ⟨#[]⟩]],.nils 8,.agg [.agg [.int .i64 0,.int .i64 0,.int .i64 0,.int .i64 0,.int .i64 0,.int .i64 0],.agg [.int .i64 0,.int .i64 0,.int .i64 0,.int .i64 0,.int .i64 0,.int .i64 0],.agg [.int .i64 0,.int .i64 0,.int .i64 0,.int .i64 0,.int .i64 0,.int .i64 0],.agg [.int .i64 0,.int .i64 0,.int .i64 0,.int .i64 0,.int .i64 0,.int .i64 0],.agg [.int .i64 0,.int .i64 0,.int .i64 0,.int .i64 0,.int .i64 0,.int .i64 0],.agg [.int .i64 0,.int .i64 0,.int .i64 0,.int .i64 0,.int .i64 0,.int .i64 0]]]] [(0,(.t 7))]),b 9 8,m 2 9]
def Ca:bn:=(s (r Tj) (s (r Tk) (s (r Tl) .ret)))
def Hf:List bu:=[.tmp 2]
theorem NU:bX Tryz.prog Tryz.f112 Ca:=e (by kernel_rfl)
theorem PB:bV Tryz.prog Tryz.f112 Hf:=e (by kernel_rfl)
theorem Mg:bK Tryz.prog 112:=e (by kernel_rfl)
def Tm:=[b 3 1,bq 4 0]
def Tn:=[m 9 0,o 10 (.nilC (.t 9)),f 11 0 0 10,f 12 1 1 11,ao 13 4 12,m 14 0,o 15 (.nilC (.t 14)),f 16 0 0 15,f 17 2 5 16,l 18 17,ao 19 8 3,o 20 (.call 88 [.t 13,.t 18,.t 19]),m 8 20,o 21 (.ext (.t 8) 0),o 22 (.ext (.t 8) 1),o 23 (.ext (.t 8) 2),o 5 (.alloc (.agg [.agg [.ak ⟨#[]⟩,.ak ⟨#[]⟩],.agg [.ak ⟨#[]⟩,.ak ⟨#[]⟩]])),p (.aS (some 4) (.t 5) (.t 21)),m 6 22,m 7 23]
def QY:=some [[],[0],[1],[2],[3],[],[5],[6],[7],[8],[],[4,9,10],[11],[12],[12],[12],[],[16,13,11,0,1,2,3,4,5,6,7,8,9,10,11,12,13,16],[14,17,0,1,2,3,4,5,6,7,8,9,10,11,12,13,14,16,17],[15,18,0,1,2,3,4,5,6,7,8,9,10,11,12,13,14,15,16,17,18]]
def Tp:=[m 24 7,o 25 (.bin .eql (.t 24) (aW 0))]
def Tq:=[m 26 0,m 27 0,ao 28 4 5,m 29 6,o 30 (.nilC (.t 26)),f 31 0 0 30,f 32 1 1 31,p (.aS (some 4) (.t 32) (.t 28)),o 33 (.nilC (.t 27)),f 34 0 0 33,f 35 2 5 34,p (.aS none (.t 35) (.t 29))]
def Tr:=[m 36 7,m 4 36]
def Cb:bn:=(s (r Tm) (s (.b9 QY Tn) (s (s (r Tp) (.cond (.t 25) (r Tq) .skip)) (s (r Tr) .ret))))
def Hg:List bu:=[.tmp 4]
theorem NV:bX Tryz.prog Tryz.f113 Cb:=e (by kernel_rfl)
theorem PC:bV Tryz.prog Tryz.f113 Hg:=e (by kernel_rfl)
theorem Mh:bK Tryz.prog 113:=e (by kernel_rfl)
def Ts:=[m 2 0,m 3 0,o 4 (.nilC (.t 3)),f 5 0 0 4,f 6 1 1 5,ao 7 4 6,o 8 (.call 20 [.t 7]),o 9 (.nilC (.t 2)),f 10 0 0 9,f 11 1 1 10,p (.aS (some 4) (.t 11) (.t 8))]
def Cc:bn:=(r Ts)
def Hh:List bu:=[]
theorem NW:bX Tryz.prog Tryz.f115 Cc:=e (by kernel_rfl)
theorem PD:bV Tryz.prog Tryz.f115 Hh:=e (by kernel_rfl)
theorem Mi:bK Tryz.prog 115:=e (by kernel_rfl)
def Tt:=[o 6 (.alloc (.agg [.int .i64 0,.int .i64 0,.bool false,.agg [.int .i64 0,.int .i64 0,.int .i64 0,.int .i64 0,.int .i64 0,.int .i64 0],.nils 8]))]
def Tu:=[m 7 0,o 8 (.nilC (.t 7)),f 9 0 0 8,f 10 0 0 9,l 11 10,m 12 1,m 13 2,m 14 0,o 15 (.nilC (.t 14)),f 16 0 0 15,f 17 2 5 16,l 18 17,o 19 (.call 100 [.t 18]),o 20 (.bld [.int .i64 0,.int .i64 0,.bool false,.agg [.int .i64 0,.int .i64 0,.int .i64 0,.int .i64 0,.int .i64 0,.int .i64 0],.nils 8] [(0,(.t 11)),(1,(.t 12)),(2,(.t 13)),(3,(.t 19))]),p (.aS (some 10) (.t 6) (.t 20))]
def QZ:=some [[],[0],[1],[2],[3],[],[],[],[7],[8],[9],[10],[11],[4,5,6,12],[13,12,0,1,2,3,4,5,6,7,8,9,10,11,12,13]]
def Cd:bn:=(s (r Tt) (s (.b9 QZ Tu) .ret))
def Hi:List bu:=[.cell 6 (some 10)]
theorem NX:bX Tryz.prog Tryz.f116 Cd:=e (by kernel_rfl)
theorem PE:bV Tryz.prog Tryz.f116 Hi:=e (by kernel_rfl)
theorem Mj:bK Tryz.prog 116:=e (by kernel_rfl)
def Tv:=[b 1 0,o 2 (.mv bo)]
def Tw:=[f 3 0 0 1,l 4 3,o 5 (.call 110 [.t 4]),m 6 5,eD 7 1 1 1 6,gC 8 7 6,cw 9 (.call 110 [.t 8]) 6,and 10 6 9,m 11 10,eD 12 0 0 1 11,gC 13 12 11,eD 14 1 1 1 11,gC 15 14 11,cw 16 (.bin .neq (.t 13) (.t 15)) 11,and 17 11 16,m 18 17,eD 19 3 3 1 18,cw 20 (.ld (some 6) (.t 19)) 18,cw 21 (.call 147 [.t 20]) 18,and 22 18 21,m 23 22,eD 24 4 9 1 23,gC 25 24 23,cw 26 (.len (.t 25)) 23,cw 27 (.bin .leq (.t 26) (aW 6)) 23,and 28 23 27,m 29 28,eD 30 4 9 1 29,gC 31 30 29,cw 32 (.call 149 [.t 31,(.c (.func 150 []))]) 29,cw 33 (.un .not (.t 32)) 29,and 34 29 33,m 2 34]
def Ce:bn:=(s (r Tv) (s (r Tw) .ret))
def Hj:List bu:=[.tmp 2]
theorem NY:bX Tryz.prog Tryz.f118 Ce:=e (by kernel_rfl)
theorem PF:bV Tryz.prog Tryz.f118 Hj:=e (by kernel_rfl)
theorem Mk:bK Tryz.prog 118:=e (by kernel_rfl)
def Tx:=[b 3 1,o 4 (.mv (.c (.nils 8)))]
def Ty:=[m 6 0,o 7 (.nilC (.t 6)),f 8 0 0 7,f 9 2 5 8,l 10 9,o 11 (.call 95 [.t 10]),o 12 (.fl 0 0 none (.t 11)),o 13 (.mk 151 [.t 3]),o 14 (.call 106 [.t 12,.t 13]),m 5 14]
def Tz:=[m 15 5,m 16 5,o 17 (.len (.t 16)),o 18 (.prim .min2 [.t 17,(aW 6)]),o 19 (.sl 8 (.t 15) none (some (.t 18)) none),o 20 (.call 93 [.t 19]),m 4 20]
def Cf:bn:=(s (r Tx) (s (r Ty) (s (r Tz) .ret)))
def Hk:List bu:=[.tmp 4]
theorem NZ:bX Tryz.prog Tryz.f119 Cf:=e (by kernel_rfl)
theorem PG:bV Tryz.prog Tryz.f119 Hk:=e (by kernel_rfl)
theorem Ml:bK Tryz.prog 119:=e (by kernel_rfl)
def TA:=[bq 6 0]
def TB:=[m 7 0,o 8 (.len (.t 7)),o 9 (.bin .eql (.t 8) (aW 0))]
def TC:=[bq 6 0]
def TD:=[m 10 0,m 11 1,m 12 0,o 13 (.len (.t 12)),o 14 (.bin .rem (.t 11) (.t 13)),o 15 (.is 1 (.t 10) (.t 14)),l 16 15,m 17 2,o 18 (.bin .rem (.t 16) (.t 17)),m 19 2,o 20 (.bin .add (.t 18) (.t 19)),m 21 2,o 22 (.bin .rem (.t 20) (.t 21)),m 6 22]
def Cg:bn:=(s (r TA) (s (s (r TB) (.cond (.t 9) (s (r TC) .ret) .skip)) (s (r TD) .ret)))
def Hl:List bu:=[.tmp 6]
theorem N0:bX Tryz.prog Tryz.f121 Cg:=e (by kernel_rfl)
theorem PH:bV Tryz.prog Tryz.f121 Hl:=e (by kernel_rfl)
theorem Mm:bK Tryz.prog 121:=e (by kernel_rfl)
def TE:=[l 4 1,o 5 (.bin .neq (.t 4) (.c (.ak ⟨#[]⟩)))]
def TF:=[l 6 1,o 7 (.call 123 [.t 6,(.c (.int .u8 10))]),m 3 7]
def TG:=[m 8 3,o 9 (.bin .lss (.t 8) (aW 0)),m 10 9,dJ 11 0 10,fQ 12 1 10,dJ 13 3 10,on 14 (.bin .add (.t 13) (aW 1)) 10,on 15 (.prim (.ss false true) [.t 12,.t 14]) 10,on 16 (.fF (.t 11) [.t 15]) 10,on 17 (.un .not (.t 16)) 10,or 18 10 17]
def TH:=[l 19 1,m 20 3,ad 21 20 1,o 22 (.prim (.ss true false) [.t 19,.t 21]),p (.aS none (.t 1) (.t 22))]
def Ch:bn:=(.block 0 (.loop (s (s (r TE) (.cond (.t 5) .skip (.exit 0))) (.block 1 (s (r TF) (s (s (r TG) (.cond (.t 18) .ret .skip)) (r TH)))))))
def Hm:List bu:=[]
theorem N4:bX Tryz.prog Tryz.f122 Ch:=e (by kernel_rfl)
theorem PI:bV Tryz.prog Tryz.f122 Hm:=e (by kernel_rfl)
theorem Dj:bK Tryz.prog 122:=e (by kernel_rfl)
theorem Mn:bK Tryz.prog 123:=e (by kernel_rfl)
theorem Dk:bK Tryz.prog 124:=e (by kernel_rfl)
theorem Mo:bK Tryz.prog 125:=e (by kernel_rfl)
def TI:=[bq 2 0,o 3 (.mv (.c (.ak ⟨#[]⟩)))]
def TJ:=[m 10 0,o 11 (.call 154 [.t 10,(.c (.ak ⟨#[32]⟩))]),m 9 11,o 12 (.ext (.t 9) 0),o 13 (.ext (.t 9) 1),o 14 (.ext (.t 9) 2),m 4 12,m 5 13,m 6 14]
def TK:=[m 16 4,o 17 (.call 155 [.t 16]),m 15 17,o 18 (.ext (.t 15) 0),o 19 (.ext (.t 15) 1),m 7 18,m 8 19]
def TL:=[m 20 6,no 21 20,m 22 21,dJ 23 8 22,on 24 (.prim (.px true) [.t 23]) 22,or 25 22 24]
def u4:=[o 26 (.bld [] []),o 27 (.prim (.oA 176) [.t 26]),p (.prim .mG [.t 27])]
def TM:=[m 28 7,m 29 5,m 2 28,m 3 29]
def xD:bn:=(s (r TI) (s (r TJ) (s (r TK) (s (s (r TL) (.cond (.t 25) (r u4) .skip)) (s (r TM) .ret)))))
def Hn:List bu:=[.tmp 2,.tmp 3]
theorem Dt:bX Tryz.prog Tryz.f126 xD:=e (by kernel_rfl)
theorem PJ:bV Tryz.prog Tryz.f126 Hn:=e (by kernel_rfl)
theorem Dl:bK Tryz.prog 126:=e (by kernel_rfl)
theorem Mp:bK Tryz.prog 127:=e (by kernel_rfl)
def TN:=[o 6 (.mv bo)]
def TO:=[m 7 1,m 8 0,o 9 (.bin .leq (.t 7) (.t 8)),m 10 9,eW 11 0 10,eW 12 2 10,cw 13 (.bin .leq (.t 11) (.t 12)) 10,and 14 10 13,m 6 14]
def Ci:bn:=(s (r TN) (s (r TO) .ret))
def Ho:List bu:=[.tmp 6]
theorem N5:bX Tryz.prog Tryz.f128 Ci:=e (by kernel_rfl)
theorem PK:bV Tryz.prog Tryz.f128 Ho:=e (by kernel_rfl)
theorem Mq:bK Tryz.prog 128:=e (by kernel_rfl)
def TP:=[b 1 0,o 2 (.mv bo)]
def TQ:=[f 3 0 0 1,l 4 3,o 5 (.call 128 [.t 4,(aW 0),(aW 5)]),m 6 5,eD 7 1 1 1 6,gC 8 7 6,cw 9 (.call 128 [.t 8,(aW 0),(aW 9999)]) 6,and 10 6 9,m 2 10]
def Cj:bn:=(s (r TP) (s (r TQ) .ret))
def Hp:List bu:=[.tmp 2]
theorem N6:bX Tryz.prog Tryz.f129 Cj:=e (by kernel_rfl)
theorem PL:bV Tryz.prog Tryz.f129 Hp:=e (by kernel_rfl)
theorem Mr:bK Tryz.prog 129:=e (by kernel_rfl)
def TR:=[o 2 (.mv bo)]
def TS:=[m 5 0,o 6 (.lenT (.t 5)),o 7 (.bin .gtr (.t 6) (aW 160))]
def TT:=[o 2 (.mv bo)]
def TU:=[m 8 0,o 9 (.fC (.t 8)),o 10 (.len (.t 9)),bq 11 0]
def TV:=[lt 12 11 10]
def TW:=[o 13 (.is 1 (.t 9) (.t 11)),l 14 13,m 4 14]
def TX:=[m 15 4,o 16 (.bin .lss (.t 15) (.c (.int .u8 32))),m 17 16,dJ 18 4 17,on 19 (.bin .gtr (.t 18) (.c (.int .u8 126))) 17,or 20 17 19,m 21 20,dJ 22 4 21,on 23 (.bin .eql (.t 22) (.c (.int .u8 63))) 21,or 24 21 23]
def TY:=[o 2 (.mv bo)]
def TZ:=[ad 25 11 1,m 11 25]
def T0:=[o 2 (.mv T)]
def Cl:bn:=(s (r TR) (s (s (r TS) (.cond (.t 7) (s (r TT) .ret) .skip)) (s (s (r TU) (.block 0 (.loop (s (r TV) (s (.cond (.t 12) .skip (.exit 0)) (s (.block 1 (s (r TW) (s (r TX) (.cond (.t 24) (s (r TY) .ret) .skip)))) (r TZ))))))) (s (r T0) .ret))))
def Hr:List bu:=[.tmp 2]
theorem N8:bX Tryz.prog Tryz.f130 Cl:=e (by kernel_rfl)
theorem PN:bV Tryz.prog Tryz.f130 Hr:=e (by kernel_rfl)
theorem Mt:bK Tryz.prog 130:=e (by kernel_rfl)
theorem Mu:bK Tryz.prog 131:=e (by kernel_rfl)
theorem Mv:bK Tryz.prog 132:=e (by kernel_rfl)
def T6:=[b 1 0,o 2 (.mv (.c (.ak ⟨#[]⟩)))]
def T7:=[f 4 0 0 1,f 5 0 0 4,l 6 5,o 7 (.call 134 [.t 6]),o 8 (.bin .add (.t 7) (.c (.ak ⟨#[32]⟩))),f 9 0 0 1,f 10 1 1 9,l 11 10,o 12 (.call 134 [.t 11]),o 13 (.bin .add (.t 8) (.t 12)),o 14 (.bin .add (.t 13) (.c (.ak ⟨#[32]⟩))),f 15 1 2 1,l 16 15,o 17 (.call 134 [.t 16]),o 18 (.bin .add (.t 14) (.t 17)),o 19 (.bin .add (.t 18) (.c (.ak ⟨#[32]⟩))),f 20 2 3 1,l 21 20,o 22 (.call 134 [.t 21]),o 23 (.bin .add (.t 19) (.t 22)),o 24 (.bin .add (.t 23) (.c (.ak ⟨#[32]⟩))),f 25 3 4 1,l 26 25,o 27 (.call 134 [.t 26]),o 28 (.bin .add (.t 24) (.t 27)),o 29 (.bin .add (.t 28) (.c (.ak ⟨#[32]⟩))),m 3 29]
def Q0:=some [[],[0],[1],[2],[3],[],[5],[6],[7,3],[4,8],[9],[],[11],[12,8],[10,13],[14],[],[16],[17,13],[15,18],[19],[],[21],[22,18],[20,23],[24],[25,23,0,1,2,3,4,5,6,7,8,9,10,11,12,13,14,15,16,17,18,19,20,21,22,23,24,25]]
def T8:=[m 30 3,f 31 4 5 1,f 32 0 0 31,l 33 32,o 34 (.call 134 [.t 33]),o 35 (.bin .add (.t 30) (.t 34)),o 36 (.bin .add (.t 35) (.c (.ak ⟨#[32]⟩))),f 37 4 5 1,f 38 1 1 37,l 39 38,o 40 (.call 134 [.t 39]),o 41 (.bin .add (.t 36) (.t 40)),o 42 (.bin .add (.t 41) (.c (.ak ⟨#[32]⟩))),f 43 5 7 1,l 44 43,o 45 (.bin .add (.t 42) (.t 44)),m 2 45]
def Q1:=some [[],[],[1],[2],[3],[0,4],[5],[],[7],[8],[9,4],[6,10],[11],[],[13],[12,14],[15,10,0,1,2,3,4,5,6,7,8,9,10,11,12,13,14,15]]
def Cm:bn:=(s (r T6) (s (.b9 Q0 T7) (s (.b9 Q1 T8) .ret)))
def Hs:List bu:=[.tmp 2]
theorem N9:bX Tryz.prog Tryz.f133 Cm:=e (by kernel_rfl)
theorem PO:bV Tryz.prog Tryz.f133 Hs:=e (by kernel_rfl)
theorem Mw:bK Tryz.prog 133:=e (by kernel_rfl)
def T9:=[o 2 (.mv (.c (.ak ⟨#[]⟩)))]
def Ua:=[m 4 0,o 5 (.bin .rem (.t 4) (aW 10)),o 6 (.bin .add (aW 48) (.t 5)),o 7 (.conv .u8 (.t 6)),o 8 (.bs 5 1 [.t 7]),o 9 (.b2s (.t 8)),m 3 9]
def Ub:=[m 10 0,o 11 (.bin .geq (.t 10) (aW 10))]
def Uc:=[m 12 0,o 13 (.bin .quo (.t 12) (aW 10)),m 0 13]
def Ud:=[m 14 0,o 15 (.bin .rem (.t 14) (aW 10)),o 16 (.bin .add (aW 48) (.t 15)),o 17 (.conv .u8 (.t 16)),o 18 (.bs 5 1 [.t 17]),o 19 (.b2s (.t 18)),m 20 3,o 21 (.bin .add (.t 19) (.t 20)),m 3 21]
def Ue:=[m 22 3,m 2 22]
def Cn:bn:=(s (r T9) (s (r Ua) (s (.block 0 (.loop (s (s (r Ub) (.cond (.t 11) .skip (.exit 0))) (.block 1 (s (r Uc) (r Ud)))))) (s (r Ue) .ret))))
def Ht:List bu:=[.tmp 2]
theorem Oa:bX Tryz.prog Tryz.f134 Cn:=e (by kernel_rfl)
theorem PQ:bV Tryz.prog Tryz.f134 Ht:=e (by kernel_rfl)
theorem Mx:bK Tryz.prog 134:=e (by kernel_rfl)
theorem My:bK Tryz.prog 135:=e (by kernel_rfl)
def Uf:=[b 3 1,o 4 (.mv bo)]
def Ug:=[m 5 0,ao 6 8 3,o 7 (.call 159 [.t 5,.t 6]),o 8 (.bin .geq (.t 7) (aW 0)),m 4 8]
def Co:bn:=(s (r Uf) (s (r Ug) .ret))
def Hu:List bu:=[.tmp 4]
theorem Ob:bX Tryz.prog Tryz.f136 Co:=e (by kernel_rfl)
theorem PR:bV Tryz.prog Tryz.f136 Hu:=e (by kernel_rfl)
theorem Mz:bK Tryz.prog 136:=e (by kernel_rfl)
def Uh:=[bq 2 0]
def Ui:=[bq 3 1]
def Uj:=[m 6 0,o 7 (.len (.t 6)),bq 8 0]
def Uk:=[lt 9 8 7]
def Ul:=[o 10 (.is 8 (.t 6) (.t 8)),ao 11 8 10,o 5 (.alloc (.agg [.agg [.int .i64 0,.int .i64 0],.int .i64 0,.int .i64 0,.int .i64 0,.agg [.int .i64 0,.int .i64 0],.ak ⟨#[]⟩])),p (.aS (some 8) (.t 5) (.t 11))]
def Um:=[m 13 3,ao 14 8 5,o 15 (.call 81 [.t 13,.t 14]),m 12 15,o 16 (.ext (.t 12) 0),o 17 (.ext (.t 12) 1),m 3 17]
def Un:=[ad 18 8 1,m 8 18]
def Uo:=[m 19 3,m 2 19]
def Cp:bn:=(s (r Uh) (s (r Ui) (s (s (r Uj) (.block 0 (.loop (s (r Uk) (s (.cond (.t 9) .skip (.exit 0)) (s (.block 1 (s (r Ul) (r Um))) (r Un))))))) (s (r Uo) .ret))))
def Hv:List bu:=[.tmp 2]
theorem Oc:bX Tryz.prog Tryz.f137 Cp:=e (by kernel_rfl)
theorem PS:bV Tryz.prog Tryz.f137 Hv:=e (by kernel_rfl)
theorem MA:bK Tryz.prog 137:=e (by kernel_rfl)
def Up:=[b 4 1,bq 6 0,o 7 (.mv bo)]
def Uq:=[m 12 0,o 13 (.len (.t 12)),m 8 13]
def Ur:=[m 14 8,bq 9 0,m 10 14]
def Us:=[m 15 9,m 16 10,lt 17 15 16]
def Ut:=[m 18 9,m 19 10,o 20 (.bin .add (.t 18) (.t 19)),o 21 (.conv .u64 (.t 20)),o 22 (.bin .shr (.t 21) (.c (.int .u64 1))),o 23 (.conv .i64 (.t 22)),m 11 23]
def Uu:=[m 24 2,m 25 0,m 26 11,o 27 (.is 8 (.t 25) (.t 26)),ao 28 8 27,ao 29 2 4,o 30 (.fF (.t 24) [.t 28,.t 29]),o 31 (.bin .lss (.t 30) (aW 0))]
def Q2:=some [[],[],[],[1,2],[3],[],[0,4,5],[6]]
def Uv:=[m 32 11,ad 33 32 1,m 9 33]
def Uw:=[m 34 11,m 10 34]
def Ux:=[m 35 9,m 36 9,m 37 8,lt 38 36 37,m 39 38,eW 40 2 39,eW 41 0 39,eW 42 9 39,cw 43 (.is 8 (.t 41) (.t 42)) 39,cw 44 (.ld (some 8) (.t 43)) 39,cw 45 (.ld (some 2) (.t 4)) 39,cw 46 (.fF (.t 40) [.t 44,.t 45]) 39,cw 47 (.bin .eql (.t 46) (aW 0)) 39,and 48 39 47,m 6 35,m 7 48]
def Q3:=some [[],[],[],[1,2],[3],[4],[4],[4],[6,7,4],[8,4],[4],[5,9,10,4,4],[11,4],[4,12],[0,11,0],[13,14,0,1,2,3,4,5,6,7,8,9,10,11,12,13,14]]
def Cq:bn:=(s (r Up) (s (r Uq) (s (r Ur) (s (.block 0 (.loop (s (s (r Us) (.cond (.t 17) .skip (.exit 0))) (.block 1 (s (r Ut) (s (.b9 Q2 Uu) (.cond (.t 31) (r Uv) (r Uw)))))))) (s (.b9 Q3 Ux) .ret)))))
def Hw:List bu:=[.tmp 6,.tmp 7]
theorem Od:bX Tryz.prog Tryz.f138 Cq:=e (by kernel_rfl)
theorem PT:bV Tryz.prog Tryz.f138 Hw:=e (by kernel_rfl)
theorem MB:bK Tryz.prog 138:=e (by kernel_rfl)
def Uy:=[b 2 0,b 3 1,bq 4 0]
def Uz:=[f 5 0 0 2,ao 6 2 5,ao 7 2 3,o 8 (.call 140 [.t 6,.t 7]),m 4 8]
def Cr:bn:=(s (r Uy) (s (r Uz) .ret))
def Hx:List bu:=[.tmp 4]
theorem Oe:bX Tryz.prog Tryz.f139 Cr:=e (by kernel_rfl)
theorem PU:bV Tryz.prog Tryz.f139 Hx:=e (by kernel_rfl)
theorem MC:bK Tryz.prog 139:=e (by kernel_rfl)
def UZ:=[b 2 0,b 3 1,bq 4 0]
def U0:=[f 5 0 0 2,l 6 5,f 7 0 0 3,l 8 7,o 9 (.call 161 [.t 6,.t 8]),f 10 1 1 2,l 11 10,f 12 1 1 3,l 13 12,o 14 (.call 161 [.t 11,.t 13]),o 15 (.bs 3 1 [.t 9,.t 14]),o 16 (.call 160 [.t 15]),m 4 16]
def Q5:=some [[],[0],[],[2],[1,3],[],[5],[],[7],[6,8,4],[4,9],[10,9],[11,11,0,1,2,3,4,5,6,7,8,9,10,11]]
def Ct:bn:=(s (r UZ) (s (.b9 Q5 U0) .ret))
def Hz:List bu:=[.tmp 4]
theorem Og:bX Tryz.prog Tryz.f140 Ct:=e (by kernel_rfl)
theorem PW:bV Tryz.prog Tryz.f140 Hz:=e (by kernel_rfl)
theorem ME:bK Tryz.prog 140:=e (by kernel_rfl)
theorem MF:bK Tryz.prog 141:=e (by kernel_rfl)
def U4:=[bq 4 0]
def U5:=[m 6 0,o 7 (.len (.t 6)),bq 8 0]
def U6:=[lt 9 8 7]
def U7:=[m 10 8,m 5 10]
def U8:=[m 11 1,m 12 0,m 13 5,o 14 (.is 8 (.t 12) (.t 13)),ao 15 8 14,o 16 (.fF (.t 11) [.t 15])]
def U9:=[m 17 5,m 4 17]
def Va:=[ad 18 8 1,m 8 18]
def Vb:=[bq 4 (-1)]
def Cu:bn:=(s (r U4) (s (s (r U5) (.block 0 (.loop (s (r U6) (s (.cond (.t 9) .skip (.exit 0)) (s (.block 1 (s (r U7) (s (r U8) (.cond (.t 16) (s (r U9) .ret) .skip)))) (r Va))))))) (s (r Vb) .ret)))
def HA:List bu:=[.tmp 4]
theorem Oh:bX Tryz.prog Tryz.f146 Cu:=e (by kernel_rfl)
theorem PX:bV Tryz.prog Tryz.f146 HA:=e (by kernel_rfl)
theorem MG:bK Tryz.prog 146:=e (by kernel_rfl)
def Vc:=[b 1 0,o 2 (.mv bo)]
def Vd:=[o 3 (.va 6 1 (.t 1)),o 4 (.call 166 [.t 3,(.c (.func 167 []))]),no 5 4,m 2 5]
def Cv:bn:=(s (r Vc) (s (r Vd) .ret))
def HB:List bu:=[.tmp 2]
theorem Oi:bX Tryz.prog Tryz.f147 Cv:=e (by kernel_rfl)
theorem PY:bV Tryz.prog Tryz.f147 HB:=e (by kernel_rfl)
theorem MH:bK Tryz.prog 147:=e (by kernel_rfl)
def Ve:=[o 4 (.mv bo)]
def Vf:=[m 5 0,m 6 1,o 7 (.call 146 [.t 5,.t 6]),o 8 (.bin .geq (.t 7) (aW 0)),m 4 8]
def Cw:bn:=(s (r Ve) (s (r Vf) .ret))
def HC:List bu:=[.tmp 4]
theorem Oj:bX Tryz.prog Tryz.f149 Cw:=e (by kernel_rfl)
theorem PZ:bV Tryz.prog Tryz.f149 HC:=e (by kernel_rfl)
theorem MI:bK Tryz.prog 149:=e (by kernel_rfl)
def Vs:=[b 1 0,o 2 (.mv bo)]
def Vt:=[ao 3 8 1,o 4 (.call 80 [.t 3]),no 5 4,m 2 5]
def Cy:bn:=(s (r Vs) (s (r Vt) .ret))
def HE:List bu:=[.tmp 2]
theorem Om:bX Tryz.prog Tryz.f150 Cy:=e (by kernel_rfl)
theorem P1:bV Tryz.prog Tryz.f150 HE:=e (by kernel_rfl)
theorem MK:bK Tryz.prog 150:=e (by kernel_rfl)
def Vu:=[b 2 0,o 3 (.mv bo)]
def Vv:=[f 4 0 0 2,f 5 1 1 4,l 6 5,f 7 0 0 2,f 8 0 0 7,l 9 8,o 10 (.ia 6 1 (.t 1) (.t 9)),l 11 10,lt 12 6 11,m 3 12]
def Q6:=some [[],[0],[1],[],[3],[4],[5],[6],[2,7],[8,0,1,2,3,4,5,6,7,8]]
def Cz:bn:=(s (r Vu) (s (.b9 Q6 Vv) .ret))
def HF:List bu:=[.tmp 3]
theorem On:bX Tryz.prog Tryz.f151 Cz:=e (by kernel_rfl)
theorem P2:bV Tryz.prog Tryz.f151 HF:=e (by kernel_rfl)
theorem ML:bK Tryz.prog 151:=e (by kernel_rfl)
theorem MN:bK Tryz.prog 152:=e (by kernel_rfl)
def Vw:=[o 4 (.mv (.c (.ak ⟨#[]⟩))),o 5 (.mv (.c (.ak ⟨#[]⟩))),o 6 (.mv bo)]
def Vx:=[m 7 0,m 8 1,o 9 (.call 170 [.t 7,.t 8]),o 10 (.ext (.t 9) 0),o 11 (.ext (.t 9) 1),o 12 (.ext (.t 9) 2),m 4 10,m 5 11,m 6 12]
def CA:bn:=(s (r Vw) (s (r Vx) .ret))
def HG:List bu:=[.tmp 4,.tmp 5,.tmp 6]
theorem Oo:bX Tryz.prog Tryz.f154 CA:=e (by kernel_rfl)
theorem P3:bV Tryz.prog Tryz.f154 HG:=e (by kernel_rfl)
theorem MO:bK Tryz.prog 154:=e (by kernel_rfl)
theorem MP:bK Tryz.prog 155:=e (by kernel_rfl)
def Vy:=[b 3 1,bq 4 0]
def Vz:=[m 6 0,o 7 (.len (.t 6)),bq 8 0]
def VA:=[lt 9 8 7]
def VB:=[m 10 8,m 5 10]
def VC:=[ao 11 8 3,m 12 0,m 13 5,o 14 (.is 8 (.t 12) (.t 13)),ao 15 8 14,o 16 (.eqv (.aS [(.aS [(.i .i64),(.i .i64)]),(.i .i64),(.i .i64),(.i .i64),(.aS [(.i .i64),(.i .i64)]),.s]) false (.t 11) (.t 15))]
def Q7:=some [[],[],[],[1,2],[3],[0,4]]
def VD:=[m 17 5,m 4 17]
def VE:=[ad 18 8 1,m 8 18]
def VF:=[bq 4 (-1)]
def CB:bn:=(s (r Vy) (s (s (r Vz) (.block 0 (.loop (s (r VA) (s (.cond (.t 9) .skip (.exit 0)) (s (.block 1 (s (r VB) (s (.b9 Q7 VC) (.cond (.t 16) (s (r VD) .ret) .skip)))) (r VE))))))) (s (r VF) .ret)))
def HI:List bu:=[.tmp 4]
theorem Oq:bX Tryz.prog Tryz.f159 CB:=e (by kernel_rfl)
theorem P4:bV Tryz.prog Tryz.f159 HI:=e (by kernel_rfl)
theorem MQ:bK Tryz.prog 159:=e (by kernel_rfl)
def VR:=[bq 2 0]
def VS:=[bq 3 0]
def VT:=[m 6 0,o 7 (.len (.t 6)),bq 8 0]
def VU:=[lt 9 8 7]
def VV:=[o 10 (.is 1 (.t 6) (.t 8)),l 11 10,m 5 11]
def VW:=[m 12 5,m 13 3,o 14 (.bin .neq (.t 12) (.t 13))]
def VX:=[m 15 5,m 2 15]
def VY:=[ad 16 8 1,m 8 16]
def VZ:=[m 17 3,m 2 17]
def CC:bn:=(s (r VR) (s (r VS) (s (s (r VT) (.block 0 (.loop (s (r VU) (s (.cond (.t 9) .skip (.exit 0)) (s (.block 1 (s (r VV) (s (r VW) (.cond (.t 14) (s (r VX) .ret) .skip)))) (r VY))))))) (s (r VZ) .ret))))
def HJ:List bu:=[.tmp 2]
theorem Ot:bX Tryz.prog Tryz.f160 CC:=e (by kernel_rfl)
theorem P5:bV Tryz.prog Tryz.f160 HJ:=e (by kernel_rfl)
theorem MR:bK Tryz.prog 160:=e (by kernel_rfl)
def V0:=[bq 4 0]
def V1:=[m 7 0,o 8 (.call 175 [.t 7]),m 5 8]
def V6:=[m 9 1,o 10 (.call 175 [.t 9]),m 6 10]
def V7:=[m 11 5]
def V8:=[m 12 6]
def V9:=[bq 4 0]
def Wa:=[bq 4 (-1)]
def Wb:=[m 13 6]
def Wc:=[bq 4 1]
def Wd:=[m 14 0,m 15 1,lt 16 14 15]
def V2:=[bq 4 (-1)]
def V3:=[m 17 0,m 18 1,o 19 (.bin .gtr (.t 17) (.t 18))]
def V4:=[bq 4 1]
def V5:=[bq 4 0]
def CD:bn:=(s (r V0) (s (r V1) (s (r V6) (s (s (r V7) (.cond (.t 11) (s (s (r V8) (.cond (.t 12) (s (r V9) .ret) .skip)) (s (r Wa) .ret)) .skip)) (s (s (r Wb) (.cond (.t 13) (s (r Wc) .ret) .skip)) (s (s (r Wd) (.cond (.t 16) (s (r V2) .ret) .skip)) (s (s (r V3) (.cond (.t 19) (s (r V4) .ret) .skip)) (s (r V5) .ret))))))))
def HK:List bu:=[.tmp 4]
theorem Ou:bX Tryz.prog Tryz.f161 CD:=e (by kernel_rfl)
theorem P6:bV Tryz.prog Tryz.f161 HK:=e (by kernel_rfl)
theorem MS:bK Tryz.prog 161:=e (by kernel_rfl)
def We:=[o 4 (.mv bo)]
def Wf:=[m 5 0,m 6 1,o 7 (.call 187 [.t 5,.t 6]),o 8 (.bin .geq (.t 7) (aW 0)),m 4 8]
def CE:bn:=(s (r We) (s (r Wf) .ret))
def HL:List bu:=[.tmp 4]
theorem Ov:bX Tryz.prog Tryz.f166 CE:=e (by kernel_rfl)
theorem P7:bV Tryz.prog Tryz.f166 HL:=e (by kernel_rfl)
theorem MT:bK Tryz.prog 166:=e (by kernel_rfl)
def Wg:=[o 2 (.mv bo)]
def Wh:=[m 3 0,o 4 (.call 128 [.t 3,(aW 0),(aW 60)]),no 5 4,m 2 5]
def c167:bn:=(s (r Wg) (s (r Wh) .ret))
def HM:List bu:=[.tmp 2]
theorem Ow:bX Tryz.prog Tryz.f167 c167:=e (by kernel_rfl)
theorem P8:bV Tryz.prog Tryz.f167 HM:=e (by kernel_rfl)
theorem MU:bK Tryz.prog 167:=e (by kernel_rfl)
def Wi:=[o 4 (.mv (.c (.ak ⟨#[]⟩))),o 5 (.mv (.c (.ak ⟨#[]⟩))),o 6 (.mv bo)]
def Wj:=[m 8 0,m 9 1,o 10 (.call 188 [.t 8,.t 9]),m 7 10]
def Wk:=[m 11 7,o 12 (.bin .geq (.t 11) (aW 0))]
def Wl:=[m 13 0,m 14 7,o 15 (.prim (.ss false true) [.t 13,.t 14]),m 16 0,m 17 7,m 18 1,o 19 (.lenT (.t 18)),o 20 (.bin .add (.t 17) (.t 19)),o 21 (.prim (.ss true false) [.t 16,.t 20]),m 4 15,m 5 21,o 6 (.mv T)]
def Q9:=some [[],[],[0,1],[],[],[],[5],[4,6],[3,7],[2,0,1,2],[8,9,0,1,2,3,4,5,6,7,8,9],[10,0,1,2,3,4,5,6,7,8,9,10]]
def Wm:=[m 22 0,m 4 22,o 5 (.mv (.c (.ak ⟨#[]⟩))),o 6 (.mv bo)]
def CF:bn:=(s (r Wi) (s (s (r Wj) (s (r Wk) (.cond (.t 12) (s (.b9 Q9 Wl) .ret) .skip))) (s (r Wm) .ret)))
def HN:List bu:=[.tmp 4,.tmp 5,.tmp 6]
theorem Ox:bX Tryz.prog Tryz.f170 CF:=e (by kernel_rfl)
theorem P9:bV Tryz.prog Tryz.f170 HN:=e (by kernel_rfl)
theorem Dm:bK Tryz.prog 170:=e (by kernel_rfl)
def Wn:=[o 2 (.mv bo)]
def Wo:=[m 3 0,m 4 0,o 5 (.bin .neq (.t 3) (.t 4)),m 2 5]
def c175:bn:=(s (r Wn) (s (r Wo) .ret))
def HO:List bu:=[.tmp 2]
theorem Oy:bX Tryz.prog Tryz.f175 c175:=e (by kernel_rfl)
theorem Qa:bV Tryz.prog Tryz.f175 HO:=e (by kernel_rfl)
theorem MV:bK Tryz.prog 175:=e (by kernel_rfl)
def Wp:=[bq 4 0]
def Wq:=[m 6 0,o 7 (.len (.t 6)),bq 8 0]
def Wr:=[lt 9 8 7]
def Ws:=[m 10 8,m 5 10]
def Wt:=[m 11 1,m 12 0,m 13 5,o 14 (.is 1 (.t 12) (.t 13)),l 15 14,o 16 (.fF (.t 11) [.t 15])]
def Wu:=[m 17 5,m 4 17]
def Wv:=[ad 18 8 1,m 8 18]
def Ww:=[bq 4 (-1)]
def CH:bn:=(s (r Wp) (s (s (r Wq) (.block 0 (.loop (s (r Wr) (s (.cond (.t 9) .skip (.exit 0)) (s (.block 1 (s (r Ws) (s (r Wt) (.cond (.t 16) (s (r Wu) .ret) .skip)))) (r Wv))))))) (s (r Ww) .ret)))
def HQ:List bu:=[.tmp 4]
theorem OA:bX Tryz.prog Tryz.f187 CH:=e (by kernel_rfl)
theorem Qc:bV Tryz.prog Tryz.f187 HQ:=e (by kernel_rfl)
theorem MX:bK Tryz.prog 187:=e (by kernel_rfl)
def Wx:=[bq 4 0]
def Wy:=[m 14 1,o 15 (.lenT (.t 14)),m 5 15]
def WK:=[m 17 5,o 18 (.bin .eql (.t 17) (aW 0)),m 19 18,dJ 20 1 19,dJ 21 0 19,on 22 (.bin .eql (.t 20) (.t 21)) 19,or 23 19 22,m 16 23]
def WW:=[bq 4 0]
def W5:=[m 25 5,o 26 (.bin .eql (.t 25) (aW 1)),m 24 26]
def W6:=[m 27 0,m 28 1,o 29 (.prim .eM [.t 28,(aW 0)]),o 30 (.call 152 [.t 27,.t 29]),m 4 30]
def W7:=[m 32 5,m 33 0,o 34 (.lenT (.t 33)),o 35 (.bin .geq (.t 32) (.t 34)),m 31 35]
def W8:=[bq 4 (-1)]
def W9:=[m 45 0,m 46 1,o 47 (.jf 204 [.t 45,.t 46]),m 4 47]
def Xa:=[m 48 1,o 49 (.prim .eM [.t 48,(aW 0)]),m 6 49]
def Wz:=[m 50 1,o 51 (.prim .eM [.t 50,(aW 1)]),m 7 51]
def WA:=[bq 8 0]
def WB:=[m 52 0,o 53 (.lenT (.t 52)),m 54 5,o 55 (.bin .sub (.t 53) (.t 54)),ad 56 55 1,m 9 56]
def WC:=[bq 10 0]
def WD:=[m 57 8,m 58 9,lt 59 57 58]
def WE:=[m 60 0,m 61 8,o 62 (.prim .eM [.t 60,.t 61]),m 63 6,o 64 (.bin .neq (.t 62) (.t 63))]
def WG:=[m 65 0,m 66 8,ad 67 66 1,m 68 9,o 69 (.prim (.ss true true) [.t 65,.t 67,.t 68]),m 70 6,o 71 (.call 152 [.t 69,.t 70]),m 11 71]
def WH:=[m 72 11,o 73 (.bin .lss (.t 72) (aW 0))]
def WI:=[bq 4 (-1)]
def WJ:=[m 74 8,m 75 11,ad 76 75 1,o 77 (.bin .add (.t 74) (.t 76)),m 8 77]
def WL:=[m 78 0,m 79 8,ad 80 79 1,o 81 (.prim .eM [.t 78,.t 80]),m 82 7,o 83 (.bin .eql (.t 81) (.t 82)),m 84 83,eW 85 0 84,eW 86 8 84,eW 87 8 84,eW 88 5 84,cw 89 (.bin .add (.t 87) (.t 88)) 84,cw 90 (.prim (.ss true true) [.t 85,.t 86,.t 89]) 84,eW 91 1 84,cw 92 (.bin .eql (.t 90) (.t 91)) 84,and 93 84 92]
def WM:=[m 94 8,m 4 94]
def WN:=[m 95 8,ad 96 95 1,m 8 96]
def WO:=[m 97 10,ad 98 97 1,m 10 98]
def WQ:=[m 108 0,m 109 8,o 110 (.prim (.ss true false) [.t 108,.t 109]),m 111 1,o 112 (.jf 204 [.t 110,.t 111]),m 12 112]
def WR:=[m 113 12,o 114 (.bin .geq (.t 113) (aW 0))]
def WS:=[m 115 12,m 116 8,o 117 (.bin .add (.t 115) (.t 116)),m 4 117]
def WT:=[bq 4 (-1)]
def WU:=[m 133 0,m 134 8,o 135 (.prim (.ss true false) [.t 133,.t 134]),m 136 1,o 137 (.call 206 [.t 135,.t 136]),m 13 137]
def WV:=[m 138 13,o 139 (.bin .lss (.t 138) (aW 0))]
def WX:=[bq 4 (-1)]
def WY:=[m 140 8,m 141 13,o 142 (.bin .add (.t 140) (.t 141)),m 4 142]
def WZ:=[bq 4 (-1)]
def CI:bn:=(s (r Wx) (s (r Wy) (s (.block 0 (s (r WK) (.cond (.t 16) (s (r WW) .ret) (s (r W5) (.cond (.t 24) (s (r W6) .ret) (s (r W7) (.cond (.t 31) (s (r W8) .ret) (s .sg (.cond (.t 36) (s (r W9) .ret) .skip))))))))) (s (r Xa) (s (r Wz) (s (r WA) (s (r WB) (s (r WC) (s (.block 1 (.loop (s (s (r WD) (.cond (.t 59) .skip (.exit 1))) (.block 2 (s (s (r WE) (.cond (.t 64) (s (r WG) (s (s (r WH) (.cond (.t 73) (s (r WI) .ret) .skip)) (r WJ))) .skip)) (s (s (r WL) (.cond (.t 93) (s (r WM) .ret) .skip)) (s (r WN) (s (r WO) (s .sg (.cond (.t 107) (s (r WQ) (s (s (r WR) (.cond (.t 114) (s (r WS) .ret) .skip)) (s (r WT) .ret))) (s .sg (.cond (.t 132) (s (r WU) (s (s (r WV) (.cond (.t 139) (s (r WX) .ret) .skip)) (s (r WY) .ret))) .skip)))))))))))) (s (r WZ) .ret))))))))))
def HR:List bu:=[.tmp 4]
theorem OB:bX Tryz.prog Tryz.f188 CI:=e (by kernel_rfl)
theorem Qd:bV Tryz.prog Tryz.f188 HR:=e (by kernel_rfl)
theorem MY:bK Tryz.prog 188:=e (by kernel_rfl)
end Go.Proofs.YtoffnnjbplgnaaaGreatDoor
namespace Go.Abs
open Go Go.RowKit
open Enc (enc)
def ar(x:I)(p q:Prop):Prop:=match x with
 | .bool t=>(t=true→p)∧(t=false→q)
 |_=>False
theorem ab.iT{c:cP}{A:af}{Q:Exit→af→Prop}{b:aJ}{x y:bn}(h:ar (aj A b) (ab c x Q A) (ab c y Q A)):ab c (.cond b x y) Q A:=by
 generalize hb:aj A b=v at h;unfold ar at h;split at h
 ·exact ab.cond hb h.1 h.2
 ·exact h.elim
def pL(r:I):Option (List I)→Prop
 |some xs=>lP xs=r
 |none=>False
theorem agD(rs:List bu)(r:I)(A:af):lR rs r .ret A=pL r (fr A rs):=by
 simp only[lR,pL];cases fr A rs <;>simp
theorem agC(rs:List bu)(r:I)(A:af):lR rs r .normal A=pL r (fr A rs):=by
 simp only[lR,pL];cases fr A rs <;>simp
def tu(s:Option Nat)(A:af):Option I→Option I
 |some x=>if bS s x=true then bh true A x else none
 |none=>none
def mg:Option I→Option (List I)→Option (List I)
 |some x,some xs=>some (x::xs)
 |_,_=>none
theorem agu(A:af):fr A []=some []:=rfl
theorem agv(A:af)(t:Nat)(rs:List bu):fr A (.tmp t::rs)=mg (bh true A (A.t t)) (fr A rs):=by
 simp only[fr,wA];cases bh true A (A.t t) <;>cases fr A rs <;>rfl
theorem agt(A:af)(a:Nat)(s:Option Nat)(rs:List bu):fr A (.cell a s::rs)=mg (tu s A (gJ A (A.t a))) (fr A rs):=by
 simp only[fr,wA,ly];cases gJ A (A.t a) with
 |none=>cases fr A rs <;>rfl
 |some x =>
  by_cases h:bS s x=true
  ·simp only[tu,if_pos h];cases bh true A x <;>cases fr A rs <;>rfl
  ·simp only[tu,if_neg h];cases fr A rs <;>rfl
def mn(aG:Bool)(A:af):Option I→Option I
 |some x=>if x.bF=true then some (.ref x) else (iA A 9 x).map .ref
 |none=>none
theorem ph(A:af)(n:Nat)(p:List Nat):bh true A (.ptr n p)=mn true A (dM p (A.o n)):=by
 simp only[bh,ly,gJ,if_true,mn];cases dM p (A.o n) <;>rfl
open Classical in
noncomputable def jB(sz lo k:Nat):Option (List I)→Option I
 |some fs=>if I.cG ((fs.drop lo).take k)=true then some (.slice sz ((fs.drop lo).take k)) else none
 |none=>none
theorem sB(A:af)(n:Nat)(p:List Nat)(sz lo k:Nat):bh true A (.view n p sz lo k)=jB sz lo k (eC (dM p (A.o n))):=by
 simp only[bh,ly,gJ,if_true];cases dM p (A.o n) with
 |none=>rfl
 |some c=>cases c <;>simp only[eC,I.dC,jB] <;>(split <;>simp_all)
open Classical in
noncomputable def nh(k:Nat):Option al→Option I
 |some (.b6 _ sz es)=>if k=es.length∧I.cG es=true then some (.slice sz es) else none
 |_=>none
theorem SB(aG:Bool)(A:af)(n k:Nat):bh aG A (.own n k)=nh k (A.o n):=by
 simp only[bh];cases A.o n with
 |none=>rfl
 |some y=>cases y <;>simp only[nh] <;>(split <;>simp_all)
theorem Sv(aG:Bool)(A:af)(fs:List I):bh aG A (.agg fs)=(bO aG A fs).map .agg:=by simp only[bh]
theorem Sx(aG:Bool)(A:af)(f:FuncId)(fs:List I):bh aG A (.func f fs)=if f<1000000 then (bO aG A fs).map (.func f) else some .any:=by simp only[bh]
theorem Sy(aG:Bool)(A:af)(k:IntKind)(n:Int):bh aG A (.int k n)=some (.int k n):=by simp only[bh]
theorem Sw(aG:Bool)(A:af)(n:Bool):bh aG A (.bool n)=some (.bool n):=by simp only[bh]
theorem SE(aG:Bool)(A:af)(n:ByteArray):bh aG A (.ak n)=some (.ak n):=by simp only[bh]
theorem SA(aG:Bool)(A:af)(n:Nat):bh aG A (.nils n)=some (.slice n []):=by simp only[bh]
theorem SD(aG:Bool)(A:af)(n:Nat)(es:List I):bh aG A (.slice n es)=if I.cG es=true then some (.slice n es) else none:=by simp only[bh]
theorem SC(aG:Bool)(A:af)(x:I):bh aG A (.ref x)=if x.bF=true then some (.ref x) else none:=by simp only[bh]
theorem Eu(aG:Bool)(A:af):bO aG A []=some []:=by simp only[bO]
theorem Et(aG:Bool)(A:af)(x:I)(xs:List I):bO aG A (x::xs)=mg (bh aG A x) (bO aG A xs):=by
 simp only[bO];cases bh aG A x <;>cases bO aG A xs <;>rfl
theorem Pf(fs:List I):(I.agg fs).bF=I.cG fs:=by simp only[I.bF]
theorem Pl(n:Nat)(fs:List I):(I.slice n fs).bF=I.cG fs:=by simp only[I.bF]
theorem Pk(x:I):(I.ref x).bF=x.bF:=by simp only[I.bF]
theorem Pj(k:IntKind)(n:Int):(I.int k n).bF=true:=by simp only[I.bF]
theorem Pg(n:Bool):(I.bool n).bF=true:=by simp only[I.bF]
theorem Pm(n:ByteArray):(I.ak n).bF=true:=by simp only[I.bF]
theorem Ph(f:FuncId)(fs:List I):(I.func f fs).bF=I.cG fs:=by simp only[I.bF]
theorem Po:I.cG []=true:=by simp only[I.cG]
theorem Pn(x:I)(xs:List I):I.cG (x::xs)=(x.bF&&I.cG xs):=by simp only[I.cG]
theorem LD(k:IntKind)(a b:Int):b8 .add (.int k a) (.int k b)=some (.int k (k.wrap (a+b))):=by simp[b8]
theorem LV(k:IntKind)(a b:Int):b8 .sub (.int k a) (.int k b)=some (.int k (k.wrap (a-b))):=by simp[b8]
theorem LM(k:IntKind)(a b:Int):b8 .mul (.int k a) (.int k b)=some (.int k (k.wrap (a*b))):=by simp[b8]
theorem LQ(k:IntKind)(a b:Int):b8 .quo (.int k a) (.int k b)=if b=0 then none else some (.int k (k.wrap (a.tdiv b))):=by simp[b8]
theorem LR(k:IntKind)(a b:Int):b8 .rem (.int k a) (.int k b)=if b=0 then none else some (.int k (a.tmod b)):=by simp[b8]
theorem LF(k:IntKind)(a b:Int):b8 .and (.int k a) (.int k b)=some (.int k (k.wrap ((BitVec.ofInt k.bits a &&& BitVec.ofInt k.bits b).toNat:Int))):=by simp[b8]
theorem LP(k:IntKind)(a b:Int):b8 .or (.int k a) (.int k b)=some (.int k (k.wrap ((BitVec.ofInt k.bits a ||| BitVec.ofInt k.bits b).toNat:Int))):=by simp[b8]
theorem LW(k:IntKind)(a b:Int):b8 .xor (.int k a) (.int k b)=some (.int k (k.wrap ((BitVec.ofInt k.bits a ^^^ BitVec.ofInt k.bits b).toNat:Int))):=by simp[b8]
theorem LG(k:IntKind)(a b:Int):b8 .andNot (.int k a) (.int k b)=some (.int k (k.wrap ((BitVec.ofInt k.bits a &&& ~~~ BitVec.ofInt k.bits b).toNat:Int))):=by simp[b8]
theorem LS(k k':IntKind)(a b:Int):b8 .shl (.int k a) (.int k' b)=if 0≤b then some (.int k (k.wrap (a*2^(min b.toNat k.bits)))) else none:=by simp[b8]
theorem LU(k k':IntKind)(a b:Int):b8 .shr (.int k a) (.int k' b)=if 0≤b then some (.int k (a.fdiv (2^(min b.toNat k.bits)))) else none:=by simp[b8]
theorem LH(k:IntKind)(a b:Int):b8 .eql (.int k a) (.int k b)=some (.bool (a==b)):=by simp[b8]
theorem LN(k:IntKind)(a b:Int):b8 .neq (.int k a) (.int k b)=some (.bool (a != b)):=by simp[b8]
theorem LL(k:IntKind)(a b:Int):b8 .lss (.int k a) (.int k b)=some (.bool (decide (a<b))):=by simp[b8]
theorem LK(k:IntKind)(a b:Int):b8 .leq (.int k a) (.int k b)=some (.bool (decide (a≤b))):=by simp[b8]
theorem LJ(k:IntKind)(a b:Int):b8 .gtr (.int k a) (.int k b)=some (.bool (decide (b<a))):=by simp[b8]
theorem LI(k:IntKind)(a b:Int):b8 .geq (.int k a) (.int k b)=some (.bool (decide (b≤a))):=by simp[b8]
theorem BB :
  (∀ ts os d v,(aC ts os).put d v=aC ((d,v)::ts) os)∧(∀ ts os d v,(aC ts os).aR (some d) v=aC ((d,v)::ts) os)∧(∀ (A:af) v,A.aR none v=A) ∧
  (∀ ts os d x,(aC ts os).aM d x=aC ts ((d,x)::os))∧(∀ ts os k,(aC ts os).t k=cE ts k)∧(∀ ts os k,(aC ts os).o k=aq os k) ∧
  (∀ j v r k,cE ((j,v)::r) k=if k=j then v else cE r k)∧(∀ j v r k,aq ((j,v)::r) k=if k=j then some v else aq r k)∧(∀ k,aq [] k=none) ∧
  (∀ A k,aj A (.t k)=A.t k)∧(∀ A x,aj A (.c x)=x)∧(∀ d rest A v,c6 d rest A v=au rest (A.aR d v))∧(∀ v k,cL (some v) k=k v)∧(∀ A,au [] A=.done A) :=
 ⟨Gb,Gc,aeq,zl,aer,aep,bJ,dz,F3,Sg,Sf,adL,LX,Lb⟩
theorem GS :
  (∀ d rest A op,au (⟨d,op,none⟩::rest) A=bx A d op rest)∧(∀ d rest A op t b,au (⟨d,op,some (t,b)⟩::rest) A=iB (A.t t) b d op rest A) ∧
  (∀ d rest A op,iB (.bool true) true d op rest A=bx A d op rest)∧(∀ d rest A op,iB (.bool false) false d op rest A=bx A d op rest) ∧
  (∀ d rest A op,iB (.bool true) false d op rest A=au rest (A.aR d .undef))∧(∀ d rest A op,iB (.bool false) true d op rest A=au rest (A.aR d .undef))∧(∀ d rest A op b,iB .undef b d op rest A=au rest (A.aR d .undef)) ∧
  (∀ d rest A x,bx A d (.mv x) rest=au rest (A.aR d (aj A x)))∧(∀ d rest A c a b,bx A d (.pick c a b) rest=tl A d a b rest (aj A c)) ∧
  (∀ A d a b rest,tl A d a b rest (.bool true)=au rest (A.aR d (aj A a)))∧(∀ A d a b rest,tl A d a b rest (.bool false)=au rest (A.aR d (aj A b))) ∧
  (∀ d rest A op x y,bx A d (.bin op x y) rest=cL (b8 op (aj A x) (aj A y)) (c6 d rest A)) ∧
  (∀ d rest A ty neg x y,bx A d (.eqv ty neg x y) rest=cL ((cA ty (aj A x) (aj A y)).map fun b=>.bool (if neg then !b else b)) (c6 d rest A)) ∧
  (∀ d rest A op x,bx A d (.un op x) rest=cL (tQ op (aj A x)) (c6 d rest A))∧(∀ b,tQ .not (.bool b)=some (.bool !b))∧(∀ k n,tQ .neg (.int k n)=some (.int k (k.wrap (0-n))))∧(∀ k n,tQ .xor (.int k n)=some (.int k (qw k n))) ∧
  (∀ d rest A k x,bx A d (.conv k x) rest=cL (xP k (aj A x)) (c6 d rest A))∧(∀ k k' n,xP k (.int k' n)=some (.int k (k.wrap n))) ∧
  (∀ d rest A s x,bx A d (.ld s x) rest=cL (gS s (gJ A (aj A x))) (c6 d rest A))∧(∀ d rest A f off x,bx A d (.fa f off x) rest=cL (oi A f off (aj A x)) (c6 d rest A)) ∧
  (∀ d rest A f off s x,bx A d (.fl f off s x) rest=cL (qF f off s (aj A x).dC) (c6 d rest A))∧(∀ d rest A n esz x i,bx A d (.ia n esz x i) rest=cL (sK A n esz (aj A x) (aj A i)) (c6 d rest A)) ∧
  (∀ d rest A esz x i,bx A d (.is esz x i) rest=cL (sO A esz (aj A x) (aj A i)) (c6 d rest A))∧(∀ d rest A n esz s x i,bx A d (.ix n esz s x i) rest=cL (sR n esz s (aj A x) (aj A i)) (c6 d rest A)) ∧
  (∀ d rest A x,bx A d (.len x) rest=cL (kV A (aj A x)) (c6 d rest A))∧(∀ d rest A n esz x,bx A d (.va n esz x) rest=cL (p7 A n esz (aj A x)) (c6 d rest A)) ∧
  (∀ d rest A zs ps,bx A d (.bld zs ps) rest=cL ((fi zs (ps.map fun p=>(p.1,aj A p.2))).map .agg) (c6 d rest A))∧(∀ d rest A x i,bx A d (.ext x i) rest=cL (yh i (aj A x)) (c6 d rest A))∧(∀ i fs,yh i (.tuple fs)=fs[i]?) ∧
  (∀ d rest A f caps,bx A d (.mk f caps) rest=cL (if ((caps.map (aj A)).all fun y=>y.cm)=true then some (.func f (caps.map (aj A))) else none) (c6 d rest A)) ∧
  (∀ rest A d z,bx A (some d) (.alloc z) rest=xm A d z rest (A.o d))∧(∀ A d z rest,xm A d z rest none=au rest ((A.aM d (.box z)).put d (.ptr d []))) ∧
  (∀ rest A d x,bx A (some d) (.box x) rest=uw A d (aj A x) rest (A.o d))∧(∀ A d z rest,uw A d z rest none=ux A d z rest z.cm)∧(∀ A d z rest,ux A d z rest true=au rest ((A.aM d (.box z)).put d (.ptr d []))) ∧
  (∀ rest A s x v,bx A none (.aS s x v) rest=wN A s (aj A v) rest (aj A x))∧(∀ A s v rest n p,wN A s v rest (.ptr n p)=wO A s n p v rest (A.o n))∧(∀ A s n p v rest b,wO A s n p v rest (some (.box b))=de A s n p b v rest (b.at p)) ∧
  (∀ d rest A f args,bx A d (.call f args) rest=.call f (args.map (aj A)) (bO true A (args.map (aj A))) (bO false A (args.map (aj A))) d rest A) ∧
  (∀ d rest A x args,bx A d (.fF x args) rest=sk A d (args.map (aj A)) rest (aj A x))∧(∀ A d args rest f caps,sk A d args rest (.func f caps)=if f<1000000 then .call f (args++caps) (bO true A (args++caps)) (bO false A (args++caps)) d rest A else .call (ml f) (caps++args) (bO true A (caps++args)) (bO false A (caps++args)) d rest A) :=
 ⟨KU,KV,acq,acn,acp,aco,acr,ae9,afd,fun _ _ _ _ _=>rfl,fun _ _ _ _ _=>rfl,aeK,aeU,afi,fun _=>rfl,fun _ _=>rfl,fun _ _=>rfl,aeS,fun _ _ _=>rfl,ae1,aeW,aeX,aeY,aeZ,ae0,ae2,afj,aeL,aeV,fun _ _=>rfl,ae5,
  aeH,fun _ _ _ _=>rfl,aeM,fun _ _ _ _=>rfl,fun _ _ _ _=>rfl,afh,fun _ _ _ _ _ _=>rfl,fun _ _ _ _ _ _ _=>rfl,aeO,aeP,fun A d args rest f caps=>by
   simp only[sk];split
   ·rename_i h;rw[yk h,yj h]
   ·rename_i h;simp only[jk,if_neg h]⟩
theorem dS{A:af}{s:Option Nat}{n:Nat}{p:List Nat}{b v old:I}{rest:List aF}(h1:v.cm=true)(h2:bS s v=true)(h3:v.aN=old.aN):de A s n p b v rest (some old)=au rest (A.aM n (.box (b.dR p v))):=by
 simp only[de];rw[if_pos ⟨h1,h2,h3⟩]
theorem JO :
  (∀ A x,gJ A (.ref x)=some x)∧(∀ A n p,gJ A (.ptr n p)=dM p (A.o n))∧(∀ p c,dM p (some (.box c))=c.at p)∧(∀ c:I,c.at []=some c)∧(∀ (c:I) i p,c.at (i::p)=iv i p c.dC) ∧
  (∀ i p fs,iv i p (some fs)=od p fs[i]?)∧(∀ p f,od p (some f)=f.at p)∧(∀ c v:I,c.dR [] v=v)∧(∀ (c:I) i p v,c.dR (i::p) v=pR c i p v c.dC)∧(∀ c i p v fs,pR c i p v (some fs)=rG fs i p v fs[i]?) ∧
  (∀ fs i p v f,rG fs i p v (some f)=.agg (fs.set i (f.dR p v)))∧(∀ fs,(I.agg fs).dC=some fs)∧(∀ x:I,eC (some x)=x.dC) ∧
  (∀ s x,gS s (some x)=if bS s x=true then some x else none) ∧
  (∀ A f off c,oi A f off (.ref c)=uS f off c.dC)∧(∀ A f off n p,oi A f off (.ptr n p)=sA n p f off (eC (dM p (A.o n))))∧(∀ f off fs,uS f off (some fs)=sy fs f off fs[f]?)∧(∀ fs f off v,sy fs f off (some v)=e9 fs f off (.ref v)) ∧
  (∀ n p f off fs,sA n p f off (some fs)=e9 fs f off (.ptr n (p++[f])))∧(∀ A n esz x kk k,sK A n esz x (.int kk k)=fY A n esz k x)∧(∀ A n esz k c,fY A n esz k (.ref c)=gN k n (qH n esz k c.dC)) ∧
  (∀ A n esz k m p,fY A n esz k (.ptr m p)=gN k n (lF n esz m p k (eC (dM p (A.o m)))))∧(∀ n esz k fs,qH n esz k (some fs)=jl n esz fs ((fs[k.toNat]?).map .ref))∧(∀ n esz m p k fs,lF n esz m p k (some fs)=jl n esz fs (some (.ptr m (p++[k.toNat])))) ∧
  (∀ A esz x kk k,sO A esz x (.int kk k)=jY A esz k x)∧(∀ n esz s x kk k,sR n esz s x (.int kk k)=ov n esz s k x.dC)∧(∀ n esz s k fs,ov n esz s k (some fs)=gN k n (jl n esz fs (gS s fs[k.toNat]?))) ∧
  (∀ A n esz m p,p7 A n esz (.ptr m p)=tT n esz m p (eC (dM p (A.o m))))∧(∀ n esz m p fs,tT n esz m p (some fs)=p8 n esz fs (.view m p esz 0 n)) ∧
  (∀ A sz es,kV A (.slice sz es)=some (.int .i64 es.length))∧(∀ A n,kV A (.nils n)=some (.int .i64 0))∧(∀ A n,kV A (.c0 n)=some (.int .i64 0)) :=
 ⟨fun _ _=>rfl,fun _ _ _=>rfl,fun _ _=>rfl,jy,sf,fun _ _ _=>rfl,fun _ _=>rfl,ez,wG,fun _ _ _ _ _=>rfl,fun _ _ _ _ _=>rfl,fun _=>rfl,fun _=>rfl,fun _ _=>rfl,fun _ _ _ _=>rfl,fun _ _ _ _ _=>rfl,fun _ _ _=>rfl,fun _ _ _ _=>rfl,
  fun _ _ _ _ _=>rfl,fun _ _ _ _ _ _=>rfl,fun _ _ _ _ _=>rfl,fun _ _ _ _ _ _=>rfl,fun _ _ _ _=>rfl,fun _ _ _ _ _ _=>rfl,fun _ _ _ _ _=>rfl,fun _ _ _ _ _ _=>rfl,fun _ _ _ _ _=>rfl,fun _ _ _ _ _=>rfl,fun _ _ _ _ _=>rfl,fun _ _ _=>rfl,fun _ _=>rfl,fun _ _=>rfl⟩
theorem Ej :
  (∀ A n p,bh true A (.ptr n p)=mn true A (dM p (A.o n)))∧(∀ A x,mn true A (some x)=if x.bF=true then some (.ref x) else (iA A 9 x).map .ref)∧(∀ A n p sz lo k,bh true A (.view n p sz lo k)=jB sz lo k (eC (dM p (A.o n)))) ∧
  (∀ A n p,bh false A (.ptr n p)=none)∧(∀ A n p sz lo k,bh false A (.view n p sz lo k)=none)∧(∀ x,mg none x=none)∧(∀ x,mg x none=none) ∧
  (∀ aG A n k,bh aG A (.own n k)=nh k (A.o n))∧(∀ aG A fs,bh aG A (.agg fs)=(bO aG A fs).map .agg)∧(∀ aG A f fs,bh aG A (.func f fs)=if f<1000000 then (bO aG A fs).map (.func f) else some .any)∧(∀ aG A k n,bh aG A (.int k n)=some (.int k n))∧(∀ aG A b,bh aG A (.bool b)=some (.bool b)) ∧
  (∀ aG A s,bh aG A (.ak s)=some (.ak s))∧(∀ aG A n,bh aG A (.nils n)=some (.slice n []))∧(∀ aG A n es,bh aG A (.slice n es)=if I.cG es=true then some (.slice n es) else none)∧(∀ aG A x,bh aG A (.ref x)=if x.bF=true then some (.ref x) else none) ∧
  (∀ aG A,bO aG A []=some [])∧(∀ aG A x xs,bO aG A (x::xs)=mg (bh aG A x) (bO aG A xs))∧(∀ x xs,mg (some x) (some xs)=some (x::xs)) ∧
  (∀ fs,(I.agg fs).bF=I.cG fs)∧(∀ n fs,(I.slice n fs).bF=I.cG fs)∧(∀ x,(I.ref x).bF=x.bF)∧(∀ k n,(I.int k n).bF=true)∧(∀ n,(I.bool n).bF=true)∧(∀ n,(I.ak n).bF=true)∧(∀ f fs,(I.func f fs).bF=I.cG fs) ∧
  I.cG []=true∧(∀ x xs,I.cG (x::xs)=(x.bF&&I.cG xs)) ∧
  (∀ rs r A,lR rs r .ret A=pL r (fr A rs))∧(∀ rs r A,lR rs r .normal A=pL r (fr A rs))∧(∀ r xs,pL r (some xs)=(lP xs=r))∧(∀ A,fr A []=some [])∧(∀ A t rs,fr A (.tmp t::rs)=mg (bh true A (A.t t)) (fr A rs)) ∧
  (∀ A a s rs,fr A (.cell a s::rs)=mg (tu s A (gJ A (A.t a))) (fr A rs))∧(∀ s A x,tu s A (some x)=if bS s x=true then bh true A x else none)∧(∀ x,lP [x]=x)∧(∀ x y xs,lP (x::y::xs)=.tuple (x::y::xs)) :=
 ⟨ph,fun _ _=>rfl,sB,fun _ _ _=>rfl,fun _ _ _ _ _ _=>rfl,fun _=>rfl,fun x=>by cases x <;>rfl,SB,Sv,Sx,Sy,Sw,SE,SA,SD,SC,Eu,Et,fun _ _=>rfl,Pf,Pl,Pk,Pj,Pg,Pm,Ph,Po,Pn,
  agD,agC,fun _ _=>rfl,agu,agv,agt,fun _ _ _=>rfl,fun _=>rfl,fun _ _ _=>rfl⟩
theorem BU :
  (∀ k a b,b8 .add (.int k a) (.int k b)=some (.int k (k.wrap (a+b))))∧(∀ k a b,b8 .sub (.int k a) (.int k b)=some (.int k (k.wrap (a-b))))∧(∀ k a b,b8 .mul (.int k a) (.int k b)=some (.int k (k.wrap (a*b)))) ∧
  (∀ k a b,b8 .quo (.int k a) (.int k b)=if b=0 then none else some (.int k (k.wrap (a.tdiv b))))∧(∀ k a b,b8 .rem (.int k a) (.int k b)=if b=0 then none else some (.int k (a.tmod b))) ∧
  (∀ k a b,b8 .and (.int k a) (.int k b)=some (.int k (k.wrap ((BitVec.ofInt k.bits a &&& BitVec.ofInt k.bits b).toNat:Int))))∧(∀ k a b,b8 .or (.int k a) (.int k b)=some (.int k (k.wrap ((BitVec.ofInt k.bits a ||| BitVec.ofInt k.bits b).toNat:Int)))) ∧
  (∀ k a b,b8 .xor (.int k a) (.int k b)=some (.int k (k.wrap ((BitVec.ofInt k.bits a ^^^ BitVec.ofInt k.bits b).toNat:Int))))∧(∀ k a b,b8 .andNot (.int k a) (.int k b)=some (.int k (k.wrap ((BitVec.ofInt k.bits a &&& ~~~ BitVec.ofInt k.bits b).toNat:Int)))) ∧
  (∀ k k' a b,b8 .shl (.int k a) (.int k' b)=if 0≤b then some (.int k (k.wrap (a*2^(min b.toNat k.bits)))) else none)∧(∀ k k' a b,b8 .shr (.int k a) (.int k' b)=if 0≤b then some (.int k (a.fdiv (2^(min b.toNat k.bits)))) else none) ∧
  (∀ k a b,b8 .eql (.int k a) (.int k b)=some (.bool (a==b)))∧(∀ k a b,b8 .neq (.int k a) (.int k b)=some (.bool (a != b)))∧(∀ k a b,b8 .lss (.int k a) (.int k b)=some (.bool (decide (a<b))))∧(∀ k a b,b8 .leq (.int k a) (.int k b)=some (.bool (decide (a≤b)))) ∧
  (∀ k a b,b8 .gtr (.int k a) (.int k b)=some (.bool (decide (b<a))))∧(∀ k a b,b8 .geq (.int k a) (.int k b)=some (.bool (decide (b≤a)))) :=
 ⟨LD,LV,LM,LQ,LR,LF,LP,LW,LG,LS,LU,LH,LN,LL,LK,LJ,LI⟩
end Go.Abs
namespace Go.Abs
open Go Go.RowKit
open Enc (enc)
section
variable {α:Type} [Enc α]
theorem ad8(A:af)(l:List α):kV A (enc l)=some (.int .i64 l.length):=by simp[hG,kV]
theorem adq{A:af}(esz:Nat){k:Int}{l:List α}(h:0≤k∧k.toNat<l.length)(hs:Enc.sz α=esz):jY A esz k (enc l)=some (.ref (enc l[k.toNat])):=by
 simp only[hG,jY,hs,zz3,true_and];rw[if_pos ⟨h.1,by omega⟩];simp[h.2]
theorem gB{A:af}(esz:Nat){k:Nat}{l:List α}(h:k<l.length)(hs:Enc.sz α=esz):jY A esz k (enc l)=some (.ref (enc l[k])):=by
 have:=adq (A:=A) esz (k:=(k:Int)) (l:=l) ⟨by omega,by simpa using h⟩ hs;simpa using this
theorem bd.lt{α:Type}{n:Nat}(x:bd n α){k:Nat}(h:k<n):k<x.l.length:=by rw[x.h];exact h
def bd.at{n:Nat}(x:bd n α)(k:Nat)(d:α):α:=x.l.getD k d
theorem ah3{n:Nat}(esz:Nat){k:Int}{x:bd n α}(h:0≤k∧k.toNat<n)(hs:Enc.sz α=esz):gN k n (qH n esz k (some (x.l.map enc)))=some (.ref (enc (x.l[k.toNat]'(x.lt h.2)))):=by
 have hl:=x.lt h.2;simp only[gN,qH,jl,sw n esz x.l x.h hs,if_true];rw[if_pos ⟨h.1,by omega⟩];simp[hl]
theorem adi{n m:Nat}(esz:Nat){p:List Nat}{k:Int}{x:bd n α}(h:0≤k∧k.toNat<n)(hs:Enc.sz α=esz):gN k n (lF n esz m p k (some (x.l.map enc)))=some (.ptr m (p++[k.toNat])):=by
 simp only[gN,lF,jl,sw n esz x.l x.h hs,if_true];rw[if_pos ⟨h.1,by omega⟩]
theorem vh{n:Nat}(esz:Nat){k:Int}(x:bd n α){y:Option I}(h:0≤k∧k<n)(hs:Enc.sz α=esz):gN k n (jl n esz (x.l.map enc) y)=y:=by
 simp only[gN,jl,sw n esz x.l x.h hs,if_true];rw[if_pos h]
theorem E5{n k:Nat}(x:bd n α)(h:k<n):(x.l.map enc)[k]?=some (enc (x.l[k]'(x.lt h))):=by
 simp[x.lt h]
theorem yZ{n:Nat}(esz:Nat){s:Option Nat}{k:Int}{x:bd n α}(h:0≤k∧k.toNat<n)(hs:Enc.sz α=esz):ov n esz s k (some (x.l.map enc))=gS s (some (enc (x.l[k.toNat]'(x.lt h.2)))):=by
 have hl:=x.lt h.2;simp only[ov,gN,jl,sw n esz x.l x.h hs,if_true];rw[if_pos ⟨h.1,by omega⟩];simp[hl]
theorem o8{n k:Nat}{p:List Nat}{x:bd n α}(h:k<n):iv k p (some (x.l.map enc))=(enc (x.l[k]'(x.lt h))).at p:=by
 have hl:=x.lt h;simp[iv,od,hl]
theorem aft(k:IntKind)(n:Int):gS none (some (.int k n))=some (.int k n):=by simp[gS,oC,bS,I.isAgg]
theorem afr(b:Bool):gS none (some (.bool b))=some (.bool b):=by simp[gS,oC,bS,I.isAgg]
theorem afu(z:Nat)(es:List I):gS none (some (.slice z es))=some (.slice z es):=by simp[gS,oC,bS,I.isAgg]
theorem afs(f:FuncId)(es:List I):gS none (some (.func f es))=some (.func f es):=by simp[gS,oC,bS,I.isAgg]
end
mutual
/-- What every value in memory keeps to: whole numbers within their kind,slices no longer than a slice can be. -/
def I.wf:I→Prop
 | .agg fs=>I.gr fs
 | .int k n=>k.min≤n∧n≤k.max
 | .ak s=>s.size≤maxLen
 | .slice _ es=>es.length≤maxLen∧I.gr es
 | .ref c=>c.wf
 | .func _ caps=>I.gr caps
 | .iface _ v=>v.wf
 |_=>True
def I.gr:List I→Prop
 | []=>True
 |x::xs=>x.wf∧I.gr xs
end
mutual
theorem wk{w:World}{D:aO}{E:aU} : ∀ (x:I) (cs:List Value),ai w D E x cs→x.wf
 | .agg fs,cs,h=>by simp only[ai,I.wf] at *;exact zY fs cs h
 | .int k n,cs,h=>by simp only[ai,I.wf] at *;exact h.2
 | .ak s,cs,h=>by simp only[ai,I.wf] at *;exact h.2
 | .slice sz es,cs,h=>by
  simp only[ai,I.wf] at *;obtain ⟨a,cap,_,h1,h2,h3,_⟩:=h;refine ⟨by omega,?_⟩;rcases h3 with rfl | ⟨b,off,cs',_,_,h4⟩
  ·simp[I.gr]
  ·exact zY es cs' h4
 | .ref c,cs,h=>by simp only[ai,I.wf] at *;obtain ⟨b,off,cs',_,_,h⟩:=h;exact wk c cs' h
 | .func f caps,cs,h=>by simp only[ai,I.wf] at *;obtain ⟨vs,_,h⟩:=h;exact rE caps vs h
 | .iface t v,cs,h=>by simp only[ai,I.wf] at *;obtain ⟨u,cs',_,_,h⟩:=h;exact wk v cs' h
 | .bool _,_,_ | .nilp,_,_ | .dO,_,_ | .dh,_,_ | .any,_,_ | .raw _,_,_ | .nils _,_,_ | .c0 _,_,_ | .ptr _ _,_,_ | .own _ _,_,_ | .view _ _ _ _ _,_,_ | .mref _,_,_ | .dx _,_,_ | .dA _ _,_,_ | .undef,_,_ | .dv,_,_ | .tuple _,_,_=>by simp[I.wf]
theorem zY{w:World}{D:aO}{E:aU} : ∀ (xs:List I) (cs:List Value),aK w D E xs cs→I.gr xs
 | [],_,_=>by simp[I.gr]
 |x::xs,cs,h=>by
  simp only[aK,I.gr] at *;obtain ⟨c1,c2,_,h1,h2⟩:=h;exact ⟨wk x c1 h1,zY xs c2 h2⟩
theorem rE{w:World}{D:aO}{E:aU} : ∀ (xs:List I) (vs:List Value),aD w D E xs vs→I.gr xs
 | [],_,_=>by simp[I.gr]
 |x::xs,vs,h=>by
  simp only[aD,I.gr] at *;obtain ⟨v,rest,cs,_,_,h1,h2⟩:=h;exact ⟨wk x cs h1,rE xs rest h2⟩
end
theorem ahH{α:Type}[Enc α](l:List α):I.gr (l.map enc)↔∀ x∈l,(enc x:I).wf:=by
 induction l with
 |nil=>simp[I.gr]
 |cons x l ih=>simp[I.gr,ih]
theorem wX{α:Type}[Enc α](l:List α):(enc l:I).wf↔l.length≤maxLen∧∀ x∈l,(enc x:I).wf:=by
 simp only[hG,I.wf,zz3,ahH]
theorem JR(n:Int):(enc n:I).wf↔-9223372036854775808≤n∧n≤9223372036854775807:=by
 change IntKind.i64.min≤n∧n≤IntKind.i64.max↔_
 simp[IntKind.min,IntKind.max,IntKind.bits,IntKind.signed]
theorem aP.wf{P:Program}{f:FuncId}{args:List I}{r:I}(hc:eV P f=true)(h:I.gr args→aP P f args r):aP P f args r :=
 ⟨hc,fun w D vs hl h1 h2=>(h (rE _ _ h2)).2 w D vs hl h1 h2⟩
theorem aP.bM{P:Program}{f:FuncId}{fn:Func}{x:bn}{rs:List bu}{args:List I}{r:I}(hf:P.funcs[f]?=some fn)(hcall:eV P f=true)(hc:(fn.body.bind (eU P fn.ntmps))=some x)
  (hrs:iw P fn.results.toList=some rs) (hn:args.length≤fn.ntmps) (h:I.gr args→∀ (w:World) (D:aO) (E:aU),ab ⟨P,w,D,fn.ntmps,cu E,E,fS,none,none⟩ x (lR rs r) (aC (bC 0 args) [])):aP P f args r :=
 aP.wf hcall fun hw=>aP.mk hf hcall hc hrs hn (h hw)
theorem kD{α:Type}[Enc α] :
  (∀ A (l:List α),kV A (enc l)=some (.int .i64 l.length))∧(∀ n (x:bd n α),(enc x).dC=some (x.l.map enc)) :=
 ⟨ad8,fun _ _=>rfl⟩
theorem lN:(∀ k n,gS none (some (.int k n))=some (.int k n))∧(∀ b,gS none (some (.bool b))=some (.bool b))∧(∀ z es,gS none (some (.slice z es))=some (.slice z es))∧(∀ f es,gS none (some (.func f es))=some (.func f es)) :=
 ⟨aft,afr,afu,afs⟩
end Go.Abs
namespace Go.Abs
open Go Go.RowKit
open Enc (enc)
def qW(neg:Bool):I→Option I
 | .nils _=>some (.bool (!neg))
 | .slice _ es=>if es.isEmpty then none else some (.bool neg)
 | .view _ _ _ _ _=>some (.bool neg)
 |_=>none
def oy:I→Option I
 | .ak s=>some (.int .i64 s.size)
 |_=>none
open Classical in
noncomputable def nP(n:Nat)(p:List Nat)(sz l0 k esz:Nat)(lo hi mx:Option I):Option (List I)→Option I
 |some fs=>if sz=esz then ka n p sz l0 k fs.length lo hi mx else none
 |none=>none
noncomputable def j9(A:af)(esz:Nat)(lo hi mx:Option I):I→Option I
 | .slice sz es=>if sz=esz then jO sz es lo hi mx else none
 | .nils sz=>if sz=esz then jO sz [] lo hi mx else none
 | .c0 sz=>if sz=esz then jO sz [] lo hi mx else none
 | .view n p sz l0 k=>nP n p sz l0 k esz lo hi mx (eC (dM p (A.o n)))
 |_=>none
open Classical in
noncomputable def iO(esz:Nat):Option (List I)→Option I
 |some es=>if (es.all fun e=>e.size==esz)=true∧I.cG es=true then some (.slice esz es) else none
 |none=>none
open Classical in
noncomputable def r9(A:af)(d:Option Nat)(e esz bytes n l T sz':Nat)(es:List I)(rest:List aF):I→cD
 | .slice sz ys=>if zx e esz bytes l sz ys T sz' es then au rest ((A.aM n (.b6 e esz (es++ys))).aR d (.own n (es.length+ys.length))) else .fail
 |_=>.fail
open Classical in
noncomputable def xn(A:af)(d:Option Nat)(e esz bytes:Nat)(z:I)(n l T:Nat)(xs:List Int)(rest:List aF):I→cD
 | .slice _ ys=>if zy e esz bytes l ys T xs z then au rest ((A.aM n (.eN e (xs++sM ys))).aR d (.own n (xs.length+ys.length))) else .fail
 |_=>.fail
noncomputable def r8(A:af)(d:Option Nat)(e esz bytes:Nat)(z:I)(n l:Nat)(x:I)(rest:List aF):Option al→cD
 |some (.b6 T sz' es)=>r9 A d e esz bytes n l T sz' es rest x
 |some (.eN T xs)=>xn A d e esz bytes z n l T xs rest x
 |_=>.fail
noncomputable def eT(A:af)(d:Option Nat)(e esz bytes:Nat)(z x:I)(rest:List aF):I→cD
 | .own n l=>r8 A d e esz bytes z n l x rest (A.o n)
 |s=>eI A d esz bytes z s (du A esz s) (du A esz x) (au rest)
section
variable (d:Option Nat) (rest:List aF) (A:af)
noncomputable def qX(neg:Bool)(x:I):Bool→cD
 |true=>.any (fun m=>m<2) (fun m=>au rest (A.aR d (.bool (m==0))))
 |false=>cL (qW neg x) (c6 d rest A)
theorem afb(neg:Bool)(x:aJ):bx A d (.nilS neg x) rest=qX d rest A neg (aj A x) (kC (aj A x)):=by
 simp only[bx,aX,bf];cases kC (aj A x)
 ·simp only[zy0,if_false,qX,qW];cases aj A x <;>rfl
 ·rfl
theorem ae3(x:aJ):bx A d (.lenT x) rest=cL (oy (aj A x)) (c6 d rest A):=by
 simp only[bx,aX,bf];cases aj A x <;>rfl
theorem afg(esz:Nat)(x:aJ)(lo hi mx:Option aJ):bx A d (.sl esz x lo hi mx) rest=cL (j9 A esz (lo.map (aj A)) (hi.map (aj A)) (mx.map (aj A)) (aj A x)) (c6 d rest A):=by
 simp only[bx,aX,bf];cases aj A x <;>try rfl
 rename_i n p sz l0 k;simp only[j9,ly,gJ];cases dM p (A.o n) with
 |none=>rfl
 |some c=>cases c <;>simp only[eC,I.dC,nP] <;>(first | rfl | (split <;>rfl))
theorem aeN(T esz:Nat)(ps:List aJ):bx A d (.bs T esz ps) rest=cL (iO esz (bO false A (ps.map (aj A)))) (c6 d rest A):=by
 simp only[bx,aX,bf];cases bO false A (ps.map (aj A)) <;>simp only[iO] <;>rfl
theorem aeI(e esz bytes:Nat)(z:I)(s x:aJ):bx A d (.eB e esz bytes z s x) rest=eT A d e esz bytes z (aj A x) rest (aj A s):=by
 simp only[bx,aX];generalize aj A s=s';generalize aj A x=x';cases s' <;>simp only[eT]
 rename_i n l;cases x' <;>simp only <;>generalize A.o n=z <;>(cases z with
  |none=>rfl
  |some y=>cases y <;>simp only[r8,r9,xn])
end
theorem GU :
  (∀ d rest A neg x,bx A d (.nilS neg x) rest=qX d rest A neg (aj A x) (kC (aj A x)))∧(∀ d rest A neg x,qX d rest A neg x false=cL (qW neg x) (c6 d rest A))∧(∀ z,kC (.nils z)=false)∧(∀ n p sz lo k,kC (.view n p sz lo k)=false)∧(∀ d rest A x,bx A d (.lenT x) rest=cL (oy (aj A x)) (c6 d rest A)) ∧
  (∀ d rest A esz x lo hi mx,bx A d (.sl esz x lo hi mx) rest=cL (j9 A esz (lo.map (aj A)) (hi.map (aj A)) (mx.map (aj A)) (aj A x)) (c6 d rest A)) ∧
  (∀ d rest A T esz ps,bx A d (.bs T esz ps) rest=cL (iO esz (bO false A (ps.map (aj A)))) (c6 d rest A))∧(∀ d rest A e esz bytes z s x,bx A d (.eB e esz bytes z s x) rest=eT A d e esz bytes z (aj A x) rest (aj A s)) ∧
  (∀ A d e esz bytes z x rest n l,eT A d e esz bytes z x rest (.own n l)=r8 A d e esz bytes z n l x rest (A.o n))∧(∀ A d e esz bytes z n l x rest T sz es,r8 A d e esz bytes z n l x rest (some (.b6 T sz es))=r9 A d e esz bytes n l T sz es rest x)∧(∀ A d e esz bytes z n l x rest T xs,r8 A d e esz bytes z n l x rest (some (.eN T xs))=xn A d e esz bytes z n l T xs rest x) ∧
  (∀ neg z,qW neg (.nils z)=some (.bool (!neg))) :=
 ⟨afb,fun _ _ _ _ _=>rfl,fun _=>rfl,fun _ _ _ _ _=>rfl,ae3,afg,aeN,aeI,fun _ _ _ _ _ _ _ _ _ _=>rfl,fun _ _ _ _ _ _ _ _ _ _ _ _ _=>rfl,fun _ _ _ _ _ _ _ _ _ _ _ _=>rfl,fun _ _=>rfl⟩
theorem afz(p:Nat→Bool)(xs ys:List I):I.bY p (xs++ys)=(I.bY p xs&&I.bY p ys):=by
 induction xs with
 |nil=>simp[I.bY]
 |cons x xs ih=>simp[I.bY,ih,Bool.and_assoc]
section
variable {α:Type} [Enc α]
theorem Li{A:af}{d:Option Nat}(e:Nat)(esz bytes n:Nat){l:Nat}{es ys:List α}{rest:List aF}(hl:l=es.length)(hs:Enc.sz α=esz)(hy:ys≠[])(h1:es.length+ys.length≤maxLen)(h2:(es.length+ys.length)*bytes≤140737488355328) :
  r9 A d e esz bytes n l e esz (es.map enc) rest (enc ys)=au rest ((A.aM n (.b6 e esz ((es++ys).map enc))).aR d (.own n (es++ys).length)):=by
 simp only[hG,r9];rw[if_pos ⟨by simpa using hl,hs,rfl,rfl,by simpa using hy,by simpa using h1,by simpa using h2⟩];simp
theorem xB(esz:Nat){ys:List α}(hs:Enc.sz α=esz):iO esz (some (ys.map enc))=some (enc ys):=by
 have h1:((ys.map enc).all fun e:I=>e.size==esz)=true:=by
  simp only[zx1,zx4];rintro x ⟨y,_,rfl⟩;simp[Enc.size,hs]
 simp only[iO,hG];rw[if_pos ⟨h1,qu ys⟩,hs]
theorem si(esz:Nat)(y:α)(hs:Enc.sz α=esz):iO esz (some [enc y])=some (enc [y]):=xB (ys:=[y]) esz hs
theorem uT(sz:Nat){T k:Nat}{es:List α}(hk:k=es.length)(hs:Enc.sz α=sz):nh k (some (.b6 T sz (es.map enc)))=some (enc es):=by
 simp only[nh,zz3];rw[if_pos ⟨hk,qu es⟩,hG,hs]
theorem oE(p:Nat→Bool)(l:List α):I.bY p (l.map enc)=true:=by
 induction l with
 |nil=>rfl
 |cons x l ih=>simp only[zz9,I.bY,bg,ih,Bool.and_self]
end
theorem Ft :
  (∀ n:Int,iO 1 (some [.int .i64 n])=some (enc [n]))∧(∀ (T:Nat) (es:List Int),nh es.length (some (.b6 T 1 (es.map enc)))=some (enc es)) :=
 ⟨fun n=>si 1 n rfl,fun _ _=>uT 1 rfl rfl⟩
def bd.g{n:Nat}(x:bd n Int)(k:Nat):Int:=x.l.getD k 0
theorem bd.u5{n k:Nat}(x:bd n Int)(h:k<n):x.l[k]'(x.lt h)=x.g k:=by simp[bd.g,x.lt h]
theorem mb{n k:Nat}{p:List Nat}(x:bd n Int)(h:k<n):iv k p (some (x.l.map enc))=(I.int .i64 (x.g k)).at p:=by
 rw[o8 h,x.u5 h];rfl
theorem yN{n k:Nat}(x:bd n Int)(h:k<n):(x.l.map (enc (α:=Int)))[k]?=some (I.int .i64 (x.g k)):=by
 rw[E5 x h,x.u5 h];rfl
theorem GF:(∀ k n,bS none (.int k n)=true)∧(∀ b,bS none (.bool b)=true)∧(∀ z es,bS none (.slice z es)=true)∧(∀ f es,bS none (.func f es)=true)∧(∀ z,bS none (.nils z)=true)∧(∀ n k,bS none (.own n k)=true) :=
 ⟨fun _ _=>rfl,fun _=>rfl,fun _ _=>rfl,fun _ _=>rfl,fun _=>rfl,fun _ _=>rfl⟩
theorem aZ:(type_of% @BB)∧(type_of% @GS)∧(type_of% @GU)∧(type_of% @Ft)∧(type_of% @GF)∧(type_of% @JO)∧(type_of% @Ej)∧(type_of% @BU)∧(∀ n:Int,(enc n:I)=.int .i64 n)∧(∀ n:Bool,(enc n:I)=.bool n) ∧
  (∀ {α β:Type} (f:α→β) (x:α) (xs:List α),List.map f (x::xs)=f x::List.map f xs)∧(∀ {α β:Type} (f:α→β),List.map f []=[])∧(∀ {α:Type} (xs:List α),[]++xs=xs)∧(∀ n:Nat,(n:Int).toNat=n)∧(∀ {α β:Type} (f:α→β) (x:α),Option.map f (some x)=some (f x)) ∧
  (∀ n:Nat,0≤(n:Int))∧((!true)=false)∧((!false)=true)∧((false=true)=False)∧((true=false)=False) :=
 ⟨@BB,@GS,@GU,@Ft,@GF,@JO,@Ej,@BU,x9,R4,fun _ _ _=>rfl,fun _=>rfl,fun _=>rfl,fun _=>rfl,fun _ _=>rfl,fun n=>Int.natCast_nonneg n,rfl,rfl,by simp,by simp⟩
end Go.Abs
namespace Go.Abs
open Go Go.RowKit
open Enc (enc)
theorem kF.bM{P:Program}{f:FuncId}{fn:Func}{x:bn}{rs:List bu}{Y:Value→List I→List (Nat×al)→cv→Prop}{args:List I}{os:List (Nat×al)}{post:cv}(hf:P.funcs[f]?=some fn)(hcall:eV P f=true)(hc:(fn.body.bind (eU P fn.ntmps))=some x)
  (hrs:iw P fn.results.toList=some rs) (hn:args.length≤fn.ntmps) (hn2:fn.ntmps≤1000000) (hos:∀ m,ay os m=true→1000000≤m) (h:I.gr args→∀ (w:World) (D:aO) (E:aU),ab ⟨P,w,D,fn.ntmps,cu E,E,Y,none,none⟩ x (pK rs post) (aC (bC 0 args) os)):kF P f Y args os post:=by
 obtain ⟨body,hb,hc'⟩:=zu1.1 hc;refine ⟨hcall,fun w D E vs hy hD ho ae =>?_⟩;exact (kF.vW hf hb hcall hc' hrs hn (fun m hm=>⟨Nat.le_trans hn2 (hos m hm),hos m hm⟩) (fun w D E=>(h (rE _ _ ae) w D E).sub (wQ args os))).2 w D E vs hy hD ho ae
theorem ep.bM{P:Program}{f:FuncId}{fn:Func}{x:bn}{rs:List bu}{args:List I}{os:List (Nat×al)}{post:cv}(hf:P.funcs[f]?=some fn)(hcall:eV P f=true)(hc:(fn.body.bind (eU P fn.ntmps))=some x)
  (hrs:iw P fn.results.toList=some rs) (hn:args.length≤fn.ntmps) (hn2:fn.ntmps≤1000000) (hos:∀ m,ay os m=true→1000000≤m) (h:I.gr args→∀ (w:World) (D:aO) (E:aU),ab ⟨P,w,D,fn.ntmps,cu E,E,fS,none,none⟩ x (pK rs post) (aC (bC 0 args) os)):ep P f args os post :=
 ep.Gt (kF.bM hf hcall hc hrs hn hn2 hos h)
theorem yT{A:af} : ∀ n x,aq [] n=some x→A.o n=some x∧x.only (ay [])=true∧x.fm=true:=fun n x h=>by simp[aq] at h
theorem km{A:af}{k:Nat}{c:I}(h1:A.o k=some (.box c))(h2:∀ p,c.only p=true):∀ n x,aq [(k,.box c)] n=some x→A.o n=some x∧x.only (ay [(k,.box c)])=true∧x.fm=true:=fun n x h=>by
 simp only[aq] at h;split at h
 ·rename_i hn;subst hn;simp only[v6] at h;subst h;exact ⟨h1,h2 _,rfl⟩
 ·cases h
theorem dG.nil{aG:Bool}{ρ:List (Nat×Nat)}{os0:List (Nat×al)}{r:I}(h1:∀ p,r.only p=true)(h2:aG=true→r.dI=true):dG aG ρ [] os0 r [] :=
 ⟨fun m x h=>by simp[aq] at h,fun m m' h=>by simp[ay,aq] at h,fun m h=>by simp[ay,aq] at h,fun m h=>by simp[ay,aq] at h,h1 _,h2⟩
theorem ee{k:Nat}{x:al}{m:Nat} : ay [(k,x)] m=true↔m=k:=by
 simp only[ay,aq];split <;>simp_all
theorem dG.qV{aG:Bool}{k d:Nat}{os0:List (Nat×al)}{r c:I}(h1:∀ p,c.only p=true)(h2:aG=true→c.dI=true)(h3:r.only (ay [(k,.box c)])=true)(h4:aG=true→r.dI=true)(h5:aq os0 d=none)(h6:d<1000000):dG aG [(k,d)] [] os0 r [(k,.box c)]:=by
 refine ⟨fun m x h =>?_,fun m m' h h' _ =>?_,fun m h=>by simp[ay,aq] at h,fun m h _ =>?_,h3,h4⟩
 ·simp only[aq] at h;split at h
  ·simp only[v6] at h;subst h;exact ⟨h1 _,rfl,h2⟩
  ·cases h
 ·rw[ee.1 h,ee.1 h']
 ·rw[ee.1 h];simp[bp,h5,h6]
theorem dG.one{aG:Bool}{k d:Nat}{x:al}{os0:List (Nat×al)}{r c:I}(h1:∀ p,c.only p=true)(h2:aG=true→c.dI=true)(h3:r.only (ay [(k,.box c)])=true)(h4:aG=true→r.dI=true):dG aG [(k,d)] [(k,x)] os0 r [(k,.box c)]:=by
 refine ⟨fun m x h =>?_,fun m m' h h' _ =>?_,fun m h =>?_,fun m h h' =>?_,h3,h4⟩
 ·simp only[aq] at h;split at h
  ·simp only[v6] at h;subst h;exact ⟨h1 _,rfl,h2⟩
  ·cases h
 ·rw[ee.1 h,ee.1 h']
 ·rw[ee.1 h];exact ee.2 rfl
 ·rw[ee.1 h] at h';have:ay [(k,x)] k=true:=ee.2 rfl;rw[this] at h';cases h'
theorem fj.nil{ρ:List (Nat×Nat)}{os0:List (Nat×al)} : fj ρ [] os0:=⟨fun m x h=>by simp[aq] at h,fun m m' h=>by simp[ay,aq] at h⟩
mutual
theorem rp(ρ:Nat→Nat):∀ x:I,x.bF=true→x.aQ ρ=x
 | .agg fs,h=>by simp only[I.aQ,I.bF] at *;rw[pI ρ fs h]
 | .slice _ es,h=>by simp only[I.aQ,I.bF] at *;rw[pI ρ es h]
 | .ref x,h=>by simp only[I.aQ,I.bF] at *;rw[rp ρ x h]
 | .func _ caps,h=>by simp only[I.aQ,I.bF] at *;rw[pI ρ caps h]
 | .iface _ v,h=>by simp only[I.aQ,I.bF] at *;rw[rp ρ v h]
 | .bool _,_ | .int _ _,_ | .ak _,_ | .nilp,_ | .dO,_ | .dh,_ | .any,_ | .raw _,_ | .nils _,_ | .c0 _,_=>by simp only[I.aQ]
 | .dA ks vs,h=>by simp only[I.aQ,I.bF,zz0] at *;rw[pI ρ ks h.1,pI ρ vs h.2]
 | .ptr _ _,h | .own _ _,h | .view _ _ _ _ _,h | .mref _,h | .dx _,h | .undef,h | .dv,h | .tuple _,h=>by simp[I.bF] at h
theorem pI(ρ:Nat→Nat):∀ xs:List I,I.cG xs=true→I.dq ρ xs=xs
 | [],_=>rfl
 |x::xs,h=>by
  simp only[I.cG,zz0] at h;simp only[I.dq,rp ρ x h.1,pI ρ xs h.2]
end
theorem iH :
  (∀ (k:IntKind) n (ρ:Nat→Nat),(I.int k n).aQ ρ=.int k n)∧(∀ (b:Bool) (ρ:Nat→Nat),(I.bool b).aQ ρ=.bool b)∧(∀ n p (ρ:Nat→Nat),(I.ptr n p).aQ ρ=.ptr (ρ n) p) ∧
  (∀ n p sz lo k (ρ:Nat→Nat),(I.view n p sz lo k).aQ ρ=.view (ρ n) p sz lo k)∧(∀ fs (ρ:Nat→Nat),(I.agg fs).aQ ρ=.agg (I.dq ρ fs))∧(∀ fs (ρ:Nat→Nat),(I.tuple fs).aQ ρ=.tuple (I.dq ρ fs))∧(∀ f fs (ρ:Nat→Nat),(I.func f fs).aQ ρ=.func f (I.dq ρ fs)) ∧
  (∀ ρ:Nat→Nat,I.dq ρ []=[])∧(∀ (ρ:Nat→Nat) x xs,I.dq ρ (x::xs)=x.aQ ρ::I.dq ρ xs)∧(∀ (ρ:Nat→Nat) (x:I),(al.box x).aQ ρ=.box (x.aQ ρ)) ∧
  (∀ (z:Nat) (ρ:Nat→Nat),(I.nils z).aQ ρ=.nils z)∧(∀ (z:Nat) (ρ:Nat→Nat),(I.c0 z).aQ ρ=.c0 z) ∧
  (∀ n,bp [] n=n)∧(∀ a b r n,bp ((a,b)::r) n=if n=a then b else bp r n)∧(∀ ρ,dp ρ []=[])∧(∀ ρ k x os,dp ρ ((k,x)::os)=(bp ρ k,x.aQ (bp ρ))::dp ρ os) :=
 ⟨fun _ _ _=>by simp only[I.aQ],fun _ _=>by simp only[I.aQ],fun _ _ _=>by simp only[I.aQ],fun _ _ _ _ _ _=>by simp only[I.aQ],fun _ _=>by simp only[I.aQ],fun _ _=>by simp only[I.aQ],fun _ _ _=>by simp only[I.aQ],
  fun _=>rfl,fun _ _ _=>by simp only[I.dq],fun _ _=>rfl,fun _ _=>by simp only[I.aQ],fun _ _=>by simp only[I.aQ],fun _=>rfl,fun _ _ _ _=>rfl,fun _=>rfl,fun _ _ _ _=>rfl⟩
section
variable {α:Type} [Enc α]
theorem gz(ρ:Nat→Nat)(x:α):(enc x).aQ ρ=enc x:=rp ρ _ (iR x)
theorem jt(ρ:Nat→Nat)(l:List α):I.dq ρ (l.map enc)=l.map enc:=pI ρ _ (qu l)
theorem jR(A:af)(esz:Nat)(l:List α)(hs:Enc.sz α=esz):du A esz (enc l)=some (l.map enc):=by
 simp only[hG,du,hs,if_true]
theorem wT(l:List α):kC (enc l)=l.isEmpty:=by
 simp only[hG,kC];cases l <;>rfl
theorem Gj(neg:Bool)(l:List α)(h:l≠[]):qW neg (enc l)=some (.bool neg):=by
 simp only[hG,qW];cases l with
 |nil=>exact absurd rfl h
 |cons=>rfl
section
variable {P:Program} {Y:Value→List I→List (Nat×al)→cv→Prop} {K:af→Prop} {A:af} {rest:List aF} {d:Nat} {e esz bytes:Nat} {q:Nat}
theorem aY.xp(z:α){l:List α}(hs:Enc.sz α=esz)(hl:l≠[])(hf:A.o d=none)(hb:l.length*bytes≤140737488355328)(hml:l.length≤maxLen)
  (h:∀ m,aY P Y false K (au rest ((A.aM d (.box (.agg ((l++List.replicate m z).map enc)))).aR (some d) (.view d [] esz 0 l.length)))):aY P Y false K (eT A (some d) e esz bytes (enc z) (enc l) rest (.c0 q)):=by
 have hne:l.map (enc (α:=α))≠[]:=by simpa using hl
 have h1:du A esz (.c0 q)=some []:=rfl;simp only[eT,h1,jR A esz l hs,eI,if_neg hne,fE,hf,zv1,zz4,zz3,if_pos (y6 hb hml),zy3];refine .any rfl fun m _ =>?_;have:=h m;simp only[zw3,List.map_replicate] at this;exact this
theorem Ll(z:I)(hs:Enc.sz α=esz):eT A (some d) e esz bytes z (enc ([]:List α)) rest (.c0 q)=au rest (A.aR (some d) (.c0 q)):=by
 have h1:du A esz (.c0 q)=some []:=rfl;simp only[eT,h1,jR A esz ([]:List α) hs,eI,zy9,if_true]
theorem aeR(esz:Nat)(z:I)(x:aJ)(rest:List aF)(A:af):bx A none (.kh esz z x) rest=og A esz z (au rest) (aj A x):=rfl
theorem ag7(z:α)(k:Nat):I.cB (List.replicate k (enc z))=List.replicate k (Enc.aN α):=by
 have:List.replicate k (enc z)=(List.replicate k z).map (enc (α:=α)):=by simp
 rw[this,rH];simp
theorem Pq(z:α){n lo k:Nat}{xs:List α}(ho:A.o n=some (.box (.agg (xs.map enc))))(hk:lo+k≤xs.length) :
  og A esz (enc z) (au rest) (.view n [] esz lo k)=au rest (A.aM n (.box (.agg ((xs.take lo++(List.replicate k z++xs.drop (lo+k))).map enc)))):=by
 have h1:I.cB (List.replicate k (enc z))=I.cB (((xs.map (enc (α:=α))).drop lo).take k):=by
  rw[ag7,←List.map_drop,←List.map_take,rH,zz6,zv3]
  congr 1;omega
 have h2:(I.agg (xs.map (enc (α:=α)))).at []=some (.agg (xs.map enc)):=rfl;simp only[og,ho,h2];rw[if_pos ⟨rfl,h1⟩];simp only[jd,ez,zw3,List.map_take,List.map_drop,List.map_replicate,List.length_replicate]
theorem wI{n:Nat}{p:List Nat}{sz k total i:Nat}(h:i≤total)(h0:0<total):ka n p sz 0 k total none (some (.int .i64 i)) none=some (.view n p sz 0 i):=by
 simp only[ka,jj];rw[if_pos ⟨by omega,by omega,by omega⟩,if_neg (by omega)];simp
theorem nQ{n:Nat}{p:List Nat}{sz k total i:Nat}(h:i≤k)(hk:k≤total)(h0:i<total):ka n p sz 0 k total (some (.int .i64 i)) none none=some (.view n p sz i (k-i)):=by
 simp only[ka,jj];rw[if_pos ⟨by omega,by omega,by omega⟩,if_neg (by omega)];simp
theorem adu{m:Nat}{p:List Nat}{sz lo l j:Nat}{fs:List I}(h:j<l):mw m p sz lo l sz (j:Int) (some fs)=some (.ptr m (p++[lo+j])):=by
 simp only[mw,true_and];rw[if_pos ⟨by omega,by omega⟩];simp
theorem oj{sz k:Nat}{xs:List α}(hs:Enc.sz α=sz):jB sz 0 k (some (xs.map enc))=some (enc (xs.take k)):=by
 have h:((xs.map (enc (α:=α))).drop 0).take k=(xs.take k).map enc:=by rw[List.drop_zero,List.map_take]
 simp only[jB,h];rw[if_pos (qu _),hG,hs]
end
end
theorem vp(A:af)(esz m:Nat)(p:List Nat)(sz lo l:Nat)(k:Int):jY A esz k (.view m p sz lo l)=mw m p sz lo l esz k (eC (dM p (A.o m))):=rfl
theorem sV(A:af)(m:Nat)(p:List Nat)(sz lo l:Nat):kV A (.view m p sz lo l)=some (.int .i64 l):=rfl
theorem As(A:af)(esz:Nat)(lo hi mx:Option I)(n:Nat)(p:List Nat)(l0 k:Nat):j9 A esz lo hi mx (.view n p esz l0 k)=nP n p esz l0 k esz lo hi mx (eC (dM p (A.o n))):=rfl
theorem Au(n:Nat)(p:List Nat)(sz l0 k:Nat)(lo hi mx:Option I)(fs:List I):nP n p sz l0 k sz lo hi mx (some fs)=ka n p sz l0 k fs.length lo hi mx:=by simp[nP]
theorem fM :
  (∀ A esz m p sz lo l k,jY A esz k (.view m p sz lo l)=mw m p sz lo l esz k (eC (dM p (A.o m))))∧(∀ A m p sz lo l,kV A (.view m p sz lo l)=some (.int .i64 l)) ∧
  (∀ A esz lo hi mx n p l0 k,j9 A esz lo hi mx (.view n p esz l0 k)=nP n p esz l0 k esz lo hi mx (eC (dM p (A.o n))))∧(∀ n p sz l0 k lo hi mx fs,nP n p sz l0 k sz lo hi mx (some fs)=ka n p sz l0 k fs.length lo hi mx) ∧
  (∀ esz z x rest A,bx A none (.kh esz z x) rest=og A esz z (au rest) (aj A x))∧(∀ rest A d esz,bx A d (.bs0 esz) rest=au rest (A.aR d (.c0 esz))) :=
 ⟨vp,sV,As,Au,aeR,fun _ _ _ _=>rfl⟩
theorem ky(rs:List bu)(post:cv)(A:af):pK rs post .ret A=ke rs post A:=rfl
theorem agA(rs:List bu)(post:cv)(A:af):pK rs post .normal A=ke rs post A:=rfl
theorem bt.kQ{ts:List (Nat×I)}{os0:List (Nat×al)}(ns:List Nat)(d:Nat){x y:I}(hd:cE ts d=x)(h:bh true (aC ts (iU ns os0)) x=some y)(ho:bB (fun n => !ns.contains n) (dN ns os0)) :
  bt (aC ts os0) (aC ((d,y)::hU ns ts) (dN ns os0)):=by
 rintro c a w ⟨D,E,hs⟩;obtain ⟨D1,E1,hs1,hw⟩:=hs.freeze ns ho;have hu:en (aC ts (iU ns os0)) (aC ts os0):=fun n z hz=>by
  simp only[aC,qR] at hz ⊢;split at hz
  ·exact hz
  ·cases hz
 have hx:x.cm=true:=by cases x <;>first | rfl | simp[bh] at h
 have ae:=hs.eG d;simp only[aC] at ae;rw[hd] at ae;have h1:aD w D E [x] [a.tmps.getD d undef]:=mM [x] _ (.cons ae .nil) (by intro z hz;simp only[zy7] at hz;subst hz;exact hx);have h2:=ni (E':=E1) hs hu hw [x] [y] _ h1 (by simp only[bO,h]);have h3:aV w D1 E1 y (a.tmps.getD d undef):=by
  simp only[aD] at h2;obtain ⟨v',rest,cs,e,k1,k2,_⟩:=h2;simp only[zx6] at e;obtain ⟨e1,_⟩:=e;rw[e1];exact gD k1 k2
 refine ⟨D1,E1,hs1.sz,hs1.fg,fun t =>?_,hs1.dX,hs1.df,hs1.dy,hs1.bG,hs1.cV,hs1.ev,hs1.fu,hs1.cR,hs1.fO,hs1.gq⟩;simp only[aC,cE];split
 ·rename_i ht;subst ht;exact h3
 ·exact hs1.eG t
theorem bt.mr{ts ts':List (Nat×I)}{os0 os':List (Nat×al)}(ns:List Nat)(d:Nat){x y:I}(hd:cE ts d=x)(h:bh true (aC ts (iU ns os0)) x=some y)(ho:bB (fun n => !ns.contains n) (dN ns os0))
  (h1:bT ((d,y)::hU ns ts) ts') (h2:bZ (dN ns os0) os') (h3:bU (ay os') ts') (h4:bB (ay os') os'):bt (aC ts os0) (aC ts' os') :=
 (bt.kQ ns d hd h ho).trans (bt.cF h1 h2 h3 h4)
theorem ab.AR{c:cP}{Q:Exit→af→Prop}{A:af}{x:bn}(T:af)(h1:ab c x (di (fun B=>bt B T) fun _ _=>False) A)(h2:∀ B,bt B T→Q .normal B):ab c x Q A :=
 h1.mono fun e B hq=>by
  cases e <;>simp only[di] at hq <;>first
   |exact h2 B hq
   |exact hq.elim
theorem agc{w:World}{D:aO}{E:aU}{p:List Nat}{c x y:I}{cs:List Value}(hr:ai w D E c cs)(h:c.at p=some x)(hxy:∀ ds,ai w D E x ds→ai w D E y ds)(hs:y.aN=x.aN):ai w D E (c.dR p y) cs∧(c.dR p y).aN=c.aN:=by
 obtain ⟨off,c1,c2,c3,h1,rfl,h2,h3⟩:=zW p c x cs hr h;obtain ⟨off',k1,k2,k3,k4⟩:=wj p c x y _ c2 hr h (hxy c2 h3) hs;rw[h1,v6] at k1;subst k1;refine ⟨?_,k4⟩;have e:(c1++c2++c3).take off++c2++(c1++c2++c3).drop (off+c2.length)=c1++c2++c3:=by
  rw[zz7 c1 c2 c3,←h2,zu8,List.drop_length_add_append,List.drop_left,zz7]
 rw[←e];exact k3
theorem bt.K2{A:af}{m n T sz z:Nat}{p:List Nat}{b:I}(hm:A.o m=some (.box b))(hp:b.at p=some (.nils z))(hn:A.o n=none)(hlt:n<1000000):bt A ((A.aM n (.b6 T sz [])).aM m (.box (b.dR p (.own n 0)))):=by
 rintro c a w ⟨D,E,h⟩;have aE:E n=none:=by have:=h.bG n;rw[hn] at this;exact this
 have hmn:m≠n:=fun e=>by rw[e,hn] at hm;cases hm
 have hl:ej w D E w D (fun m=>if m=n then some (.rw none 0) else E m):=by
  have gf:∀ {m:Nat} {e:bL},E m=some e→(if m=n then some (.rw none 0) else E m)=some e:=fun {m e} he=>by
   have:m≠n:=fun e=>by rw[e,aE] at he;cases he
   rw[if_neg this];exact he
  refine ⟨fun _ _ h=>h,fun _ _ _ _ h=>h,fun m b aN he=>gf he,fun m aL l he =>?_,fun m b he=>gf he,fun m b he=>gf he,fun _ _ _ _ h=>h⟩
  ·have:m≠n:=fun e=>by rw[e,aE] at he;cases he
   exact ⟨aL,l,by simp only[if_neg this];exact he,zy1 _,fun _=>rfl⟩
 refine ⟨D,fun m=>if m=n then some (.rw none 0) else E m,h.sz,h.fg,fun t=>aV.later hl (h.eG t),h.dX,h.df,h.dy,fun k =>?_,fun m m' e e' b h1 h2 h3 h4 =>?_,fun m e hm =>?_,h.fu,h.cR,h.fO,h.gq⟩
 ·simp only[af.aM];by_cases hk:k=m
  ·subst hk;have ho:=h.bG k;rw[hm] at ho;obtain ⟨b',cs,T',h1,h2,h3,h4,h5⟩:=ho;obtain ⟨q1,q2⟩:=agc (y:=.own n 0) (ai.later hl _ _ h4) hp (fun ds hd=>by
    simp only[ai] at hd;subst hd;simp only[ai,if_true];exact ⟨none,0,rfl,zy1 _,⟨_,_,_,rfl⟩,fun _=>trivial⟩) rfl
   simp only[if_true,dc];exact ⟨b',cs,T',by rw[q2];simp only[if_neg hmn];exact h1,h2,h3.aN q2,q1,h5⟩
  ·simp only[if_neg hk];by_cases hkn:k=n
   ·subst hkn;simp only[if_true,dc];exact ⟨none,by simp,by simp,trivial⟩
   ·simp only[if_neg hkn];exact (h.bG k).later hl (by simp only[if_neg hkn]) fun _ _ _ _=>⟨rfl,fun _ ho=>ho⟩
 ·by_cases hm:m=n <;>by_cases hm':m'=n
  ·rw[hm,hm']
  ·simp only[if_pos hm,v6] at h1;subst h1;simp[bL.aL] at h3
  ·simp only[if_pos hm',v6] at h2;subst h2;simp[bL.aL] at h4
  ·simp only[if_neg hm] at h1;simp only[if_neg hm'] at h2;exact h.cV m m' e e' b h1 h2 h3 h4
 ·have hmn:m≠n:=fun e=>by rw[e,h.lC (.inr hlt)] at hm;cases hm
  simp only[if_neg hmn];exact h.ev m e hm
theorem bt.K3{ts:List (Nat×I)}{os:List (Nat×al)}(m n T sz z:Nat)(p:List Nat)(b:I)(hm:aq os m=some (.box b))(hp:b.at p=some (.nils z))(hn:aq os n=none){B:af}(h:bt (aC ts ((m,.box (b.dR p (.own n 0)))::(n,.b6 T sz [])::os)) B)(hlt:n<1000000:=by decide):bt (aC ts os) B :=
 ((bt.K2 (A:=aC ts os) (T:=T) (sz:=sz) hm hp hn hlt).trans (by rw[zl,zl];exact bt.refl _)).trans h
mutual
theorem j5{p q:Nat→Bool}(h:∀ n,p n=true→q n=true):∀ x:I,x.only p=true→x.only q=true
 | .agg fs,hx | .tuple fs,hx=>by simp only[I.only] at *;exact lO h fs hx
 | .slice _ es,hx=>by simp only[I.only] at *;exact lO h es hx
 | .ref x,hx=>by simp only[I.only] at *;exact j5 h x hx
 | .func _ caps,hx=>by simp only[I.only] at *;exact lO h caps hx
 | .iface _ v,hx=>by simp only[I.only] at *;exact j5 h v hx
 | .ptr _ _,hx | .own _ _,hx | .view _ _ _ _ _,hx | .mref _,hx | .dx _,hx=>by simp only[I.only] at *;exact h _ hx
 | .dA ks vs,hx=>by simp only[I.only,zz0] at *;exact ⟨lO h ks hx.1,lO h vs hx.2⟩
 | .bool _,_ | .int _ _,_ | .ak _,_ | .nilp,_ | .dO,_ | .dh,_ | .any,_ | .raw _,_ | .nils _,_ | .c0 _,_ | .undef,_ | .dv,_=>by simp[I.only]
theorem lO{p q:Nat→Bool}(h:∀ n,p n=true→q n=true):∀ xs:List I,I.bY p xs=true→I.bY q xs=true
 | [],_=>rfl
 |x::xs,hx=>by
  simp only[I.bY,zz0] at *;exact ⟨j5 h x hx.1,lO h xs hx.2⟩
end
theorem al.j5{p q:Nat→Bool}(h:∀ n,p n=true→q n=true)(x:al)(hx:x.only p=true):x.only q=true:=by
 cases x with
 |box y=>simp only[al.only] at *;exact Abs.j5 h y hx
 |b6 T sz es=>simp only[al.only] at *;exact lO h es hx
 |dU o=>rfl
 |eN T xs=>rfl
 |cI ks vs=>simp only[al.only,zz0] at *;exact ⟨lO h ks hx.1,lO h vs hx.2⟩
 |it ks vs left cur=>simp only[al.only,zz0] at *;exact ⟨lO h ks hx.1,lO h vs hx.2⟩
theorem FC{x:I}(h:x.bF=true):x.cm=true:=by
 cases x <;>first | rfl | simp[I.bF] at h
theorem sd{aG:Bool}{A0:af}{ρ:List (Nat×Nat)}{os:List (Nat×al)} : ∀ xs:List I,I.cG xs=true→gZ aG A0 ρ os xs xs
 | [],_=>trivial
 |x::xs,h=>by
  simp only[I.cG,zz0] at h;exact ⟨.inl ⟨(rp _ x h.1).symm,nz _ x h.1,FC h.1⟩,sd xs h.2⟩
structure gv (os os':List (Nat×al)):Prop where
 same:∀ m,ay os' m=ay os m
 ok:∀ m x,aq os' m=some x→x.only (ay os')=true∧x.fm=true
 ot:∀ m,ay os m=true→1000000≤m
def cn(o:Obj)(os:List (Nat×al)):List (Nat×al):=(1999999,.dU o)::os
theorem lG(o:Obj)(os:List (Nat×al))(m:Nat):ay (cn o os) m=(decide (m=1999999)||ay os m):=by
 simp only[cn,ay,aq];by_cases h:m=1999999 <;>simp[h]
theorem qS(o:Obj)(os:List (Nat×al))(m:Nat):aq (cn o os) m=if m=1999999 then some (.dU o) else aq os m:=rfl
theorem gv.cn{os os':List (Nat×al)}(h:gv os os')(o o':Obj):gv (cn o os) (cn o' os'):=by
 refine ⟨fun m=>by rw[lG,lG,h.same],fun m x hx =>?_,fun m hm =>?_⟩
 ·rw[qS] at hx;split at hx
  ·cases hx;exact ⟨rfl,rfl⟩
  ·obtain ⟨h1,h2⟩:=h.ok m x hx;exact ⟨x.j5 (fun n hn=>by rw[lG,hn];simp) h1,h2⟩
 ·rw[lG] at hm;simp only[Bool.or_eq_true,decide_eq_true_eq] at hm;rcases hm with rfl | hm
  ·decide
  ·exact h.ot m hm
def we:List Nat→List I→List (Nat×I)→List (Nat×I)
 |p::ps,v::vs,ts=>we ps vs ((p,v)::ts)
 |_,_,ts=>ts
def oN(ρ:List (Nat×Nat))(p:Nat→Bool)(ts:List (Nat×I)):List (Nat×I)→Prop
 | []=>True
 |(k,v)::r=>cE ts k=v.aQ (bp ρ)∧v.only p=true∧oN ρ p ts r
theorem Jn{ρ:List (Nat×Nat)}{p:Nat→Bool}{ts:List (Nat×I)} : ∀ {tsR:List (Nat×I)},oN ρ p ts tsR→∀ k,cE tsR k=.dv∨(cE ts k=(cE tsR k).aQ (bp ρ)∧(cE tsR k).only p=true)
 | [],_,k=>.inl rfl
 |(j,v)::r,h,k=>by
  simp only[oN] at h;simp only[cE];split
  ·rename_i hk;subst hk;exact .inr ⟨h.1,h.2.1⟩
  ·exact Jn h.2.2 k
section
variable {c:cP} {a:Act} {w:World} {D:aO} {E:aU}
theorem aT.Ap{A:af}(h:aT c A a w D E){n b:Nat}{o o':Obj}(hn:A.o n=some (.dU o))(aE:E n=some (.op b))(ho:qJ o'=true):aT c (A.aM n (.dU o')) a (w.putObj b o') D E:=by
 have hob:=h.bG n;rw[hn] at hob;obtain ⟨b',k1,k2,k3,k4,k5⟩:=hob;rw[aE] at k1;cases k1;have hnc:o.isCells=false:=by cases o <;>first | rfl | cases k4
 have hlt:b<w.heap.size:=fG k3;have hl:ej w D E (w.putObj b o') D E:=⟨fun _ _ h=>h,fun b1 o1 v _ ae=>xL k3 hnc ae,fun _ _ _ h=>h,fun _ aL l h=>⟨aL,l,h,zy1 _,fun _=>rfl⟩,fun _ _ h=>h,fun _ _ h=>h,fun b1 es ck hd hm=>(World.putObj_heap_other (fun e1=>k5 0 (by rw[←e1];exact hd))).trans hm⟩
 refine ⟨h.sz,h.fg.mono fun B _ hB=>(World.putObj_heap_other (fun e=>by rw[e,k3] at hB;cases hB;cases k4)).trans hB,fun t=>aV.later hl (h.eG t),h.dX.trans ⟨rfl,rfl,rfl,by simp,fun k hk=>World.putObj_heap_other (fun e=>hk (e▸k2))⟩,h.df,
  fun b1 o1 hd=>by have:=h.dy b1 o1 hd;simpa using this,fun m =>?_,h.cV,h.ev,h.fu,h.cR,h.fO,h.lV hl⟩
 simp only[af.aM];by_cases hm:m=n
 ·subst hm;simp only[if_true,dc];exact ⟨b,aE,k2,World.putObj_heap_same hlt,ho,k5⟩
 ·simp only[if_neg hm];exact (h.bG m).later hl rfl fun e b1 he hb=>⟨World.putObj_heap_other (fun e1=>hm (h.cV m n e _ b1 he aE hb (by rw[e1];rfl))),fun _ ho=>ho⟩
theorem aT.R2{A:af}(h:aT c A a w D E){n b:Nat}(aE:E n=some (.op b)):aT c ⟨A.t,fun m=>if m=n then none else A.o m⟩ a w D (fun m=>if m=n then none else E m):=by
 have hne:∀ {m:Nat} {e:bL},E m=some e→(∀ b,e≠.op b)→m≠n:=fun he h2 e'=>by
  subst e';rw[aE] at he;cases he;exact h2 _ rfl
 have hl:ej w D E w D (fun m=>if m=n then none else E m):=by
  refine ⟨fun _ _ h=>h,fun _ _ _ _ h=>h,fun m b aN he =>?_,fun m aL l he=>⟨aL,l,?_,zy1 _,fun _=>rfl⟩,fun m b he =>?_,fun m b he =>?_,fun _ _ _ _ h=>h⟩
  ·simp only[if_neg (hne he (fun b=>by simp))];exact he
  ·simp only[if_neg (hne he (fun b=>by simp))];exact he
  ·simp only[if_neg (hne he (fun b=>by simp))];exact he
  ·simp only[if_neg (hne he (fun b=>by simp))];exact he
 refine ⟨h.sz,h.fg,fun t=>aV.later hl (h.eG t),h.dX,h.df,h.dy,fun m =>?_,fun m m' e e' b h1 h2 h3 h4 =>?_,fun m e hm =>?_,h.fu,h.cR,h.fO,h.gq⟩
 ·by_cases hm:m=n
  ·simp only[hm,if_true,dc]
  ·simp only[if_neg hm];exact (h.bG m).later hl (by simp only[if_neg hm]) fun _ _ _ _=>⟨rfl,fun _ ho=>ho⟩
 ·split at h1
  ·cases h1
  ·split at h2
   ·cases h2
   ·exact h.cV m m' e e' b h1 h2 h3 h4
 ·by_cases hmn:m=n
  ·left;simp only[hmn,if_true]
  ·simp only[if_neg hmn];exact h.ev m e hm
theorem aT.enter{ts:List (Nat×I)}{os0:List (Nat×al)}(h:aT c (aC ts os0) a w D E)(hbase:c.er=none)(hfree:aq os0 999999=none)(hE0:c.cq 999999=none){o:Obj}(ho:qJ o=true) :
  ∃ E1,aT c (aC ts ((999999,.dU o)::os0)) { a with defers := { target:=.collected w.heap.size,args := #[] } :: a.defers } ((w.alloc (.deferred (some []))).alloc o) D E1∧E1 999999=some (.op (w.heap.size+1))∧∀ xs vs,aD w D E xs vs→aD ((w.alloc (.deferred (some []))).alloc o) D E1 xs vs:=by
 have hb:Below w.heap.size w ((w.alloc (.deferred (some []))).alloc o):=((Below.refl _ w).alloc (zy1 _) _).alloc (by simp) _;have h1:=h.grow (D':=D) hb (fun _ _ h=>h) (fun _ _ h _=>h) (fun b o' hd=>by have:=h.dy b o' hd;simp;omega);obtain ⟨W,hW⟩:∃ W,W=(w.alloc (.deferred (some []))).alloc o:=⟨_,rfl⟩
 have hL:W.heap[w.heap.size+1]?=some o:=by
  rw[hW];have:=World.alloc_heap_new (w.alloc (.deferred (some []))) o;rwa [World.size_alloc] at this
 have hK:W.heap[w.heap.size]?=some (.deferred (some [])):=by
  rw[hW];exact (Below.heap_alloc _ _ _ (by simp)).trans (World.alloc_heap_new w _)
 rw[←hW] at h1 hb ⊢;have hEn:E 999999=none:=by have:=h.bG 999999;simp only[aC,hfree] at this;exact this
 have hl:ej W D E W D (fun m=>if m=999999 then some (.op (w.heap.size+1)) else E m):=by
  refine ⟨fun _ _ h=>h,fun _ _ _ _ h=>h,fun m b aN he =>?_,fun m aL l he=>⟨aL,l,?_,zy1 _,fun _=>rfl⟩,fun m b he =>?_,fun m b he =>?_,fun _ _ _ _ h=>h⟩
  all_goals
   have:m≠999999:=fun e=>by rw[e,hEn] at he;cases he
   simp only[if_neg this];exact he
 have hsz:c.dF.heap.size≤w.heap.size:=h.dX.size;have nb:∀ {m:Nat} {e:bL} {b:Nat},E m=some e→e.aL=some b→b<w.heap.size:=fun he hb'=>h.gl he hb';refine ⟨fun m=>if m=999999 then some (.op (w.heap.size+1)) else E m,⟨h1.sz,?_,fun t=>aV.later hl (h1.eG t),h1.dX,h1.df,h1.dy,fun m =>?_,fun m m' e e' b g1 g2 g3 g4 =>?_,fun m e hm =>?_,h1.fu,h1.cR,h1.fO,h1.gq⟩,by simp,fun xs vs hx=>aD.later hl xs vs (aD.later (ej.grow hb fun _ _ h=>h) xs vs hx)⟩
 ·have hdf:=h1.fg;rw[hbase] at hdf ⊢;obtain ⟨Bs,k1,k2,k3⟩:=hdf;refine ⟨w.heap.size::Bs,by simp only[zz9];rw[←k1],List.nodup_cons.2 ⟨fun hin =>?_,k2⟩,fun B hB =>?_⟩
  ·have hdf':=h.fg;rw[hbase] at hdf';obtain ⟨Bs',j1,_,j3⟩:=hdf';have e1:Bs=Bs':=by
    have:Bs.map (fun B=>({ target:=.collected B,args := #[] } : Deferred))=Bs'.map (fun B => { target:=.collected B,args := #[] }):=by rw[←k1,←j1]
    exact (List.map_inj_right (fun x y hxy=>by simpa using hxy)).1 this
   rw[e1] at hin;have:=fG (j3 _ hin).2;omega
  ·rcases zx7.1 hB with rfl | hB
   ·exact ⟨hsz,hK⟩
   ·exact k3 B hB
 ·simp only[aC,aq];by_cases hm:m=999999
  ·subst hm;simp only[if_true,dc];exact ⟨_,rfl,.inl (by omega),hL,ho,fun o' hd=>by have:=h.dy _ o' hd;omega⟩
  ·simp only[if_neg hm];exact (h1.bG m).later hl (by simp only[if_neg hm]) fun _ _ _ _=>⟨rfl,fun _ ho=>ho⟩
 ·by_cases hm:m=999999 <;>by_cases hm':m'=999999
  ·rw[hm,hm']
  ·simp only[if_pos hm,v6] at g1;simp only[if_neg hm'] at g2;subst g1;simp only[bL.aL,v6] at g3;have:=nb g2 g4;omega
  ·simp only[if_neg hm] at g1;simp only[if_pos hm',v6] at g2;subst g2;simp only[bL.aL,v6] at g4;have:=nb g1 g3;omega
  ·simp only[if_neg hm] at g1;simp only[if_neg hm'] at g2;exact h.cV m m' e e' b g1 g2 g3 g4
 ·have hmn:m≠999999:=fun e=>by rw[e,hE0] at hm;cases hm
  simp only[if_neg hmn];exact h.ev m e hm
theorem dc.kW{M M':Nat→Prop}{n:Nat}{x:Option al}(h:dc M w D E n x)(hM:∀ e b,E n=some e→e.aL=some b→M' b):dc M' w D E n x:=by
 unfold dc at *;split
 ·exact h
 ·obtain ⟨b,cs,T,h1,_,h3⟩:=h;exact ⟨b,cs,T,h1,hM _ b h1 rfl,h3⟩
 ·obtain ⟨aL,h1,h2,h3⟩:=h;refine ⟨aL,h1,h2,?_⟩;split
  ·exact h3
  ·obtain ⟨cs,pre,rest,_,h4⟩:=h3;exact ⟨cs,pre,rest,hM _ _ h1 rfl,h4⟩
 ·obtain ⟨b,h1,_,h3⟩:=h;exact ⟨b,h1,hM _ b h1 rfl,h3⟩
 ·obtain ⟨b,es,ck,h1,_,h3⟩:=h;exact ⟨b,es,ck,h1,hM _ b h1 rfl,h3⟩
 ·obtain ⟨r,b,es,ck,eM,se,la,h1,_,h3⟩:=h;exact ⟨r,b,es,ck,eM,se,la,h1,hM _ r h1 rfl,h3⟩
 ·obtain ⟨aL,h1,h2,h3⟩:=h;refine ⟨aL,h1,h2,?_⟩;split
  ·exact h3
  ·obtain ⟨cs,m,_,h4⟩:=h3;exact ⟨cs,m,hM _ _ h1 rfl,h4⟩
theorem aT.Ha{os:List (Nat×al)} : ∀ (ps:List Nat) (vs:List Value) (xs:List I) (ts:List (Nat×I)) (a:Act),aT c (aC ts os) a w D E→(∀ p∈ps,p<c.n)→aD w D E xs vs→ps.length=vs.length →
  aT c (aC (we ps xs ts) os) { a with tmps:=(ps.zip vs).foldl (fun t q=>t.setIfInBounds q.1 q.2) a.tmps } w D E
 | [],[],xs,ts,a,h,_,ae,_=>by
  cases xs with
  |nil=>exact h
  |cons x xs=>simp[aD] at ae
 | [],_::_,_,_,_,_,_,_,hl=>by simp at hl
 |_::_,[],_,_,_,_,_,_,hl=>by simp at hl
 |p::ps,v::vs,xs,ts,a,h,hp,ae,hl=>by
  cases xs with
  |nil=>simp[aD] at ae
  |cons x xs =>
   simp only[aD] at ae;obtain ⟨v',rest,cs,e,h1,h2,h3⟩:=ae;simp only[zx6] at e;obtain ⟨rfl,rfl⟩:=e;have h4:=h.put (hp p (by simp)) (gD h1 h2);rw[Gb] at h4;have:=aT.Ha ps vs xs ((p,x)::ts) (a.put (some p) v) h4 (fun q hq=>hp q (by simp[hq])) h3 (by simpa using hl);exact this
end
end Go.Abs
namespace Go.Abs
open Go Go.RowKit
def jQ:bH→Bool
 | .mv _ | .pick .. | .bin .. | .eqv .. | .conv .. | .un .. | .fl .. | .ix .. | .lenT _ | .bld .. | .ext .. | .mk .. | .nilC _ | .ptrE .. | .max2 .. | .prim .. =>true
 | .ld .. | .fa .. | .ia .. | .is .. | .len _ | .va .. | .bs .. | .sl .. | .cap _ | .bs0 _ | .lk .. | .b2s _=>true
 |_=>false
def v8:bH→Bool
 | .alloc _ | .box _ | .aS .. | .call .. | .fF .. | .eB .. | .fC _=>true
 |op=>jQ op
def qP(hs:List FuncId):bH→Bool
 | .alloc _ | .box _ | .fC _=>true
 | .call f _ => !hs.contains f
 |op=>jQ op
abbrev eH:=List (Nat×List Nat)
def hZ(ao:eH)(s:Nat):Option (List Nat):=(ao.find? fun q=>q.1==s).map (·.2)
def dB(ao:eH)(A:af):Prop:=∀ s ns,hZ ao s=some ns→(A.t s).only (fun n=>ns.contains n)=true
def qM(ao:eH):aJ→Option (List Nat)
 | .t s=>hZ ao s
 | .c x=>if x.bF then some [] else none
def pY(a:Option (List Nat))(ns:List Nat):Bool:=match a with
 |some ms=>ms.all fun m=>ns.contains m
 |none=>false
def iX(hs:List FuncId)(ao:eH)(g:aF):Bool:=match g.dst with
 |none=>true
 |some d=>match hZ ao d with
  |none=>true
  |some ns=>match g.op with
   | .mv x | .nilC x | .fa _ _ x | .ia _ _ x _=>pY (qM ao x) ns
   | .bin .. | .len _ | .bs .. | .bs0 _ | .conv .. | .lenT _ | .prim .. | .b2s _=>true
   | .box _ | .alloc _ | .fC _=>ns.contains d
   | .is _ x _ | .ld _ x=>pY (qM ao x) []
   | .call f _=>hs.contains (f+10000000) && !hs.contains f
   |_=>false
def oz:bH→Option (List Nat)
 | .ld _ (.t x) | .fa _ _ (.t x) | .ia _ _ (.t x) _ | .is _ (.t x) _ | .len (.t x) | .va _ _ (.t x) | .sl _ (.t x) _ _ _ | .cap (.t x) | .lk _ _ _ (.t x) _ | .b2s (.t x)=>some [x]
 | .bs _ _ ps=>if (ps.all fun x=>match x with | .t _=>true | .c _=>false)=true then some (jP ps) else none
 | .bs0 _=>some []
 |op=>if op.hv=0∧jQ op=true then some [] else none
def uq(ao:eH)(g:aF)(p:Nat→Bool):Bool:=match oz g.op with
 |some xs=>xs.all fun s=>match hZ ao s with | some ns=>ns.all p | none=>false
 |none=>false
def pD(hs:List FuncId)(ao:eH)(g h:aF):Bool:=qP hs h.op||match h.op with
 | .aS _ (.t y) _=>match oz g.op with
  |some []=>true
  |_=>match hZ ao y with
   |some ms=>uq ao g fun n => !ms.contains n
   |none=>false
 | .aS .. =>match oz g.op with
  |some []=>true
  |_=>false
 | .eB _ _ _ _ s _=>uq ao g (fun _=>false)||pY (qM ao s) []
 |_=>false
def vi(hs:List FuncId)(ao:eH)(g h:aF):Bool:=jQ g.op&&(pD hs ao g h&&((match g.dst with
  |some d => !h.cO.contains d&&h.dst != some d
  |none=>true)&&(match h.dst with
  |some d => !g.cO.contains d
  |none=>true)))
def sU(hs:List FuncId)(ao:eH)(g:aF):Bool:=g.guard.isNone&&match g.op with
 | .alloc _=>true
 | .call f _=>(hs.contains (f+10000000) && !hs.contains f)&&(match g.dst with
  |some d=>(hZ ao d).isNone
  |none=>true)
 |_=>false
def Gi(h:aF):Bool:=h.guard.isNone&&match h.op with
 | .alloc _=>true
 |_=>false
def vj(hs:List FuncId)(ao:eH)(g h:aF):Bool:=sU hs ao g&&(Gi h&&((match g.dst with
  |some d=>h.dst != some d
  |none=>true)&&(match h.dst with
  |some d => !g.cO.contains d
  |none=>true)))
def sL(hs:List FuncId)(ao:eH)(g h:aF):Bool:=vi hs ao g h||vj hs ao g h
theorem yM{op:bH}(h:jQ op=true)(A:af)(dst:Option Nat)(rest:List aF)(k:af→cD):aX A dst op rest k=cL (bf A op) fun v=>k (A.aR dst v):=by
 cases op <;>first | rfl | cases h
inductive bQ (P:Program) (Y:Value→List I→List (Nat×al)→cv→Prop) (hs:List FuncId) (K:af→Prop):cD→Prop where
 |done {A:af} : K A→bQ P Y hs K (.done A)
 |flat {f:FuncId} {avs cargs:List I} {a2:Option (List I)} {dst:Option Nat} {rest:List aF} {A:af} (r:I):aP P f cargs r→r.flat=true→bQ P Y hs K (au rest (A.aR dst r))→bQ P Y hs K (.call f avs (some cargs) a2 dst rest A)
 |lead {f:FuncId} {avs cargs:List I} {a1:Option (List I)} {dst:Option Nat} {rest:List aF} {A:af} (r:I):aP P f cargs r→bQ P Y hs K (au rest (A.aR dst r))→bQ P Y hs K (.call f avs a1 (some cargs) dst rest A)
 |bG {f:FuncId} {avs:List I} {a1 a2:Option (List I)} {dst:Option Nat} {rest:List aF} {ts:List (Nat×I)} {os0:List (Nat×al)} (ρ:List (Nat×Nat)) (cargs:List I) (post:cv):hs.contains (f+10000000)=false→ep P f cargs [] post →
   fj ρ [] os0→gZ false (aC ts os0) ρ [] avs cargs→(∀ r os',post r os'→dG false ρ [] os0 r os') →
   (∀ r os',post r os'→bQ P Y hs K (au rest ((aC ts (dp ρ os'++os0)).aR dst (r.aQ (bp ρ)))))→bQ P Y hs K (.call f avs a1 a2 dst rest (aC ts os0))
 |any {p:Nat→Prop} {k:Nat→cD} : (∀ m,p m→bQ P Y hs K (k m))→bQ P Y hs K (.any p k)
 |qZ {f:FuncId} {avs:List I} {a1 a2:Option (List I)} {dst:Option Nat} {rest:List aF} {ts:List (Nat×I)} {os0:List (Nat×al)} (aG:Bool) (ρ:List (Nat×Nat)) (os:List (Nat×al)) (cargs:List I) (post:cv):hs.contains f=true→ep P f cargs os post →
   fj ρ os os0→gZ aG (aC ts (dN (j2 ρ os) os0)) ρ os avs cargs→(∀ r os',post r os'→dG aG ρ os os0 r os') →
   (∀ r os',post r os'→bQ P Y hs K (au rest ((aC ts (dp ρ os'++os0)).aR dst (r.aQ (bp ρ)))))→bQ P Y hs K (.call f avs a1 a2 dst rest (aC ts os0))
 |ahV {v:Value} {avs:List I} {dst:Option Nat} {rest:List aF} {ts:List (Nat×I)} {os0:List (Nat×al)} (os:List (Nat×al)) (cargs:List I) (post:cv):Y v cargs os post →
   fj [] os os0→gZ false (aC ts (dN (j2 [] os) os0)) [] os avs cargs→(∀ r os',post r os'→dG false [] os os0 r os') →
   (∀ r os',post r os'→bQ P Y hs K (au rest ((aC ts (dp [] os'++os0)).aR dst (r.aQ (bp [])))))→bQ P Y hs K (.nc v avs dst rest (aC ts os0))
theorem R1(os:List (Nat×al)):dN [] os=os:=by simp[dN]
section
variable {P:Program} {hs:List FuncId} {K:af→Prop} {Y:Value→List I→List (Nat×al)→cv→Prop}
theorem bQ.um{p:Nat→Prop}{k:Nat→cD}(h:bQ P Y hs K (.any p k)):∀ m,p m→bQ P Y hs K (k m):=by cases h;assumption
theorem dB.put{ao:eH}{A B:af}(h:dB ao A)(ht:∀ k,B.t k=A.t k){dst:Option Nat}{v:I}(ae:∀ d,dst=some d→∀ ns,hZ ao d=some ns→v.only (fun n=>ns.contains n)=true):dB ao (B.aR dst v):=by
 intro s ns hs';cases dst with
 |none=>exact (ht s).symm▸h s ns hs'
 |some d =>
  simp only[af.aR,af.put];by_cases hd:s=d
  ·rw[if_pos hd];exact ae d rfl ns (hd▸hs')
  ·rw[if_neg hd,ht];exact h s ns hs'
theorem pZ{ao:eH}{A:af}(h:dB ao A){x:aJ}{ns:List Nat}(hx:pY (qM ao x) ns=true):(aj A x).only (fun n=>ns.contains n)=true:=by
 cases x with
 |c x =>
  simp only[qM] at hx;split at hx
  ·rename_i hc;exact nz _ x hc
  ·cases hx
 |t s =>
  simp only[qM] at hx;cases hl:hZ ao s with
  |none=>rw[hl] at hx;cases hx
  |some ms =>
   rw[hl] at hx;simp only[pY,zx1] at hx;exact j5 (fun n hn=>hx n (by simpa using hn)) _ (h s ms hl)
theorem LO{op:BinOp}{x y v:I}(p:Nat→Bool)(h:b8 op x y=some v):v.only p=true:=by
 unfold b8 at h
 (repeat' split at h) <;>first | (cases h;done) | (simp only[v6] at h;subst h;rfl)
theorem afR{q:xi}{xs:List I}{v:I}(p:Nat→Bool)(h:fq q xs=some v):v.only p=true:=by
 unfold fq at h
 (repeat' split at h) <;>first | (cases h;done) | (rename_i hc;simp only[v6] at h;subst h;simp only[I.only];exact nz _ _ hc.1) | (simp only[v6] at h;subst h;rfl) | (simp only[t8] at h;obtain ⟨_,_,rfl⟩:=h;rfl)
theorem Lu{x:Option (List I)}{v:I}(p:Nat→Bool)(h:mX x=some v):v.only p=true:=by
 unfold mX at h;split at h
 ·simp only[t8] at h;obtain ⟨_,_,rfl⟩:=h;rfl
 ·cases h
theorem wa{p:Nat→Bool} : ∀ {xs:List I} {i:Nat} {x:I},I.bY p xs=true→xs[i]?=some x→x.only p=true
 | [],_,_,_,h=>by simp at h
 |a::xs,0,x,h,e=>by
  simp only[I.bY,zz0] at h;simp only[List.getElem?_cons_zero,v6] at e;exact e▸h.1
 |a::xs,i+1,x,h,e=>by
  simp only[I.bY,zz0] at h;exact wa (xs:=xs) h.2 (by simpa using e)
theorem GB{hs:List FuncId}{ao:eH}{A:af}{g:aF}(h:dB ao A)(hg:iX hs ao g=true){v:I}(ae:bf A g.op=some v):∀ d,g.dst=some d→∀ ns,hZ ao d=some ns→v.only (fun n=>ns.contains n)=true:=by
 intro d hd ns hn;obtain ⟨dst,op,gd⟩:=g;simp only at hd ae;subst hd;simp only[iX,hn] at hg;cases op <;>simp only at hg <;>(try (cases hg;done)) <;>simp only[bf] at ae <;>(try (cases ae;done))
 case mv x=>simp only[v6] at ae;exact ae▸pZ h hg
 case nilC x =>
  have:=pZ h hg;generalize aj A x=u at ae this;cases u <;>simp only[pw] at ae <;>first | (cases ae;done) | (simp only[v6] at ae;exact ae▸this)
 case bin op x y=>exact LO _ ae
 case conv k x=>split at ae <;>first | (cases ae;done) | (simp only[v6] at ae;subst ae;rfl)
 case prim p xs=>exact afR _ ae
 case is esz x i =>
  have hx:=pZ h hg;split at ae
  case h_2=>cases ae
  split at ae
  ·rename_i sz es he;rw[he] at hx;simp only[I.only] at hx;split at ae
   ·simp only[t8] at ae;obtain ⟨u,hu,rfl⟩:=ae;simp only[I.only];exact j5 (fun n hn=>by simp at hn) _ (wa hx hu)
   ·cases ae
  ·rename_i m l he;rw[he] at hx;simp[I.only] at hx
  ·rename_i m p sz lo l he;rw[he] at hx;simp[I.only] at hx
  ·cases ae
 case ld s x =>
  have hx:=pZ h hg;split at ae
  case h_2=>cases ae
  rename_i u hu;split at ae
  case isFalse=>cases ae
  simp only[v6] at ae;subst ae;generalize aj A x=z at hx hu;cases z <;>simp only[ct] at hu <;>try (cases hu;done)
  ·simp only[v6] at hu;subst hu;simp only[I.only] at hx;exact j5 (fun n hn=>by simp at hn) _ hx
  ·simp[I.only] at hx
 case b2s x=>exact Lu _ ae
 case lenT x=>split at ae <;>first | (cases ae;done) | (simp only[v6] at ae;subst ae;rfl)
 case len x=>(repeat' split at ae) <;>first | (cases ae;done) | (simp only[v6] at ae;subst ae;rfl)
 case bs0 e=>simp only[v6] at ae;subst ae;rfl
 case bs e ps =>
  split at ae
  ·split at ae
   ·rename_i hc;simp only[v6] at ae;subst ae;simp only[I.only];exact mF _ _ hc.2
   ·cases ae
  ·cases ae
 case fa f off x =>
  have hx:=pZ h hg;split at ae
  ·rename_i fs he;rw[he] at hx;simp only[I.only] at hx;split at ae
   ·rename_i u hu;split at ae
    ·simp only[v6] at ae;subst ae;simp only[I.only];exact wa hx hu
    ·cases ae
   ·cases ae
  ·rename_i n q he;rw[he] at hx;simp only[I.only] at hx;split at ae
   ·split at ae
    ·simp only[v6] at ae;subst ae;simpa only[I.only] using hx
    ·cases ae
   ·cases ae
  ·cases ae
 case ia n esz x i =>
  have hx:=pZ h hg;split at ae
  case h_2=>cases ae
  split at ae
  case isFalse=>cases ae
  split at ae
  ·rename_i fs he;rw[he] at hx;simp only[I.only] at hx;split at ae
   ·simp only[t8] at ae;obtain ⟨u,hu,rfl⟩:=ae;simp only[I.only];exact wa hx hu
   ·cases ae
  ·rename_i m q he;rw[he] at hx;simp only[I.only] at hx;split at ae
   ·split at ae
    ·simp only[v6] at ae;subst ae;simpa only[I.only] using hx
    ·cases ae
   ·cases ae
  ·cases ae
def uc(A:af)(dst:Option Nat)(s:I)(B:af):Prop:=(∀ t,dst≠some t→B.t t=A.t t)∧(s.only (fun _=>false)=true→en A B)
def oU(A:af)(dst:Option Nat)(s:I)(R:(af→cD)→cD):Prop :=
 (∀ k,R k=.fail)∨(∃ B,(∀ k,R k=k B)∧uc A dst s B)∨∃ (p:Nat→Prop) (bo:Nat→af),(∀ k,R k=.any p fun m=>k (bo m))∧∀ m,uc A dst s (bo m)
theorem tn{A B:af}{dst:Option Nat}{v:I}{t:Nat}(ht:∀ k,B.t k=A.t k)(h:dst≠some t):(B.aR dst v).t t=A.t t:=by
 cases dst with
 |none=>exact ht t
 |some d =>
  have:t≠d:=fun e=>h (by rw[e]);simp only[af.aR,af.put,if_neg this];exact ht t
theorem Lc(A:af)(dst:Option Nat)(esz bytes:Nat)(z s:I)(es ys:List I):oU A dst s (fE A dst esz bytes z es ys):=by
 cases dst with
 |none=>exact .inl fun _=>rfl
 |some d =>
  cases ho:A.o d with
  |some y=>exact .inl fun k=>by simp only[fE,ho]
  |none =>
   by_cases hc:(es.length+ys.length)*bytes≤140737488355328∧es.length+ys.length≤maxLen
   ·refine .inr (.inr ⟨_,fun m=>(A.aM d (.box (.agg (es++(ys++List.replicate m z))))).aR (some d) (.view d [] esz 0 (es.length+ys.length)),fun k=>by simp only[fE,ho];rw[if_pos hc],fun m=>⟨fun t ht=>tn (A:=A) (B:=A.aM d _) (fun _=>rfl) ht,fun _ n y hy =>?_⟩⟩);have:n≠d:=fun e=>by rw[e,ho] at hy;cases hy
    rw[iG];simp only[af.aM,if_neg this];exact hy
   ·exact .inl fun k=>by simp only[fE,ho];rw[if_neg hc]
theorem Lg(A:af)(dst:Option Nat)(esz bytes:Nat)(z s:I)(es ys:Option (List I)):oU A dst s (eI A dst esz bytes z s es ys):=by
 cases es with
 |none=>exact .inl fun _=>rfl
 |some es =>
  cases ys with
  |none=>exact .inl fun _=>rfl
  |some ys =>
   by_cases h0:ys=[]
   ·exact .inr (.inl ⟨A.aR dst s,fun k=>by simp only[eI,if_pos h0],fun t ht=>tn (A:=A) (fun _=>rfl) ht,fun _ n y hy=>by rw[iG];exact hy⟩)
   ·have gg:=fun s'=>Lc A dst esz bytes z s' es ys;cases s
    case nils=>simp only[oU,eI,if_neg h0];exact gg _
    case c0=>simp only[oU,eI,if_neg h0];exact gg _
    case view n p sz lo l =>
     cases ho:A.o n with
     |none=>exact .inl fun k=>by simp only[eI,if_neg h0,ho]
     |some y =>
      cases y with
      |box b =>
       cases hb:b.at p with
       |none=>exact .inl fun k=>by simp only[eI,if_neg h0,ho,hb]
       |some c =>
        cases c
        case agg fs =>
         by_cases h1:lo+l+ys.length≤fs.length
         ·by_cases h2:sz=esz∧I.cB ys=I.cB ((fs.drop (lo+l)).take ys.length)
          ·exact .inr (.inl ⟨(A.aM n (.box (jd b p (lo+l) fs ys))).aR dst (.view n p esz lo (l+ys.length)),fun k=>by simp only[eI,if_neg h0,ho,hb,if_pos h1];rw[if_pos h2],fun t ht=>tn (A:=A) (B:=A.aM n _) (fun _=>rfl) ht,fun h=>by simp[I.only] at h⟩)
          ·exact .inl fun k=>by simp only[eI,if_neg h0,ho,hb,if_pos h1];rw[if_neg h2]
         ·simp only[oU,eI,if_neg h0,ho,hb,if_neg h1];exact gg _
        all_goals exact .inl fun k=>by simp only[eI,if_neg h0,ho,hb]
      |_=>exact .inl fun k=>by simp only[eI,if_neg h0,ho]
    all_goals exact .inl fun k=>by simp only[eI,if_neg h0]
theorem BJ(A:af)(dst:Option Nat)(e esz bytes:Nat)(z:I)(s x:aJ)(rest:List aF):oU A dst (aj A s) (aX A dst (.eB e esz bytes z s x) rest):=by
 generalize hs:aj A s=jv;cases jv
 case own n l =>
  cases hx:aj A x
  case slice sz ys =>
   cases ho:A.o n with
   |none=>exact .inl fun k=>by simp only[aX,hs,hx,ho]
   |some y =>
    cases y with
    |b6 T sz' es =>
     by_cases hc:zx e esz bytes l sz ys T sz' es
     ·exact .inr (.inl ⟨(A.aM n (.b6 e esz (es++ys))).aR dst (.own n (es.length+ys.length)),fun k=>by simp only[aX,hs,hx,ho];rw[if_pos hc],fun t ht=>tn (A:=A) (B:=A.aM n _) (fun _=>rfl) ht,fun h=>by simp[I.only] at h⟩)
     ·exact .inl fun k=>by simp only[aX,hs,hx,ho];rw[if_neg hc]
    |eN T xs =>
     by_cases hc:zy e esz bytes l ys T xs z
     ·exact .inr (.inl ⟨(A.aM n (.eN e (xs++sM ys))).aR dst (.own n (xs.length+ys.length)),fun k=>by simp only[aX,hs,hx,ho];rw[if_pos hc],fun t ht=>tn (A:=A) (B:=A.aM n _) (fun _=>rfl) ht,fun h=>by simp[I.only] at h⟩)
     ·exact .inl fun k=>by simp only[aX,hs,hx,ho];rw[if_neg hc]
    |_=>exact .inl fun k=>by simp only[aX,hs,hx,ho]
  all_goals exact .inl fun k=>by simp only[aX,hs,hx]
 all_goals (simp only[oU,aX,hs];exact Lg ..)
theorem zT{A:af}{d:Nat}{v:I}{n:Nat}{y:al}{dst:Option Nat}{u:I}(h:dst≠some d):((A.put d v).aM n y).aR dst u=((A.aM n y).aR dst u).put d v:=by
 cases dst with
 |none=>rfl
 |some e =>
  have:e≠d:=fun he=>h (by rw[he]);simp only[af.aR,af.put,af.aM,af.mk.injEq,and_true]
  funext k
  by_cases h1:k=e <;>by_cases h2:k=d <;>simp_all
theorem af5{A:af}{d:Nat}{v:I}{dst:Option Nat}{u:I}(h:dst≠some d):(A.put d v).aR dst u=(A.aR dst u).put d v:=by
 cases dst with
 |none=>rfl
 |some e =>
  have:e≠d:=fun he=>h (by rw[he]);simp only[af.aR,af.put,af.mk.injEq,and_true]
  funext k
  by_cases h1:k=e <;>by_cases h2:k=d <;>simp_all
theorem Ld{A:af}{d:Nat}{v:I}{dst:Option Nat}(h:dst≠some d)(esz bytes:Nat)(z:I)(es ys:List I)(k:af→cD):fE (A.put d v) dst esz bytes z es ys k=fE A dst esz bytes z es ys fun B=>k (B.put d v):=by
 cases dst with
 |none=>rfl
 |some e =>
  simp only[fE];have:(A.put d v).o=A.o:=rfl;rw[this];cases A.o e with
  |some _=>rfl
  |none =>
   simp only;split
   ·simp only[zT h]
   ·rfl
theorem Lh{A:af}{d:Nat}{v:I}{dst:Option Nat}(h:dst≠some d)(esz bytes:Nat)(z s:I)(es ys:Option (List I))(k:af→cD):eI (A.put d v) dst esz bytes z s es ys k=eI A dst esz bytes z s es ys fun B=>k (B.put d v):=by
 have ho:(A.put d v).o=A.o:=rfl;cases es with
 |none=>rfl
 |some es =>
  cases ys with
  |none=>rfl
  |some ys =>
   simp only[eI];split
   ·rw[af5 h]
   ·cases s <;>simp only[Ld h,ho]
    rename_i n p sz lo l;cases A.o n with
    |none=>rfl
    |some y =>
     cases y with
     |box b =>
      simp only;cases b.at p with
      |none=>rfl
      |some c =>
       cases c <;>simp only[zT h]
     |_=>rfl
theorem Lm{A:af}{d:Nat}{v:I}{dst:Option Nat}(h:dst≠some d){e esz bytes:Nat}{z:I}{s x:aJ}(hag:eh A (A.put d v) (s.sl++x.sl))(rest rest':List aF)(k:af→cD) :
  aX (A.put d v) dst (.eB e esz bytes z s x) rest k=aX A dst (.eB e esz bytes z s x) rest' fun B=>k (B.put d v):=by
 have ho:(A.put d v).o=A.o:=rfl;have hsrc:∀ y,du (A.put d v) esz y=du A esz y:=fun y=>by cases y <;>rfl
 simp only[aX,cZ hag.l,cZ hag.r,hsrc];cases aj A s <;>simp only[Lh h]
 rename_i n l;cases aj A x <;>simp only[ho]
 cases A.o n with
 |none=>rfl
 |some y=>cases y <;>simp only[zT h]
mutual
theorem Ez(p:Nat→Bool):∀ x:I,x.flat=true→x.only p=true
 | .agg fs,h=>by simp only[I.flat,I.only] at *;exact yu p fs h
 | .tuple fs,h=>by simp only[I.flat,I.only] at *;exact yu p fs h
 | .bool _,_ | .int _ _,_ | .ak _,_ | .nilp,_ | .dO,_ | .dh,_ | .any,_ | .raw _,_ | .undef,_ | .dv,_=>by simp only[I.only]
 | .nils _,h | .c0 _,h | .slice _ _,h | .ref _,h | .func _ _,h | .iface _ _,h | .ptr _ _,h | .own _ _,h | .view _ _ _ _ _,h | .mref _,h | .dx _,h | .dA _ _,h=>by simp[I.flat] at h
theorem yu(p:Nat→Bool):∀ xs:List I,I.oo xs=true→I.bY p xs=true
 | [],_=>rfl
 |x::xs,h=>by
  simp only[I.oo,I.bY,zz0] at *;exact ⟨Ez p x h.1,yu p xs h.2⟩
end
theorem bQ.Dp{ao:eH}{f:FuncId}{avs:List I}{a1 a2:Option (List I)}{dst:Option Nat}{rest:List aF}{A:af}(hi:dB ao A)(hd:(∀ d,dst=some d→hZ ao d=none)∨(hs.contains (f+10000000) && !hs.contains f)=true)(h:bQ P Y hs K (.call f avs a1 a2 dst rest A)) :
  aY P Y false (fun B=>bQ P Y hs K (au rest B)∧dB ao B) (.call f avs a1 a2 dst [] A):=by
 have no:(∀ d,dst=some d→hZ ao d=none)→∀ {v:I},∀ d,dst=some d→∀ ns,hZ ao d=some ns→v.only (fun n=>ns.contains n)=true:=fun hd {v} d e ns hn=>by rw[hd d e] at hn;cases hn
 cases h with
 |flat r hc hf hw=>exact .flat r hc hf (.done ⟨hw,hi.put (fun _=>rfl) fun d _ ns _=>Ez _ r hf⟩)
 |lead r hc hw=>exact .vy r rfl hc fun ho=>(.done ⟨hw,hi.put (fun _=>rfl) fun d _ ns _=>ho _⟩)
 |bG ρ cargs post hfl hc hg ha hb hw =>
  have hd:=hd.resolve_right (by rw[hfl];simp);exact .bG false ρ [] cargs post rfl hc hg (by simp only[j2,zy9,R1];exact ha) hb fun r os' hp=>.done ⟨hw r os' hp,hi.put (B:=aC _ (dp ρ os'++_)) (fun _=>rfl) (no hd)⟩
 |qZ aG ρ os cargs post hfs hc hg ha hb hw =>
  have hd:=hd.resolve_right (by rw[hfs];simp);exact .bG aG ρ os cargs post rfl hc hg ha hb fun r os' hp=>.done ⟨hw r os' hp,hi.put (B:=aC _ (dp ρ os'++_)) (fun _=>rfl) (no hd)⟩
theorem bQ.NI{ao:eH}{v:Value}{avs:List I}{dst:Option Nat}{rest:List aF}{A:af}(hi:dB ao A)(hd:∀ d,dst=some d→hZ ao d=none)(h:bQ P Y hs K (.nc v avs dst rest A)) :
  aY P Y false (fun B=>bQ P Y hs K (au rest B)∧dB ao B) (.nc v avs dst [] A):=by
 have no:∀ {v:I},∀ d,dst=some d→∀ ns,hZ ao d=some ns→v.only (fun n=>ns.contains n)=true:=fun d e ns hn=>by rw[hd d e] at hn;cases hn
 cases h with
 |ahV os cargs post hc hg ha hb hw=>exact .w0 os cargs post rfl hc hg ha hb fun r os' hp=>.done ⟨hw r os' hp,hi.put (B:=aC _ (dp [] os'++_)) (fun _=>rfl) no⟩
theorem bQ.one{ao:eH}{A:af}{g:aF}{rest:List aF}(hi:dB ao A)(ho:v8 g.op=true)(hL:iX hs ao g=true)(h:bQ P Y hs K (aX A g.dst g.op rest (au rest))):aY P Y false (fun B=>bQ P Y hs K (au rest B)∧dB ao B) (aX A g.dst g.op [] (au [])):=by
 have hval:=fun v (ae:bf A g.op=some v)=>GB hi hL ae;obtain ⟨dst,op,gd⟩:=g;simp only at ho h hval ⊢;have pure:jQ op=true→aY P Y false (fun B=>bQ P Y hs K (au rest B)∧dB ao B) (aX A dst op [] (au [])):=by
  intro hsm;rw[yM hsm] at h ⊢;cases ae:bf A op with
  |none=>rw[ae] at h;cases h
  |some v=>rw[ae] at h;exact .done ⟨h,hi.put (fun _=>rfl) (hval v ae)⟩
 have unl:(∀ ns d,dst=some d→hZ ao d=some ns→iX hs ao ⟨dst,op,gd⟩=false)→∀ d,dst=some d→hZ ao d=none:=fun h1 d hd=>by
  cases hn:hZ ao d with
  |none=>rfl
  |some ns=>rw[h1 ns d hd hn] at hL;cases hL
 cases op with
 |alloc z =>
  cases dst with
  |none=>simp only[aX] at h;cases h
  |some d =>
   simp only[aX] at h ⊢;split at h
   case h_2=>cases h
   refine .done ⟨h,hi.put (B:=A.aM d _) (dst:=some d) (fun _=>rfl) fun d' e ns hn =>?_⟩;simp only[v6] at e;subst e;simpa only[iX,hn,I.only] using hL
 |box x =>
  cases dst with
  |none=>simp only[aX] at h;cases h
  |some d =>
   simp only[aX] at h ⊢;split at h
   case h_2=>cases h
   split at h
   case isFalse=>cases h
   rename_i ae;rw[if_pos ae];refine .done ⟨h,hi.put (B:=A.aM d _) (dst:=some d) (fun _=>rfl) fun d' e ns hn =>?_⟩;simp only[v6] at e;subst e;simpa only[iX,hn,I.only] using hL
 |aS s x v =>
  cases dst with
  |some d=>simp only[aX] at h;cases h
  |none =>
   simp only[aX] at h ⊢;split at h
   case h_2=>cases h
   rename_i n p hx;split at h
   case h_2=>cases h
   rename_i b hb;split at h
   case h_2=>cases h
   rename_i old hold;split at h
   case isFalse=>cases h
   rename_i hok;simp only[if_pos hok];exact .done ⟨h,fun s ns hn=>hi s ns hn⟩
 |fC x =>
  simp only[aX] at h ⊢;cases hse:nK (aj A x) with
  |none=>rw[hse] at h;simp only[jM] at h;cases h
  |some ys =>
   rw[hse] at h;cases dst with
   |none=>simp only[jM] at h;cases h
   |some d =>
    simp only[jM] at h ⊢;split at h
    case h_2=>cases h
    rename_i ho;refine .any rfl fun m hm=>.done ⟨h.um m hm,hi.put (B:=A.aM d _) (dst:=some d) (fun _=>rfl) fun d' e ns hn =>?_⟩;simp only[v6] at e;subst e;simpa only[iX,hn,I.only] using hL
 |call f args =>
  refine bQ.Dp hi ?_ h;cases hq:(hs.contains (f+10000000) && !hs.contains f)
  ·exact .inl (unl fun ns d e hn=>by subst e;simp only[iX,hn,hq])
  ·exact .inr rfl
 |fF x args =>
  have hu:=unl fun ns d e hn=>by subst e;simp only[iX,hn]
  simp only[aX] at h ⊢;split at h
  ·exact bQ.Dp hi (.inl hu) h
  ·exact bQ.NI hi hu h
  ·cases h
 |eB e esz bytes z s x =>
  have hu:=unl fun ns d e hn=>by subst e;simp only[iX,hn]
  have vk:∀ B,uc A dst (aj A s) B→dB ao B:=fun B hB t ns hn=>by
   rw[hB.1 t fun e=>by rw[hu t e] at hn;cases hn];exact hi t ns hn
  have hf:=BJ A dst e esz bytes z s x;rcases hf rest with h1 | ⟨B,h1,h2⟩ | ⟨p,bo,h1,h2⟩
  ·rw[h1] at h;cases h
  ·rw[h1] at h;have:aX A dst (.eB e esz bytes z s x) [] (au [])=au [] B:=(show aX A dst (.eB e esz bytes z s x) [] (au [])=aX A dst (.eB e esz bytes z s x) rest (au []) from rfl).trans (h1 _);rw[this];exact .done ⟨h,vk B h2⟩
  ·rw[h1] at h;have:aX A dst (.eB e esz bytes z s x) [] (au [])=.any p fun m=>au [] (bo m):=(show aX A dst (.eB e esz bytes z s x) [] (au [])=aX A dst (.eB e esz bytes z s x) rest (au []) from rfl).trans (h1 _);rw[this];exact .any rfl fun m hm=>.done ⟨h.um m hm,vk _ (h2 m)⟩
 |_=>first | exact pure rfl | cases ho
def gw(g:aF)(A:af)(v:I):Prop:=(gR A g∧v=.undef)∨(pass A g∧bf A g.op=some v)
theorem bQ.Av{A:af}{g:aF}{rest:List aF}(hs':jQ g.op=true)(h:bQ P Y hs K (au (g::rest) A)):∃ v,gw g A v∧bQ P Y hs K (au rest (A.aR g.dst v)):=by
 have step:pass A g→bQ P Y hs K (aX A g.dst g.op rest (au rest))→∃ v,gw g A v∧bQ P Y hs K (au rest (A.aR g.dst v)):=by
  intro hp h;rw[yM hs'] at h;cases ae:bf A g.op with
  |none=>rw[ae] at h;cases h
  |some v=>rw[ae] at h;exact ⟨v,.inr ⟨hp,ae⟩,h⟩
 simp only[au] at h;split at h
 ·rename_i hg;exact step (by simp only[pass,hg]) h
 ·rename_i t b hg;split at h
  ·rename_i b' hb;split at h
   ·rename_i hbb;subst hbb;exact step (by simp only[pass,hg];exact hb) h
   ·rename_i hbb;exact ⟨_,.inl ⟨by simp only[gR,hg];exact .inl (by rw[hb,xA hbb]),rfl⟩,h⟩
  ·rename_i hb;exact ⟨_,.inl ⟨by simp only[gR,hg];exact .inr hb,rfl⟩,h⟩
  ·cases h
theorem uo{A:af}{g:aF}{rest:List aF}(hn:gR A g):au (g::rest) A=au rest (A.aR g.dst .undef):=by
 simp only[au];cases hg:g.guard with
 |none=>simp only[gR,hg] at hn
 |some tb =>
  obtain ⟨t,b⟩:=tb;simp only[gR,hg] at hn;rcases hn with hn | hn
  ·simp only[hn];rw[if_neg (by cases b <;>simp)]
  ·simp only[hn]
theorem gw.to{A:af}{g:aF}{rest:List aF}{v:I}(hs':jQ g.op=true)(h:gw g A v):au (g::rest) A=au rest (A.aR g.dst v):=by
 rcases h with ⟨hn,rfl⟩ | ⟨hp,ae⟩
 ·exact uo hn
 ·rw[o7 hp,yM hs',ae];rfl
theorem RF{A A':af}{p:Nat→Bool}(ho:∀ n,p n=true→A'.o n=A.o n){x:I}(hx:x.only p=true):ct A' x=ct A x:=by
 cases x <;>simp only[ct]
 rename_i n q;rw[ho n (by simpa[I.only] using hx)]
mutual
theorem Sz{A A':af}{p:Nat→Bool}(ho:∀ n,p n=true→A'.o n=A.o n):∀ {x:I},x.only p=true→bh false A' x=bh false A x
 | .own n k,h=>by simp only[bh];rw[ho n (by simpa[I.only] using h)]
 | .func f caps,h=>by simp only[bh];rw[uU ho (xs:=caps) (by simpa[I.only] using h)]
 | .agg fs,h=>by simp only[bh];rw[uU ho (xs:=fs) (by simpa[I.only] using h)]
 | .undef,_ | .dv,_ | .bool _,_ | .int _ _,_ | .ak _,_ | .nilp,_ | .dO,_ | .dh,_ | .any,_ | .raw _,_ | .nils _,_ | .c0 _,_ | .slice _ _,_ | .tuple _,_ | .ref _,_ | .iface _ _,_ | .ptr _ _,_ | .view _ _ _ _ _,_ | .mref _,_ | .dx _,_ | .dA _ _,_=>by simp[bh]
theorem uU{A A':af}{p:Nat→Bool}(ho:∀ n,p n=true→A'.o n=A.o n):∀ {xs:List I},I.bY p xs=true→bO false A' xs=bO false A xs
 | [],_=>rfl
 |x::xs,h=>by
  simp only[I.bY,zz0] at h;simp only[bO,Sz ho h.1,uU ho h.2]
end
theorem GO{p:Nat→Bool}{f:aJ→I} : ∀ {xs:List aJ},(∀ x∈xs,(f x).only p=true)→I.bY p (xs.map f)=true
 | [],_=>rfl
 |x::xs,h=>by
  simp only[zz9,I.bY,zz0];exact ⟨h x (by simp),GO fun y hy=>h y (by simp[hy])⟩
theorem aed{A A':af}{p:Nat→Bool}(ho:∀ n,p n=true→A'.o n=A.o n){x:I}(hx:x.only p=true):ib A' x=ib A x:=by
 cases x with
 |mref n=>simp only[ib];rw[ho n (by simpa[I.only] using hx)]
 |raw v=>cases v <;>first | rfl | (rename_i o;cases o <;>rfl)
 |_=>rfl
theorem afT{A A':af}{op:bH}{xs:List Nat}{p:Nat→Bool}(hm:oz op=some xs)(h:eh A A' op.cO)(hx:∀ s∈xs,(A.t s).only p=true)(ho:∀ n,p n=true→A'.o n=A.o n):bf A' op=bf A op:=by
 have kQ:op.hv=0→bf A' op=bf A op:=fun hc=>zR hc h;have dl:=fun {x:I} (hx:x.only p=true)=>RF ho hx;unfold oz at hm;split at hm
 ·rename_i s x;simp only[v6] at hm;subst hm;have e:=h x (by simp[bH.cO,aJ.sl]);simp only[bf,aj,e,dl (hx x (by simp))]
 ·rename_i f off x;simp only[v6] at hm;subst hm;have e:=h x (by simp[bH.cO,aJ.sl]);have k:=hx x (by simp);simp only[bf,aj,e];generalize A.t x=u at k ⊢;cases u with
  |ptr n q=>simp only[dl (x:=.ptr n q) k]
  |ref c=>cases c <;>rfl
  |_=>rfl
 ·rename_i n esz x i;simp only[v6] at hm;subst hm;have e:=h x (by simp[bH.cO,aJ.sl]);have ei:=cZ (x:=i) (fun m hm=>h m (by simp[bH.cO,hm]));have k:=hx x (by simp);simp only[bf,ei];generalize aj A i=w;simp only[aj,e];generalize A.t x=u at k ⊢;cases u with
  |ptr n q=>simp only[dl (x:=.ptr n q) k]
  |ref c=>cases c <;>rfl
  |_=>rfl
 ·rename_i esz x i;simp only[v6] at hm;subst hm;have e:=h x (by simp[bH.cO,aJ.sl]);have ei:=cZ (x:=i) (fun m hm=>h m (by simp[bH.cO,hm]));have k:=hx x (by simp);simp only[bf,ei];generalize aj A i=w;simp only[aj,e];generalize A.t x=u at k ⊢;cases u with
  |own n l=>simp only[ho n (by simpa[I.only] using k)]
  |view n q=>simp only[dl (x:=.ptr n q) (by simpa[I.only] using k)]
  |_=>rfl
 ·rename_i x;simp only[v6] at hm;subst hm;have e:=h x (by simp[bH.cO,aJ.sl]);have k:=hx x (by simp);simp only[bf,aj,e];generalize A.t x=u at k ⊢;cases u with
  |own n l=>simp only[ho n (by simpa[I.only] using k)]
  |_=>rfl
 ·rename_i n esz x;simp only[v6] at hm;subst hm;have e:=h x (by simp[bH.cO,aJ.sl]);have k:=hx x (by simp);simp only[bf,aj,e];generalize A.t x=u at k ⊢;cases u with
  |ptr n q=>simp only[dl (x:=.ptr n q) k]
  |ref c=>cases c <;>rfl
  |_=>rfl
 ·rename_i esz x lo hi mx;simp only[v6] at hm;subst hm;have e:=h x (by simp[bH.cO,aJ.sl]);have e1:=qC (x:=lo) (fun m hm=>h m (by simp[bH.cO,hm]));have e2:=qC (x:=hi) (fun m hm=>h m (by simp[bH.cO,hm]));have e3:=qC (x:=mx) (fun m hm=>h m (by simp[bH.cO,hm]));have k:=hx x (by simp);simp only[bf,e1,e2,e3];generalize lo.map (aj A)=w1;generalize hi.map (aj A)=w2;generalize mx.map (aj A)=w3;simp only[aj,e];generalize A.t x=u at k ⊢;cases u with
  |view n q=>simp only[dl (x:=.ptr n q) (by simpa[I.only] using k)]
  |_=>rfl
 ·rename_i x;simp only[v6] at hm;subst hm;have e:=h x (by simp[bH.cO,aJ.sl]);have k:=hx x (by simp);simp only[bf,aj,e];generalize A.t x=u at k ⊢;cases u with
  |view n q=>simp only[dl (x:=.ptr n q) (by simpa[I.only] using k)]
  |_=>rfl
 ·rename_i ty z ok x kk;simp only[v6] at hm;subst hm;have e:=h x (by simp[bH.cO,aJ.sl]);have ek:=cZ (x:=kk) (fun m hm=>h m (by simp[bH.cO,hm]));have k:=hx x (by simp);simp only[bf,ek];generalize aj A kk=w;simp only[aj,e,aed ho k]
 ·rename_i x;simp only[v6] at hm;subst hm;have e:=h x (by simp[bH.cO,aJ.sl]);have k:=hx x (by simp);simp only[bf,aj,e];generalize A.t x=u at k ⊢;cases u with
  |own n l=>simp only[du,ho n (by simpa[I.only] using k)]
  |view n q=>simp only[du,dl (x:=.ptr n q) (by simpa[I.only] using k)]
  |_=>rfl
 ·rename_i esz ps;split at hm
  case isFalse=>cases hm
  rename_i hall;simp only[v6] at hm;subst hm;have hev:ps.map (aj A')=ps.map (aj A):=lB h;have hon:I.bY p (ps.map (aj A))=true:=GO fun x hx'=>by
   have h1:=zx1.1 hall x hx';cases x with
   |c _=>cases h1
   |t s=>exact hx s (by simp only[jP,List.mem_flatMap];exact ⟨_,hx',by simp[aJ.sl]⟩)
  simp only[bf,hev,uU ho hon]
 ·rfl
 ·split at hm
  ·rename_i hc;exact kQ hc.1
  ·cases hm
theorem BH{ao:eH}{A:af}{g:aF}{p:Nat→Bool}(hi:dB ao A)(h:uq ao g p=true):∃ xs,oz g.op=some xs∧∀ s∈xs,(A.t s).only p=true:=by
 unfold uq at h;split at h
 case h_2=>cases h
 rename_i xs hm;refine ⟨xs,hm,fun s hs' =>?_⟩;have h1:=zx1.1 h s hs';split at h1
 case h_2=>cases h1
 rename_i ns hn;exact j5 (fun n h2=>zx1.1 h1 n (by simpa using h2)) _ (hi s ns hn)
theorem gw.zf{A A':af}{g:aF}{v:I}{xs:List Nat}{p:Nat→Bool}(h:gw g A v)(hm:oz g.op=some xs)(ha:eh A A' g.cO)(hx:∀ s∈xs,(A.t s).only p=true)(ho:∀ n,p n=true→A'.o n=A.o n):gw g A' v:=by
 rcases h with ⟨h,rfl⟩ | ⟨h,k⟩
 ·exact .inl ⟨qY ha h,rfl⟩
 ·exact .inr ⟨oH ha h,by rw[afT hm (aF.ku ha) hx ho];exact k⟩
theorem gw.vk{ao:eH}{A:af}{g:aF}{v:I}(hi:dB ao A)(hg:iX hs ao g=true)(h:gw g A v):dB ao (A.aR g.dst v):=by
 rcases h with ⟨_,rfl⟩ | ⟨_,k⟩
 ·exact hi.put (fun _=>rfl) fun _ _ _ _=>rfl
 ·exact hi.put (fun _=>rfl) (GB hi hg k)
theorem gw.cR{A A':af}{g:aF}{v:I}(h:gw g A v)(hu:en A A')(ha:eh A A' g.cO):gw g A' v:=by
 rcases h with ⟨h,rfl⟩ | ⟨h,k⟩
 ·exact .inl ⟨qY ha h,rfl⟩
 ·exact .inr ⟨oH ha h,G7 hu (aF.ku ha) k⟩
theorem Fp{ao:eH}{g h:aF}(hi:vi hs ao g h=true):jQ g.op=true∧pD hs ao g h=true∧(∀ d,g.dst=some d→d∉h.cO)∧(∀ d,g.dst=some d→h.dst≠some d)∧(∀ d,h.dst=some d→d∉g.cO):=by
 simp only[vi,zz0] at hi;obtain ⟨h1,h2,h3,h4⟩:=hi;refine ⟨h1,h2,fun d hd =>?_,fun d hd =>?_,fun d hd =>?_⟩
 ·rw[hd] at h3;simp at h3;exact h3.1
 ·rw[hd] at h3;simp at h3;exact h3.2
 ·rw[hd] at h4;simpa using h4
theorem BM{aG:Bool}{A A':af}{ρ:List (Nat×Nat)}{os:List (Nat×al)}(hu:en A A'):∀ {xs cs:List I},gZ aG A ρ os xs cs→gZ aG A' ρ os xs cs
 | [],[],_=>trivial
 |x::xs,c::cs,h=>⟨h.1.imp id fun h=>Eo hu h,BM hu h.2⟩
 | [],_::_,h=>h.elim
 |_::_,[],h=>h.elim
theorem aeo{A:af}{d:Option Nat}{v:I}{ts:List (Nat×I)}{os:List (Nat×al)}(h:A.aR d v=aC ts os):∃ ts2,A=aC ts2 os∧∀ X:List (Nat×al),(aC ts2 X).aR d v=aC ts X:=by
 cases d with
 |none=>exact ⟨ts,h,fun _=>rfl⟩
 |some d =>
  have ht:∀ k,(A.aR (some d) v).t k=cE ts k:=fun k=>by rw[h];rfl
  have ho:A.o=aq os:=by
   have:(A.aR (some d) v).o=aq os:=by rw[h];rfl
   rwa [iG] at this
  refine ⟨(d,A.t d)::ts,?_,fun X =>?_⟩
  ·cases A with
   |mk t o =>
    simp only[aC,af.mk.injEq];refine ⟨funext fun k =>?_,ho⟩;have:=ht k;simp only[af.aR,af.put] at this;simp only[cE];by_cases hk:k=d
    ·subst hk;simp
    ·rw[if_neg hk] at this;have hk':¬ d=k:=fun e=>hk e.symm;simp only[hk,if_false];exact this
  ·simp only[af.aR,af.put,aC,af.mk.injEq,and_true]
   funext k
   have:=ht k;simp only[af.aR,af.put] at this;by_cases hk:k=d
   ·subst hk;simp at this ⊢;exact this
   ·have hk':¬ d=k:=fun e=>hk e.symm;simp only[cE,hk,if_false]
theorem afO{ρ:List (Nat×Nat)}{os0 os':List (Nat×al)}{r:I}(hb:dG false ρ [] os0 r os'){n:Nat}{x:al}(hx:aq os0 n=some x):aq (dp ρ os'++os0) n=some x:=by
 rw[s7];cases hp:pre ρ os' n with
 |none=>exact hx
 |some m =>
  obtain ⟨h1,h2⟩:=j6 hp;have:=(hb.qU m h1 (by simp[ay,aq])).1;rw[h2,hx] at this;cases this
theorem bQ.NG{A B:af}{j:aF}{v:I}{f:FuncId}{args:List aJ}{dst:Option Nat}{rest:List aF}(hj:jQ j.op=true)(ae:gw j A v)(hB:B=A.aR j.dst v)(hf:hs.contains f=false)(hag:eh A B (jP args))(hd:∀ d,j.dst=some d→dst≠some d)(hr:∀ d,dst=some d→d∉j.cO)
  (h:bQ P Y hs K (.call f (args.map (aj B)) (bO true B (args.map (aj B))) (bO false B (args.map (aj B))) dst rest B)):bQ P Y hs K (.call f (args.map (aj A)) (bO true A (args.map (aj A))) (bO false A (args.map (aj A))) dst (j::rest) A):=by
 have eo:B.o=A.o:=by rw[hB,iG]
 have cR:en B A:=fun n x hx=>by rwa [←eo]
 have up':en A B:=fun n x hx=>by rwa [eo]
 have eav:args.map (aj B)=args.map (aj A):=lB hag;rw[eav] at h;have cont:∀ r:I,bQ P Y hs K (au rest (B.aR dst r))→bQ P Y hs K (au (j::rest) (A.aR dst r)):=fun r hw=>by
  have h1:gw j (A.aR dst r) v:=ae.cR (fun n x hx=>by rwa [iG]) (nB hr);rw[h1.to hj,rm (fun d hd'=>fun e=>hd d e hd'),←hB];exact hw
 generalize e1:bO true B (args.map (aj A))=a1 at h;generalize e2:bO false B (args.map (aj A))=a2 at h;generalize hBm:B=B0 at h;cases h with
 |flat r hc hfl hw =>
  subst hBm;rw[kP cR e1];exact .flat r hc hfl (cont r hw)
 |lead r hc hw =>
  subst hBm;rw[kP cR e2];exact .lead r hc (cont r hw)
 |bG ρ cargs post hfl hc hg ha hb hw =>
  rename_i ts os0;rw[hB] at hBm;obtain ⟨ts2,hA,hts⟩:=aeo hBm;have hA':=hA;clear cont;subst hA;refine .bG ρ cargs post hfl hc hg (BM (A:=aC ts os0) (A':=aC ts2 os0) (fun n x hx=>hx) ha) hb fun r os' hp =>?_;have h1:gw j ((aC ts2 (dp ρ os'++os0)).aR dst (r.aQ (bp ρ))) v:=ae.cR (fun n x hx=>by
   rw[iG];exact afO (hb r os' hp) hx) (fun k hk=>by
    have:=nB (A:=aC ts2 (dp ρ os'++os0)) (v:=r.aQ (bp ρ)) hr k hk;rw[this];rfl)
  rw[h1.to hj,rm (fun d hd'=>fun e=>hd d e hd'),hts];exact hw r os' hp
 |qZ aG ρ os cargs post hfs =>
  rw[hf] at hfs;cases hfs
theorem bQ.tO{ao:eH}{A:af}{j g:aF}{rest:List aF}(hinv:dB ao A)(hi:vi hs ao j g=true)(hw:bQ P Y hs K (au (j::g::rest) A)):bQ P Y hs K (au (g::j::rest) A):=by
 obtain ⟨hj,hl,i1,i2,i3⟩:=Fp hi;obtain ⟨v,ae,hw⟩:=bQ.Av hj hw;have ag:eh (A.aR j.dst v) A g.cO:=(nB i1).symm;have ag':eh A (A.aR j.dst v) g.cO:=nB i1;have cR:en (A.aR j.dst v) A:=fun n x hx=>by rwa [iG] at hx
 have up':∀ (d:Option Nat) (u:I),en A (A.aR d u):=fun d u n x hx=>by rwa [iG]
 by_cases hsg:jQ g.op=true
 ·obtain ⟨u,hu,hw⟩:=bQ.Av hsg hw;rw[(hu.cR cR ag).to hsg,(ae.cR (up' _ _) (nB i3)).to hj,←rm i2];exact hw
 ·-- the guard
  have guard:(gR (A.aR j.dst v) g∧au (g::rest) (A.aR j.dst v)=au rest ((A.aR j.dst v).aR g.dst .undef))∨(pass (A.aR j.dst v) g∧au (g::rest) (A.aR j.dst v)=aX (A.aR j.dst v) g.dst g.op rest (au rest))∨au (g::rest) (A.aR j.dst v)=.fail:=by
   cases hg:g.guard with
   |none=>exact .inr (.inl ⟨by simp only[pass,hg],by simp only[au,hg]⟩)
   |some tb =>
    obtain ⟨t,b⟩:=tb;cases ht:(A.aR j.dst v).t t with
    |bool b' =>
     by_cases hbb:b'=b
     ·subst hbb;have hp:pass (A.aR j.dst v) g:=by simp only[pass,hg,ht]
      exact .inr (.inl ⟨hp,o7 hp⟩)
     ·have hn:gR (A.aR j.dst v) g:=by simp only[gR,hg];exact .inl (by rw[ht,xA hbb])
      exact .inl ⟨hn,uo hn⟩
    |undef =>
     have hn:gR (A.aR j.dst v) g:=by simp only[gR,hg];exact .inr ht
     exact .inl ⟨hn,uo hn⟩
    |_=>exact .inr (.inr (by simp only[au,hg,ht]))
  rcases guard with ⟨hn,he⟩ | ⟨hp,he⟩ | he
  ·rw[he] at hw;rw[uo (qY ag hn),(ae.cR (up' _ _) (nB i3)).to hj,←rm i2];exact hw
  ·rw[he] at hw;rw[o7 (oH ag hp)];obtain ⟨dst,op,gd⟩:=g;simp only at hw hsg i2 i3 ⊢;cases op with
   |alloc z =>
    cases dst with
    |none=>simp only[aX] at hw;cases hw
    |some d =>
    simp only[aX] at hw ⊢;split at hw
    case h_2=>cases hw
    rename_i ho;rw[iG] at ho;simp only[ho];have h1:gw j ((A.aM d (.box z)).put d (.ptr d [])) v:=ae.cR (fun n y hy=>by
     have:n≠d:=fun he=>by rw[he,ho] at hy;cases hy
     simp only[af.put,af.aM,this,if_false];exact hy) (fun k hk=>by
     have:k≠d:=fun he=>i3 d rfl (he▸hk);simp only[af.put,af.aM,this,if_false])
    rw[h1.to hj];have e:((A.aR j.dst v).aM d (.box z)).put d (.ptr d [])=((A.aM d (.box z)).put d (.ptr d [])).aR j.dst v:=by
     cases hgd:j.dst with
     |none=>rfl
     |some e =>
      have hne:e≠d:=fun he=>i2 e hgd (by rw[he]);simp only[af.aR,af.put,af.aM,af.mk.injEq,and_true]
      funext k
      by_cases h1:k=e <;>by_cases h2:k=d <;>simp_all
    rw[←e];exact hw
   |box x =>
    have ex:aj (A.aR j.dst v) x=aj A x:=cZ (aF.ku ag');cases dst with
    |none=>simp only[aX] at hw;cases hw
    |some d =>
    simp only[aX] at hw ⊢;split at hw
    case h_2=>cases hw
    rename_i ho;rw[iG] at ho;simp only[ho];rw[ex] at hw;split at hw
    case isFalse=>cases hw
    rename_i hval;rw[if_pos hval];have h1:gw j ((A.aM d (.box (aj A x))).put d (.ptr d [])) v:=ae.cR (fun n y hy=>by
     have:n≠d:=fun he=>by rw[he,ho] at hy;cases hy
     simp only[af.put,af.aM,this,if_false];exact hy) (fun k hk=>by
     have:k≠d:=fun he=>i3 d rfl (he▸hk);simp only[af.put,af.aM,this,if_false])
    rw[h1.to hj];have e:((A.aR j.dst v).aM d (.box (aj A x))).put d (.ptr d [])=((A.aM d (.box (aj A x))).put d (.ptr d [])).aR j.dst v:=by
     cases hgd:j.dst with
     |none=>rfl
     |some e =>
      have hne:e≠d:=fun he=>i2 e hgd (by rw[he]);simp only[af.aR,af.put,af.aM,af.mk.injEq,and_true]
      funext k
      by_cases h1:k=e <;>by_cases h2:k=d <;>simp_all
    rw[←e];exact hw
   |fC x =>
    have ex:aj (A.aR j.dst v) x=aj A x:=cZ (aF.ku ag');simp only[aX] at hw ⊢;rw[ex] at hw;cases hse:nK (aj A x) with
    |none=>rw[hse] at hw;simp only[jM] at hw;cases hw
    |some ys =>
    rw[hse] at hw;cases dst with
    |none=>simp only[jM] at hw;cases hw
    |some d =>
    simp only[jM] at hw ⊢;rw[iG] at hw;split at hw
    case h_2=>cases hw
    rename_i ho;refine .any fun m hm =>?_;have hw:=hw.um m hm;generalize hbx:al.box (.agg (ys++List.replicate m (.int .u8 0)))=aG at hw ⊢;generalize hvw:I.view d [] 1 0 ys.length=vw at hw ⊢;have h1:gw j ((A.aM d aG).aR (some d) vw) v:=ae.cR (fun n y hy=>by
     have:n≠d:=fun he=>by rw[he,ho] at hy;cases hy
     simp only[af.aR,af.put,af.aM,this,if_false];exact hy) (fun k hk=>by
     have:k≠d:=fun he=>i3 d rfl (he▸hk);simp only[af.aR,af.put,af.aM,this,if_false])
    rw[h1.to hj];have e:((A.aR j.dst v).aM d aG).aR (some d) vw=((A.aM d aG).aR (some d) vw).aR j.dst v:=by
     cases hgd:j.dst with
     |none=>rfl
     |some e =>
      have hne:e≠d:=fun he=>i2 e hgd (by rw[he]);simp only[af.aR,af.put,af.aM,af.mk.injEq,and_true]
      funext k
      by_cases h1:k=e <;>by_cases h2:k=d <;>simp_all
    rw[←e];exact hw
   |call f args =>
    simp only[aX] at hw ⊢;refine bQ.NG hj ae rfl (by simpa[pD,qP] using hl) (aF.ku ag') i2 i3 hw
   |aS s y u =>
    cases dst with
    |some d=>simp only[aX] at hw;cases hw
    |none =>
    have ey:aj (A.aR j.dst v) y=aj A y:=cZ (aF.ku ag').l;have eu:aj (A.aR j.dst v) u=aj A u:=cZ (aF.ku ag').r;simp only[aX] at hw ⊢;rw[ey,eu,iG] at hw;cases hx:aj A y <;>simp only[hx] at hw ⊢ <;>try (cases hw;done)
    rename_i n q;cases ho:A.o n with
    |none=>rw[ho] at hw;cases hw
    |some ob =>
    rw[ho] at hw;cases ob <;>simp only at hw ⊢ <;>try (cases hw;done)
    rename_i b;cases hb:b.at q with
    |none=>rw[hb] at hw;cases hw
    |some old =>
    rw[hb] at hw;simp only at hw ⊢;split at hw
    case isFalse=>cases hw
    rename_i hok;rw[if_pos hok];have h1:gw j (A.aM n (.box (b.dR q (aj A u)))) v:=by
     have none0:oz j.op=some []→gw j (A.aM n (.box (b.dR q (aj A u)))) v:=fun hm=>ae.zf (p:=fun _=>false) hm (fun _ _=>rfl) (fun s hs'=>by cases hs') (fun m hm=>by cases hm);cases y with
     |c y =>
      simp only[pD,qP,jQ,Bool.false_or] at hl;split at hl
      ·rename_i hm;exact none0 hm
      ·cases hl
     |t y =>
      simp only[pD,qP,jQ,Bool.false_or] at hl;split at hl
      ·rename_i hm;exact none0 hm
      ·split at hl
       case h_2=>cases hl
       rename_i ms hms;obtain ⟨xs,hm,hx2⟩:=BH hinv hl;refine ae.zf hm (fun _ _=>rfl) hx2 fun m hm2 =>?_;have hn:=hinv y ms hms;simp only[aj] at hx;rw[hx] at hn;have:m≠n:=fun e=>by subst e;simp[I.only] at hn hm2;exact hm2 hn
       simp only[af.aM,if_neg this]
    rw[h1.to hj];have e:(A.aR j.dst v).aM n (.box (b.dR q (aj A u)))=(A.aM n (.box (b.dR q (aj A u)))).aR j.dst v:=by cases j.dst <;>rfl
    rw[←e];exact hw
   |eB e esz bytes z s x =>
    have hag:eh A (A.aR j.dst v) (s.sl++x.sl):=aF.ku ag';have he2:aX (A.aR j.dst v) dst (.eB e esz bytes z s x) rest (au rest)=aX A dst (.eB e esz bytes z s x) (j::rest) fun B=>au rest (B.aR j.dst v):=by
     cases hjd:j.dst with
     |none=>rfl
     |some d =>
      rw[hjd] at hag;exact Lm (fun e=>i2 d hjd e) hag rest (j::rest) (au rest)
    rw[he2] at hw;have lD:∀ B,uc A dst (aj A s) B→au (j::rest) B=au rest (B.aR j.dst v):=fun B hB=>by
     have hagB:eh A B j.cO:=fun k hk=>hB.1 k fun e=>i3 k e hk;have:gw j B v:=by
      simp only[pD,qP,jQ,Bool.false_or,Bool.or_eq_true] at hl;rcases hl with hl | hl
      ·obtain ⟨xs,hm,hx2⟩:=BH hinv hl;exact ae.zf hm hagB hx2 fun m hm2=>by cases hm2
      ·have:=pZ hinv hl;exact ae.cR (hB.2 (by simpa using this)) hagB
     rw[this.to hj]
    rcases BJ A dst e esz bytes z s x (j::rest) with h1 | ⟨B,h1,h2⟩ | ⟨p,bo,h1,h2⟩
    ·rw[h1] at hw;cases hw
    ·rw[h1] at hw ⊢;rw[lD B h2];exact hw
    ·rw[h1] at hw ⊢;exact .any fun m hm=>by rw[lD _ (h2 m)];exact hw.um m hm
   |_=>first | exact absurd rfl hsg | (simp[pD,qP,jQ] at hl)
  ·rw[he] at hw;cases hw
theorem adN{ao:eH}{A:af}{j:aF}{rest:List aF}(hi:dB ao A)(hl:sU hs ao j=true)(hL:iX hs ao j=true)(h:bQ P Y hs K (au (j::rest) A)):∃ A1,dB ao A1∧bQ P Y hs K (au rest A1)∧∀ rest',bQ P Y hs K (au rest' A1)→bQ P Y hs K (au (j::rest') A):=by
 obtain ⟨dst,op,gd⟩:=j;simp only[sU,zz0,Option.isNone_iff_eq_none] at hl;obtain ⟨rfl,hl⟩:=hl;simp only[au] at h ⊢;cases op with
 |alloc z =>
  cases dst with
  |none=>simp only[aX] at h;cases h
  |some d =>
   simp only[aX] at h ⊢;split at h
   case h_2=>cases h
   rename_i ho;refine ⟨_,hi.put (B:=A.aM d _) (dst:=some d) (fun _=>rfl) fun d' e ns hn =>?_,h,fun rest' h'=>h'⟩;simp only[v6] at e;subst e;simpa only[iX,hn,I.only] using hL
 |call f args =>
  simp only[zz0,Bool.not_eq_true'] at hl;obtain ⟨⟨l1,l2⟩,l3⟩:=hl;have no:∀ {v:I},∀ d,dst=some d→∀ ns,hZ ao d=some ns→v.only (fun n=>ns.contains n)=true:=fun d e ns hn=>by subst e;simp[hn] at l3
  simp only[aX] at h ⊢;generalize args.map (aj A)=avs at h ⊢;generalize e1:bO true A avs=a1 at h ⊢;generalize e2:bO false A avs=a2 at h ⊢;cases h with
  |flat r hc hf hw=>exact ⟨_,hi.put (fun _=>rfl) no,hw,fun rest' h'=>.flat r hc hf h'⟩
  |lead r hc hw=>exact ⟨_,hi.put (fun _=>rfl) no,hw,fun rest' h'=>.lead r hc h'⟩
  |bG ρ cargs post hfl=>rw[l1] at hfl;cases hfl
  |qZ aG ρ os cargs post hfs=>rw[l2] at hfs;cases hfs
 |_=>cases hl
theorem adO{ao:eH}{A:af}{j g:aF}{rest:List aF}(hi:vj hs ao j g=true)(hw:bQ P Y hs K (au (j::g::rest) A)):bQ P Y hs K (au (g::j::rest) A):=by
 obtain ⟨dst,op,gd⟩:=j;obtain ⟨dst2,op2,gd2⟩:=g;simp only[vj,sU,Gi,zz0,Option.isNone_iff_eq_none] at hi;obtain ⟨⟨rfl,hl⟩,⟨rfl,hn⟩,h1,h2⟩:=hi;cases op2 <;>simp only at hn <;>try (cases hn;done)
 rename_i z2;simp only[au] at hw ⊢;cases op with
 |alloc z =>
  cases dst with
  |none=>simp only[aX] at hw;cases hw
  |some d =>
   simp only[aX] at hw;split at hw
   case h_2=>cases hw
   rename_i ho;cases dst2 with
   |none=>cases hw
   |some d2 =>
    have hne:d2≠d:=by simpa using h1
    simp only at hw;have ho2:A.o d2=none:=by
     cases k:A.o d2 with
     |none=>rfl
     |some x =>
      have:((A.aM d (.box z)).put d (.ptr d [])).o d2=some x:=by simp only[af.put,af.aM,if_neg hne];exact k
      rw[this] at hw;cases hw
    have ho2':((A.aM d (.box z)).put d (.ptr d [])).o d2=none:=by simp only[af.put,af.aM,if_neg hne];exact ho2
    rw[ho2'] at hw;simp only[aX,ho2];have ho':((A.aM d2 (.box z2)).put d2 (.ptr d2 [])).o d=none:=by simp only[af.put,af.aM,if_neg (Ne.symm hne)];exact ho
    rw[ho'];have e:(((A.aM d (.box z)).put d (.ptr d [])).aM d2 (.box z2)).put d2 (.ptr d2 [])=(((A.aM d2 (.box z2)).put d2 (.ptr d2 [])).aM d (.box z)).put d (.ptr d []):=by
     simp only[af.put,af.aM,af.mk.injEq];constructor <;>(funext k;by_cases h1:k=d <;>by_cases h2:k=d2 <;>simp_all)
    simp only;rw[←e];exact hw
 |call f args =>
  simp only[zz0,Bool.not_eq_true'] at hl;obtain ⟨⟨l1,l2⟩,l3⟩:=hl;cases dst2 with
  |none =>
   simp only[aX] at hw;generalize args.map (aj A)=avs at hw;generalize bO true A avs=a1 at hw;generalize bO false A avs=a2 at hw;cases hw with
   |flat r hc hf hw=>simp only[au,aX] at hw;cases hw
   |lead r hc hw=>simp only[au,aX] at hw;cases hw
   |bG ρ cargs post hfl=>rw[l1] at hfl;cases hfl
   |qZ aG ρ os cargs post hfs=>rw[l2] at hfs;cases hfs
  |some d2 =>
   have hag:∀ z:al,eh A ((A.aM d2 z).put d2 (.ptr d2 [])) (jP args):=fun z k hk=>by
    have:k≠d2:=fun e=>by subst e;simp only[aF.cO,bH.cO] at h2;simp[hk] at h2
    simp only[af.put,af.aM,if_neg this]
   have fin2:∀ (r:I),bQ P Y hs K (au (⟨some d2,.alloc z2,none⟩::rest) (A.aR dst r))→A.o d2=none∧bQ P Y hs K (au rest (((A.aM d2 (.box z2)).put d2 (.ptr d2 [])).aR dst r)):=fun r hw=>by
    simp only[au,aX] at hw;rw[iG] at hw;split at hw
    case h_2=>cases hw
    rename_i ho;refine ⟨ho,?_⟩;have e:((A.aR dst r).aM d2 (.box z2)).put d2 (.ptr d2 [])=((A.aM d2 (.box z2)).put d2 (.ptr d2 [])).aR dst r:=by
     cases dst with
     |none=>rfl
     |some d =>
      have hne:d2≠d:=by simpa using h1
      simp only[af.aR,af.put,af.aM,af.mk.injEq,and_true]
      funext k
      by_cases h1:k=d <;>by_cases h2:k=d2 <;>simp_all
    rw[←e];exact hw
   have cR:A.o d2=none→en A ((A.aM d2 (.box z2)).put d2 (.ptr d2 [])):=fun ho n x hx=>by
    have:n≠d2:=fun e=>by rw[e,ho] at hx;cases hx
    simp only[af.put,af.aM,if_neg this];exact hx
   simp only[aX] at hw ⊢;have eav:=lB (hag (.box z2));generalize e0:args.map (aj A)=avs at hw;generalize e1:bO true A avs=a1 at hw;generalize e2:bO false A avs=a2 at hw;cases hw with
   |flat r hc hf hw =>
    obtain ⟨ho,hw⟩:=fin2 r hw;simp only[ho];rw[eav,e0,kP (cR ho) e1];exact .flat r hc hf hw
   |lead r hc hw =>
    obtain ⟨ho,hw⟩:=fin2 r hw;simp only[ho];rw[eav,e0,kP (cR ho) e2];exact .lead r hc hw
   |bG ρ cargs post hfl=>rw[l1] at hfl;cases hfl
   |qZ aG ρ os cargs post hfs=>rw[l2] at hfs;cases hfs
 |_=>cases hl
theorem bQ.jz{ao:eH}{g:aF} : ∀ {l:List aF} {r:List aF} {A:af},dB ao A→(∀ j∈l,sL hs ao j g=true∧iX hs ao j=true)→bQ P Y hs K (au (l++g::r) A)→bQ P Y hs K (au (g::(l++r)) A)
 | [],r,A,_,_,h=>h
 |j::l,r,A,hinv,hi,h=>by
  have hor:=(hi j (by simp)).1;simp only[sL,Bool.or_eq_true] at hor;rcases hor with hia | hib
  ·have hj:=(Fp hia).1;obtain ⟨v,ae,h2⟩:=bQ.Av (g:=j) (rest:=l++g::r) hj h;have h3:=bQ.jz (l:=l) (r:=r) (ae.vk hinv (hi j (by simp)).2) (fun k hk=>hi k (by simp[hk])) h2;refine bQ.tO hinv hia ?_;rw[ae.to hj];exact h3
  ·have hlj:sU hs ao j=true:=by simp only[vj,zz0] at hib;exact hib.1
   obtain ⟨A1,k1,k2,k3⟩:=adN (rest:=l++g::r) hinv hlj (hi j (by simp)).2 h;exact adO hib (k3 _ (bQ.jz (l:=l) (r:=r) k1 (fun k hk=>hi k (by simp[hk])) k2))
end
def vP:List Nat→Bool
 | []=>true
 |a::l => !l.contains a&&vP l
def ui(hs:List FuncId)(ao:eH)(gs:List aF)(cl:List Nat):List Nat→List Nat→Bool
 |_,[]=>true
 |before,i::σ=>(before.all fun j=>(cl.getD i 0).testBit j||sL hs ao (gs.getD j default) (gs.getD i default))&&ui hs ao gs cl (i::before) σ
def wb(hs:List FuncId)(ao:eH)(on:List (List Nat))(gs:List aF)(cl:List Nat)(σ:List Nat):Bool :=
 (Nat.beq σ.length gs.length&&(vP σ&&(σ.all (fun i=>decide (i<gs.length))&&((List.range gs.length).all (fun i=>σ.contains i)&&gs.all fun g=>v8 g.op&&iX hs ao g))))&&(ui hs ao gs cl [] σ&&(List.range gs.length).all fun i=>(on.getD i []).all (fun k=>decide (k<i))&&Nat.beq (cl.getD i 0) (p6 cl (on.getD i [])))
theorem Gk:∀ {l:List Nat},vP l=true→l.Nodup
 | [],_=>List.nodup_nil
 |a::l,h=>by
  simp only[vP,zz0,Bool.not_eq_true',List.contains_eq_mem,decide_eq_false_iff_not] at h;exact List.nodup_cons.2 ⟨h.1,Gk h.2⟩
theorem BF{hs:List FuncId}{ao:eH}{gs:List aF}{cl:List Nat} : ∀ {σ before:List Nat},ui hs ao gs cl before σ=true→∀ s1 i s2,σ=s1++i::s2→∀ j,j∈before∨j∈s1→(cl.getD i 0).testBit j=true∨sL hs ao (gs.getD j default) (gs.getD i default)=true
 | [],_,_,s1,i,s2,e,_,_=>by cases s1 <;>cases e
 |a::σ,before,h,s1,i,s2,e,j,hj=>by
  simp only[ui,zz0,zx1,Bool.or_eq_true] at h;cases s1 with
  |nil =>
   simp only[zy3,zx6] at e;obtain ⟨rfl,rfl⟩:=e;rcases hj with hj | hj
   ·exact h.1 j hj
   ·cases hj
  |cons b s1 =>
   simp only[zz8,zx6] at e;obtain ⟨rfl,rfl⟩:=e;refine BF h.2 s1 i s2 rfl j ?_;rcases hj with hj | hj
   ·exact .inl (zu7 _ hj)
   ·rcases zx7.1 hj with hj | hj
    ·exact .inl (by rw[hj];exact zw9)
    ·exact .inr hj
def jL(σ:List Nat)(listed:Array Bool):List Nat:=σ.filter fun i => !listed.getD i true
def pF(gs:List aF)(σ:List Nat)(listed:Array Bool):List aF:=(jL σ listed).map fun i=>gs.getD i default
theorem ago{σ:List Nat}{listed:Array Bool}{i:Nat}(hn:σ.Nodup)(hi:i∈σ)(hl:i<listed.size)(hu:listed.getD i true=false):∃ s1 s2,σ=s1++i::s2∧jL σ listed=(s1.filter fun j => !listed.getD j true)++i::(s2.filter fun j => !listed.getD j true) ∧
  jL σ (listed.setIfInBounds i true)=(s1.filter fun j => !listed.getD j true)++(s2.filter fun j => !listed.getD j true):=by
 obtain ⟨s1,s2,rfl⟩:=List.append_of_mem hi;have same:∀ j,j≠i→(listed.setIfInBounds i true).getD j true=listed.getD j true:=fun j hj=>getD_set_ne true (Ne.symm hj);have lE:(listed.setIfInBounds i true).getD i true=true:=by simp[hl]
 have hnd:=List.nodup_append.1 hn;have h1:∀ j∈s1,j≠i:=fun j hj=>hnd.2.2 j hj i zw9;have h2:∀ j∈s2,j≠i:=fun j hj e=>(List.nodup_cons.1 hnd.2.1).1 (e▸hj);refine ⟨s1,s2,rfl,?_,?_⟩
 ·simp only[jL,List.filter_append,List.filter_cons,hu,Bool.not_false,if_true]
 ·simp only[jL,List.filter_append,List.filter_cons,lE,Bool.not_true,zy0,if_false]
  congr 1
  ·exact List.filter_congr fun j hj=>by rw[same j (h1 j hj)]
  ·exact List.filter_congr fun j hj=>by rw[same j (h2 j hj)]
structure Bx (hs:List FuncId) (ao:eH) (l:List Oper) (gs:List aF) (σ:List Nat):Prop where
 aeB:σ.Nodup
 lt:∀ i∈σ,i<gs.length
 all:∀ i,i<gs.length→i∈σ
 ok:∀ g∈gs,v8 g.op=true∧iX hs ao g=true
 len:σ.length=gs.length
 mY:∀ i o,l[i]?=some o→∀ k∈eR o,k<i
 yU:∀ (S:Nat→Prop),(∀ i o,l[i]?=some o→S i→∀ k∈eR o,S k)→∀ s1 i s2 o,σ=s1++i::s2→l[i]?=some o→(∀ k∈eR o,S k)→∀ j∈s1,¬ S j→sL hs ao (gs.getD j default) (gs.getD i default)=true
theorem afK{hs:List FuncId}{ao:eH}{l:List Oper}{gs:List aF}{cl σ:List Nat}(hlen:gs.length=l.length)(h:wb hs ao (l.map eR) gs cl σ=true):Bx hs ao l gs σ:=by
 simp only[wb,zz0,zx1,decide_eq_true_eq,List.mem_range,List.contains_eq_mem] at h;obtain ⟨⟨h1,h2,h3,h4,h5⟩,h6,h7⟩:=h;have bw:∀ i o,l[i]?=some o→(∀ k∈eR o,k<i)∧(∀ j,(cl.getD i 0).testBit j=true→j∈eR o∨∃ k∈eR o,(cl.getD k 0).testBit j=true):=by
  intro i o ho;have hi:i<l.length:=(zy4.1 ho).1;have h8:=h7 i (by omega);have hon:(l.map eR).getD i []=eR o:=by simp[zz2,ho]
  rw[hon] at h8;have hb:=Nat.eq_of_beq_eq_true h8.2;exact ⟨h8.1,fun j hj=>AQ (by rw[←hb];exact hj)⟩
 refine ⟨Gk h2,h3,h4,h5,Nat.eq_of_beq_eq_true h1,fun i o ho=>(bw i o ho).1,?_⟩;intro S hS s1 i s2 o e ho hon j hj hnj;have key:∀ n i o,i≤n→l[i]?=some o→(∀ k∈eR o,S k)→∀ j,(cl.getD i 0).testBit j=true→S j:=by
  intro n
  induction n with
  |zero =>
   intro i o hi ho hon j hj;obtain ⟨h8,h9⟩:=bw i o ho;rcases h9 j hj with h | ⟨k,hk,_⟩
   ·exact hon j h
   ·have:=h8 k hk;omega
  |succ n ih =>
   intro i o hi ho hon j hj;obtain ⟨h8,h9⟩:=bw i o ho;rcases h9 j hj with h | ⟨k,hk,hjk⟩
   ·exact hon j h
   ·have hki:=h8 k hk;have hkl:k<l.length:=Nat.lt_trans hki (zy4.1 ho).1;obtain ⟨ok,hok⟩:∃ ok,l[k]?=some ok:=⟨l[k],zz5 hkl⟩
    exact ih k ok (by omega) hok (hS k ok hok (hon k hk)) j hjk
 rcases BF h6 s1 i s2 e j (.inr hj) with h | h
 ·exact absurd (key i i o (zy1 _) ho hon j h) hnj
 ·exact h
section
variable {c:cP}
theorem abX{K:af→Prop}{hs:List FuncId}{ao:eH}{br:Array Oper}{Q:Exit→Act→World→Prop}{o:Oper}{g:aF}{rest:List aF}{A:af}{a:Act}{w:World}{Kw:Act→World→Prop}(hg:na c.P c.n br o=some g)(hi:dB ao A)(ho:v8 g.op=true∧iX hs ao g=true)(hwp:bQ c.P c.Y hs K (au (g::rest) A))(hs':bP c A a w)
  (hK:∀ B a' w',bQ c.P c.Y hs K (au rest B)→dB ao B→bP c B a' w'→Kw a' w'):if Region.wanted o (yielded br a.tmps) then o.wpIn c.bo 9 c.P a w Kw Q else (∀ f,o.about c.P w a.eval=some f→c.bo.fn f)∧Kw (a.put o.dst undef) w:=by
 obtain ⟨h1,h2,h3,h4⟩:=qo hg;have step:bQ c.P c.Y hs K (aX A g.dst g.op rest (au rest))→o.wpIn c.bo 9 c.P a w Kw Q:=fun h =>
  u6 h1 h2.symm (by rw[h2];exact h3) (bQ.one (Y:=c.Y) hi ho.1 ho.2 h) hs' (fun B a' w' hw hs2=>by
   cases hw with
   |done hk=>exact hK B a' w' hk.1 hk.2 hs2)
 simp only[au] at hwp;rcases h4 with ⟨h5,h6⟩ | ⟨j,b,t,h5,h6,h7⟩
 ·rw[h6] at hwp;have hw:Region.wanted o (yielded br a.tmps)=true:=by simp[Region.wanted,h5]
  rw[hw,if_pos rfl];exact step hwp
 ·rw[h7] at hwp;simp only at hwp;split at hwp
  ·rename_i b' hb';rw[ve hs' h5 h6 hb'];split at hwp
   ·rename_i hbb;subst hbb;simp only[BEq.rfl,if_true];exact step hwp
   ·rename_i hbb;have:(b'==b)=false:=by simpa using hbb
    rw[this];simp only[zy0,if_false];exact ⟨fun f _=>nj c f,hK _ _ _ hwp (hi.put (fun _=>rfl) fun _ _ _ _=>rfl) (by rw[h2];exact hs'.oJ h3)⟩
  ·rename_i hb';rw[vf hs' h5 h6 hb'];simp only[zy0,if_false];exact ⟨fun f _=>nj c f,hK _ _ _ hwp (hi.put (fun _=>rfl) fun _ _ _ _=>rfl) (by rw[h2];exact hs'.oJ h3)⟩
  ·cases hwp
theorem La{K:af→Prop}{fs:List FuncId}{ao:eH}{br:Array Oper}{gs:List aF}{σ:List Nat}{Q:Exit→Act→World→Prop}(hQ:∀ B a w,K B→bP c B a w→Q .normal a w)(hgs:gy c.P c.n br br.toList=some gs)(hd:Bx fs ao br.toList gs σ) :
  ∀ (fuel:Nat) (listed:Array Bool) (A:af) (a:Act) (w:World),listed.size=br.size→(∀ i o,br.toList[i]?=some o→listed.getD i false=true→∀ k∈eR o,listed.getD k false=true)→(jL σ listed).length≤fuel →
   dB ao A→bQ c.P c.Y fs K (au (pF gs σ listed) A)→bP c A a w→wpAnyIn c.bo 9 c.P .any br Q fuel listed a w:=by
 obtain ⟨hlen,hat⟩:=oe hgs;have onOf_mem:∀ (o:Oper) (e:Edge),e∈o.after→Region.binds .any e=true→e.on∈eR o:=fun o e he hb=>by
  simp only[eR,zx4,List.mem_filter];exact ⟨e,⟨by simpa using he,hb⟩,rfl⟩
 have of_onOf:∀ (o:Oper) (k:Nat),k∈eR o→∃ e∈o.after,Region.binds .any e=true∧e.on=k:=fun o k hk=>by
  simp only[eR,zx4,List.mem_filter] at hk;obtain ⟨e,⟨h1,h2⟩,h3⟩:=hk;exact ⟨e,by simpa using h1,h2,h3⟩
 have hgl:gs.length=br.size:=by rw[hlen,zw5]
 have last:∀ (listed:Array Bool) (A:af) (a:Act) (w:World),listed.size=br.size→Region.ready .any br listed=[]→bQ c.P c.Y fs K (au (pF gs σ listed) A)→bP c A a w→Q .normal a w:=by
  intro listed A a w hsz hr hwp hs;have hnone:jL σ listed=[]:=by
   have all:∀ n,∀ i,i<n→i<br.size→listed.getD i true=true:=by
    intro n
    induction n with
    |zero=>intro i hi;omega
    |succ n ih =>
     intro i hi his;cases hb:listed.getD i true with
     |true=>rfl
     |false =>
      exfalso
      have ho:br[i]?=some br[i]:=zu2 his;have:i∈Region.ready .any br listed:=mem_ready.2 ⟨hb,br[i],ho,fun e he hbd=>by
       have hlt:=hd.mY i br[i] (by simp) e.on (onOf_mem _ e he hbd);have h1:=ih e.on (by omega) (by omega);have h2:e.on<listed.size:=by omega
       simpa[Array.getD_eq_getD_getElem?,h2] using h1⟩
      rw[hr] at this;cases this
   simp only[jL];refine List.filter_eq_nil_iff.2 fun i hi =>?_;have:=all (i+1) i (by omega) (by rw[←hgl];exact hd.lt i hi);simp only[this,Bool.not_true,zy0,not_false_eq_true]
  simp only[pF,hnone,zy9,au] at hwp;cases hwp with
  |done hk=>exact hQ A a w hk hs
 intro fuel
 induction fuel with
 |zero =>
  intro listed A a w hsz hcl hcnt hinv hwp hs;have hnone:jL σ listed=[]:=List.length_eq_zero_iff.1 (by omega);have hr:Region.ready .any br listed=[]:=by
   refine List.eq_nil_iff_forall_not_mem.2 fun i hi =>?_;obtain ⟨h1,o,ho,_⟩:=mem_ready.1 hi;have:i∈jL σ listed:=by
    simp only[jL,List.mem_filter,h1,Bool.not_false,and_true];exact hd.all i (by rw[hgl];exact (zy8.1 ho).1)
   rw[hnone] at this;cases this
  exact ⟨hr,last listed A a w hsz hr hwp hs⟩
 |succ fuel ih =>
  intro listed A a w hsz hcl hcnt hinv hwp hs;refine ⟨fun hr=>last listed A a w hsz hr hwp hs,fun i hi =>?_⟩;obtain ⟨hun,o,ho,hall⟩:=mem_ready.1 hi;have hin:i<br.size:=(zy8.1 ho).1;obtain ⟨s1,s2,hσ,e1,e2⟩:=ago hd.aeB (hd.all i (by omega)) (by omega) hun;have hol:br.toList[i]?=some o:=by simpa using ho
  obtain ⟨g,hgi,hcg⟩:=hat i o hol;have hon:∀ k∈eR o,listed.getD k false=true:=fun k hk=>by
   obtain ⟨e,h1,h2,h3⟩:=of_onOf o k hk;exact h3▸hall e h1 h2
  have hgd:gs.getD i default=g:=by simp[zz2,hgi]
  have hwp':bQ c.P c.Y fs K (au (g::pF gs σ (listed.setIfInBounds i true)) A):=by
   simp only[pF,e1,zw3,zz9,hgd] at hwp;simp only[pF,e2,zw3];refine bQ.jz hinv (fun j hj =>?_) hwp;obtain ⟨k,hk,rfl⟩:=zx4.1 hj;obtain ⟨hk1,hk2⟩:=List.mem_filter.1 hk;have:=hd.yU (fun k=>listed.getD k false=true) hcl s1 i s2 o hσ hol hon k hk1 (by
    have hks:k<listed.size:=by
     have:=hd.lt k (by rw[hσ];exact List.mem_append_left _ hk1);omega
    simp[Array.getD_eq_getD_getElem?,hks] at hk2 ⊢;exact hk2)
   rw[hgd] at this;refine ⟨this,(hd.ok _ ?_).2⟩;have hkl:=hd.lt k (by rw[hσ];exact List.mem_append_left _ hk1);rw[zz2,zz5 hkl];exact zv4 _
  unfold wpOpIn;rw[ho];refine abX hcg hinv (hd.ok g (List.mem_of_getElem? hgi)) hwp' hs fun B a' w' hw hiB hs'=>ih _ B a' w' (by simpa using hsz) ?_ ?_ hiB hw hs'
  ·intro m om hom hm k hk;by_cases hmi:m=i
   ·subst hmi;rw[hol,v6] at hom;subst hom;exact getD_set_true (hon k hk)
   ·rw[getD_set_ne false (Ne.symm hmi)] at hm;exact getD_set_true (hcl m om hom hm k hk)
  ·have:(jL σ listed).length=(jL σ (listed.setIfInBounds i true)).length+1:=by
    rw[e1,e2];simp;omega
   omega
def gE(σ:List Nat)(gs:List aF):List aF:=σ.map fun i=>gs.getD i default
theorem ab.agl{Q:Exit→af→Prop}{A:af}{on:List (List Nat)}{gs:List aF}(hs:List FuncId)(ao:eH)(cl σ:List Nat)(hd:wb hs ao on gs cl σ=true)(hi:dB ao A)(h:∀ K:af→Prop,(∀ B,Q .normal B→K B)→bQ c.P c.Y hs K (au (gE σ gs) A)):ab c (.b9 (some on) gs) Q A:=by
 intro code hc a w hs';cases code <;>simp only[eU] at hc <;>try (first | (cases hc;done) | ((repeat' split at hc) <;>cases hc;done))
 rename_i id br draw;split at hc
 ·rename_i gs' hgs;split at hc
  case isFalse=>cases hc
  rename_i hok;simp only[v6,bn.b9.injEq] at hc;obtain ⟨he,rfl⟩:=hc;cases draw with
  |false=>cases he
  |true =>
   simp only[cond_true,v6] at he;subst he;simp only[Bool.not_true,Bool.false_or] at hok;have hp:=afK (oe hgs).1 hd;refine wpIn_region_any hok (La (K:=Q .normal) (fun B a w hk hs=>⟨B,hk,hs⟩) hgs hp br.size (Array.replicate br.size false) A a _ (by simp) ?_ ?_ hi ?_ ?_)
   ·intro i o _ h
    exfalso
    simp only[Array.getD_eq_getD_getElem?,Array.getElem?_replicate] at h;split at h <;>simp at h
   ·refine Nat.le_trans (List.length_filter_le _ _) ?_;rw[hp.len,(oe hgs).1,zw5];exact zy1 _
   ·have hall:jL σ (Array.replicate br.size false)=σ:=by
     simp only[jL];refine List.filter_eq_self.2 fun i hi =>?_;have h1:=hp.lt i hi;rw[(oe hgs).1,zw5] at h1;simp[h1]
    simp only[pF,hall];exact h _ fun _ hb=>hb
   ·obtain ⟨D,E,hs'⟩:=hs';exact ⟨D,E,hs'.grow (w' := { w with drawn:=w.drawn+1 }) ⟨rfl,rfl,rfl,zy1 _,fun _ _=>rfl⟩ (fun _ _ h=>h) (fun _ _ h _=>h) (fun b o h=>hs'.dy b o h)⟩
 ·cases hc
def gn(ts:List (Nat×I)):eH→Prop
 | []=>True
 |(s,ns)::ao=>(cE ts s).only (fun n=>ns.contains n)=true∧gn ts ao
theorem dB.of{ts:List (Nat×I)}{os:List (Nat×al)}{ao:eH}(h:gn ts ao):dB ao (aC ts os):=by
 intro s ns hn;simp only[aC]
 induction ao with
 |nil=>cases hn
 |cons q ao ih =>
  obtain ⟨s',ns'⟩:=q;simp only[gn] at h;simp only[hZ,List.find?_cons] at hn;split at hn
  ·rename_i e;simp only[zy5,v6] at hn;simp only[beq_iff_eq] at e;subst e hn;exact h.1
  ·exact ih h.2 hn
end
end Go.Abs
