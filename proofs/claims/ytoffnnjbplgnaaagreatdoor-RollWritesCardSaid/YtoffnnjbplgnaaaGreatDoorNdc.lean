/-
  A part of the proof that the law RollWrites returns true for every input; five variables of Go's library start as the text lays them (the card ties them); conditions: none beyond the statement's own. (part 3 of 6)
-/
import Derived.Test.YtoffnnjbplgnaaaGreatDoorChecked
import Derived.KernelRfl
import Derived.RangeFuncIn
import Derived.Laws.Externs
import Derived.RecoverIn
import Derived.ProofKit
import Derived.SizedLaws
import Derived.Test.YtoffnnjbplgnaaaGreatDoorNdb
set_option linter.unusedSimpArgs false
set_option linter.unusedVariables false
set_option maxHeartbeats 16000000
set_option maxRecDepth 100000
namespace Go.Abs
open Go Go.RowKit
def cm(ts:List (Nat×I)):List (Nat×I)→Prop
 | []=>True
 |(k,v)::r=>b8 ts k=v∧cm ts r
def cv(os:List (Nat×ai)):List (Nat×ai)→Prop
 | []=>True
 |(k,v)::r=>aD os k=some v∧cv os r
def ct(p:Nat→Bool):List (Nat×I)→Prop
 | []=>True
 |(_,v)::r=>v.only p=true∧ct p r
theorem wI{ts:List (Nat×I)} : ∀ {ts':List (Nat×I)},cm ts ts'→∀ k,b8 ts' k=.cU∨b8 ts' k=b8 ts k
 | [],_,k=>.inl rfl
 |(j,v)::r,h,k=>by
  simp only[cm] at h;simp only[b8];split
  ·rename_i hk;subst hk;exact .inr h.1.symm
  ·exact wI h.2 k
theorem Ep{os:List (Nat×ai)} : ∀ {os':List (Nat×ai)},cv os os'→∀ k,aD os' k=none∨aD os' k=aD os k
 | [],_,k=>.inl rfl
 |(j,v)::r,h,k=>by
  simp only[cv] at h;simp only[aD];split
  ·rename_i hk;subst hk;exact .inr h.1.symm
  ·exact Ep h.2 k
theorem BT{p:Nat→Bool} : ∀ {ts:List (Nat×I)},ct p ts→∀ k,(b8 ts k).only p=true
 | [],_,k=>by simp[b8,I.only]
 |(j,v)::r,h,k=>by
  simp only[ct] at h;simp only[b8];split
  ·exact h.1
  ·exact BT h.2 k
theorem BS{p:Nat→Bool} : ∀ {os:List (Nat×ai)},bW p os→∀ k x,aD os k=some x→x.only p=true
 | [],_,k,x,hx=>by simp[aD] at hx
 |(j,v)::r,h,k,x,hx=>by
  simp only[bW] at h;simp only[aD] at hx;split at hx
  ·simp only[v6] at hx;subst hx;exact h.1
  ·exact BS h.2 k x hx
theorem bC.cO{ts ts':List (Nat×I)}{os os':List (Nat×ai)}(h1:cm ts ts')(h2:cv os os')(h3:ct (aI os') ts')(h4:bW (aI os') os'):bC (aw ts os) (aw ts' os'):=by
 rintro c a w ⟨D,E,hs⟩;have hp:∀ n,aI os' n=true→(if aI os' n then E n else none)=E n:=fun n hn=>by simp[hn]
 refine ⟨D,fun n=>if aI os' n then E n else none,hs.sz,hs.ec,fun t =>?_,hs.de,hs.cI,hs.cK,fun n =>?_,fun n m e e' b h1 h2 h3 h4 =>?_,fun n e hn =>?_,hs.eJ,hs.cw,hs.eQ,hs.fq⟩
 ·have:=wI h1 t;rcases this with h | h
  ·simp only[aw];rw[h];simp[aP]
  ·refine aP.dz (p:=aI os') hp (BT h3 t) ?_;have:=hs.dB t;simp only[aw] at *;rw[h];exact this
 ·have ho:=hs.bx n;simp only[aw] at *;rcases Ep h2 n with h | h
  ·rw[h];simp[cS,aI,h]
  ·rw[h];by_cases hin:aD os n=none
   ·rw[hin];simp[cS,aI,h,hin]
   ·have aq:(if aI os' n then E n else none)=E n:=hp n (by simp[aI,h];cases hh:aD os n <;>simp_all);cases hx:aD os n with
    |none=>exact absurd hx hin
    |some x =>
     have hon:=BS h4 n x (h.trans hx);rw[hx] at ho;cases x with
     |box x =>
      obtain ⟨b,cs,T,k1,k2,k3,k4,k5⟩:=ho;exact ⟨b,cs,T,aq.trans k1,k2,k3,ae.dz hp _ _ (by simpa[ai.only] using hon) k4,k5⟩
     |bJ T sz es =>
      obtain ⟨aA,k1,k2,k3⟩:=ho;refine ⟨aA,aq.trans k1,k2,?_⟩;cases aA with
      |none=>exact k3
      |some bc =>
       obtain ⟨b,cap⟩:=bc;obtain ⟨cs,pre,rest,q1,q2,q3,q4,q5⟩:=k3;exact ⟨cs,pre,rest,q1,q2,q3,az.dz hp _ _ (by simpa[ai.only] using hon) q4,q5⟩
     |dJ T xs =>
      obtain ⟨aA,k1,k2,k3⟩:=ho;exact ⟨aA,aq.trans k1,k2,k3⟩
     |c6 x =>
      obtain ⟨b,k1,k2⟩:=ho;exact ⟨b,aq.trans k1,k2⟩
     |bZ ks vs =>
      obtain ⟨b,es,ck,k1,k2,k3,k4,k5,k6,k7⟩:=ho;simp only[ai.only,Z0] at hon;exact ⟨b,es,ck,aq.trans k1,k2,k3,k4,ak.dz hp _ _ hon.1 k5,ak.dz hp _ _ hon.2 k6,k7⟩
     |it ks vs left cur =>
      obtain ⟨r,b,es,ck,dN,se,la,k1,k2,k3,k4,k5,k6,k7⟩:=ho;simp only[ai.only,Z0] at hon;exact ⟨r,b,es,ck,dN,se,la,aq.trans k1,k2,k3,k4,ak.dz hp _ _ hon.1 k5,ak.dz hp _ _ hon.2 k6,k7⟩
 ·refine hs.cu n m e e' b ?_ ?_ h3 h4
  ·split at h1
   ·exact h1
   ·cases h1
  ·split at h2
   ·exact h2
   ·cases h2
 ·by_cases hi:aI os' n=true
  ·simp only[hi,if_true];exact hs.dx n e hn
  ·simp only[hi];exact .inl rfl
def bA:Nat→List I→List (Nat×I)
 |_,[]=>[]
 |k,a::aS9=>(k,a)::bA (k+1) aS9
theorem Bl:∀ (aS9:List I) (k t:Nat),b8 (bA k aS9) t=if t<k then .cU else (aS9[t-k]?).getD .cU
 | [],k,t=>by simp[bA,b8]
 |a::aS9,k,t=>by
  simp only[bA,b8,Bl aS9 (k+1) t];by_cases h:t=k
  ·subst h;simp
  ·rw[if_neg h];by_cases h2:t<k
   ·rw[if_pos (by omega),if_pos h2]
   ·rw[if_neg (by omega),if_neg h2,show t-k=(t-(k+1))+1 from by omega];simp
theorem te(args:List I)(os:List (Nat×ai)):bC (nj args os) (aw (bA 0 args) os):=by
 rintro c a w ⟨D,E,hs⟩;refine ⟨D,E,hs.sz,hs.ec,fun t =>?_,hs.de,hs.cI,hs.cK,hs.bx,hs.cu,hs.dx,hs.eJ,hs.cw,hs.eQ,hs.fq⟩;have:=hs.dB t;simp only[aw,Bl,nj,Nat.not_lt_zero,if_false,Nat.sub_zero] at *;cases h:args[t]? with
 |none=>simp[aP]
 |some x=>simpa[Y8,h] using this
theorem Yc(args:List I):bC (ni args) (aw (bA 0 args) []):=te args []
theorem Br(ts:List (Nat×I))(os:List (Nat×ai))(d:Nat)(v:I):(aw ts os).put d v=aw ((d,v)::ts) os:=rfl
theorem Bt(ts:List (Nat×I))(os:List (Nat×ai))(d:Nat)(v:I):(aw ts os).aN (some d) v=aw ((d,v)::ts) os:=rfl
theorem VB(A:ab)(v:I):A.aN none v=A:=rfl
theorem vn(ts:List (Nat×I))(os:List (Nat×ai))(d:Nat)(x:ai):(aw ts os).aQ d x=aw ts ((d,x)::os):=rfl
theorem VC(ts:List (Nat×I))(os:List (Nat×ai))(k:Nat):(aw ts os).t k=b8 ts k:=rfl
theorem VA(ts:List (Nat×I))(os:List (Nat×ai))(k:Nat):(aw ts os).o k=aD os k:=rfl
theorem cj(j:Nat)(v:I)(r:List (Nat×I))(k:Nat):b8 ((j,v)::r) k=if k=j then v else b8 r k:=rfl
theorem dX(j:Nat)(v:ai)(r:List (Nat×ai))(k:Nat):aD ((j,v)::r) k=if k=j then some v else aD r k:=rfl
theorem Vr(k:Nat):aD [] k=none:=rfl
theorem LN(A:ab)(k:Nat):af A (.t k)=A.t k:=rfl
theorem LM(A:ab)(x:I):af A (.c x)=x:=rfl
noncomputable def cD(d:Option Nat)(rest:List au)(A:ab)(v:I):bV:=ao rest (A.aN d v)
theorem UY(d:Option Nat)(rest:List au)(A:ab)(v:I):cD d rest A v=ao rest (A.aN d v):=rfl
theorem GK(v:I)(k:I→bV):b6 (some v) k=k v:=rfl
theorem FZ(A:ab):ao [] A=.done A:=rfl
noncomputable def bn(A:ab)(d:Option Nat)(op:br)(rest:List au):bV:=aW A d op rest (ao rest)
noncomputable def fT(x:I)(b:Bool)(d:Option Nat)(op:br)(rest:List au)(A:ab):bV :=
 match x with
 | .bool b'=>if b'=b then bn A d op rest else ao rest (A.aN d .undef)
 | .undef=>ao rest (A.aN d .undef)
 |_=>.fail
theorem aX.guard{P:Program}{Y:Value→List I→List (Nat×ai)→bX→Prop}{dr:Bool}{K:ab→Prop}{x b:Bool}{d:Option Nat}{op:br}{rest:List au}{A:ab}(h1:x=b→aX P Y dr K (bn A d op rest))(h2:x = !b→aX P Y dr K (ao rest (A.aN d .undef))):aX P Y dr K (fT (.bool x) b d op rest A):=by
 unfold fT;by_cases h:x=b
 ·simp only[if_pos h];exact h1 h
 ·simp only[if_neg h];exact h2 (by cases x <;>cases b <;>simp_all)
def I.c7:I→Option (List I)
 | .agg fs=>some fs
 |_=>none
def nB(p:List Nat):Option I→Option I
 |some f=>f.at p
 |none=>none
def kL(i:Nat)(p:List Nat):Option (List I)→Option I
 |some fs=>nB p fs[i]?
 |none=>none
theorem qM(c:I):c.at []=some c:=by cases c <;>rfl
theorem Gh(c:I)(i:Nat)(p:List Nat):c.at (i::p)=kL i p c.c7:=by
 cases c <;>first | rfl | (rename_i fs;simp only[I.at,kL,I.c7,nB])
def qi(fs:List I)(i:Nat)(p:List Nat)(v:I):Option I→I
 |some f=>.agg (fs.set i (f.dp p v))
 |none=>.agg fs
def oz(c:I)(i:Nat)(p:List Nat)(v:I):Option (List I)→I
 |some fs=>qi fs i p v fs[i]?
 |none=>c
theorem fA(c v:I):c.dp [] v=v:=by cases c <;>rfl
theorem wi(c:I)(i:Nat)(p:List Nat)(v:I):c.dp (i::p) v=oz c i p v c.c7:=by
 cases c <;>first | rfl | (rename_i fs;simp only[I.dp,oz,I.c7];cases fs[i]? <;>rfl)
def dE(p:List Nat):Option ai→Option I
 |some (.box c)=>c.at p
 |_=>none
def ft(A:ab):I→Option I
 | .ref x=>some x
 | .ptr n p=>dE p (A.o n)
 |_=>none
theorem jy(A:ab)(x:I):bQ A x=ft A x:=by
 cases x <;>first | rfl | (rename_i n p;simp only[bQ,ft];cases A.o n with | none=>rfl | some y=>cases y <;>rfl)
def lW(s:Option Nat)(x:I):Option I:=if bU s x=true then some x else none
def fy(s:Option Nat):Option I→Option I
 |some x=>lW s x
 |none=>none
open Classical in
noncomputable def fL(fs:List I)(f off:Nat)(y:I):Option I:=if f<fs.length∧I.sizes (fs.take f)=off then some y else none
noncomputable def ph(n:Nat)(p:List Nat)(f off:Nat):Option (List I)→Option I
 |some fs=>fL fs f off (.ptr n (p++[f]))
 |none=>none
noncomputable def pg(fs:List I)(f off:Nat):Option I→Option I
 |some v=>fL fs f off (.ref v)
 |none=>none
noncomputable def rj(f off:Nat):Option (List I)→Option I
 |some fs=>pg fs f off fs[f]?
 |none=>none
def en:Option I→Option (List I)
 |some x=>x.c7
 |none=>none
noncomputable def lN(A:ab)(f off:Nat):I→Option I
 | .ref c=>rj f off c.c7
 | .ptr n p=>ph n p f off (en (dE p (A.o n)))
 |_=>none
theorem W5(A:ab)(f off:Nat)(x:ay):aU A (.fa f off x)=lN A f off (af A x):=by
 simp only[aU];generalize af A x=y;cases y with
 |ref c =>
  cases c <;>simp only[lN,I.c7,rj]
  rename_i fs;cases h:fs[f]? with
  |none=>simp[pg]
  |some v =>
   have hl:f<fs.length:=(Z6.1 h).1;simp only[pg,fL,hl,true_and]

 |ptr n p =>
  simp only[lN,jy,ft];cases dE p (A.o n) with
  |none=>simp[en,ph]
  |some c =>
   cases c <;>simp only[en,I.c7,ph]
   simp only[fL]

 |_=>simp only[lN]
noncomputable def rn(f off:Nat)(s:Option Nat):Option (List I)→Option I
 |some fs=>match fs[f]? with
  |some v=>(fL fs f off v).bind (lW s)
  |none=>none
 |none=>none
theorem W6(A:ab)(f off:Nat)(s:Option Nat)(x:ay):aU A (.fl f off s x)=rn f off s (af A x).c7:=by
 simp only[aU];generalize af A x=y;cases y <;>simp only[rn,I.c7]
 rename_i fs;cases h:fs[f]? with
 |none=>rfl
 |some v =>
  have hl:f<fs.length:=(Z6.1 h).1;simp only[fL,hl,true_and];by_cases h1:I.sizes (fs.take f)=off <;>by_cases h2:bU s v=true <;>simp[h1,h2,lW]
open Classical in
noncomputable def im(k:Int)(n:Nat)(y:Option I):Option I:=if 0≤k∧k<n then y else none
noncomputable def iN(n esz:Nat)(fs:List I)(y:Option I):Option I:=if gA n esz fs=true then y else none
noncomputable def nU(n esz:Nat)(k:Int):Option (List I)→Option I
 |some fs=>iN n esz fs ((fs[k.toNat]?).map .ref)
 |none=>none
noncomputable def py(n esz m:Nat)(p:List Nat)(k:Int):Option (List I)→Option I
 |some fs=>iN n esz fs (some (.ptr m (p++[k.toNat])))
 |none=>none
noncomputable def my(A:ab)(n esz:Nat)(k:Int):I→Option I
 | .ref c=>im k n (nU n esz k c.c7)
 | .ptr m p=>im k n (py n esz m p k (en (dE p (A.o m))))
 |_=>none
noncomputable def px(A:ab)(n esz:Nat)(x:I):I→Option I
 | .int _ k=>my A n esz k x
 |_=>none
theorem W7(A:ab)(n esz:Nat)(x i:ay):aU A (.ia n esz x i)=px A n esz (af A x) (af A i):=by
 simp only[aU];generalize af A x=y;generalize af A i=z;cases z <;>simp only[px]
 rename_i kk k;cases y with
 |ref c =>
  simp only[my,im];split
  ·cases c <;>simp only[I.c7,nU,iN]
  ·rfl
 |ptr m p =>
  simp only[my,im,jy,ft];split
  ·cases dE p (A.o m) with
   |none=>simp[en,py]
   |some c=>cases c <;>simp only[en,I.c7,py,iN]
  ·rfl
 |_=>simp only[my];split <;>rfl
open Classical in
noncomputable def mA(m:Nat)(p:List Nat)(sz lo l esz:Nat)(k:Int):Option (List I)→Option I
 |some _=>if sz=esz∧0≤k∧k<l then some (.ptr m (p++[lo+k.toNat])) else none
 |none=>none
open Classical in
noncomputable def jf(A:ab)(esz:Nat)(k:Int):I→Option I
 | .slice sz es=>if sz=esz∧0≤k∧k<es.length then (es[k.toNat]?).map .ref else none
 | .own m l=>match A.o m with
  |some (.bJ _ sz es)=>if l=es.length∧sz=esz∧0≤k∧k<es.length then (es[k.toNat]?).map .ref else none
  |_=>none
 | .view m p sz lo l=>mA m p sz lo l esz k (en (dE p (A.o m)))
 |_=>none
noncomputable def pB(A:ab)(esz:Nat)(x:I):I→Option I
 | .int _ k=>jf A esz k x
 |_=>none
theorem W8(A:ab)(esz:Nat)(x i:ay):aU A (.is esz x i)=pB A esz (af A x) (af A i):=by
 simp only[aU];generalize af A x=y;generalize af A i=z;cases z <;>simp only[pB]
 cases y <;>simp only[jf]
 ·split <;>simp_all
 ·rename_i m p sz lo l;simp only[jy,ft];cases dE p (A.o m) with
  |none=>rfl
  |some c=>cases c <;>simp only[en,I.c7,mA]
noncomputable def mB(n esz:Nat)(s:Option Nat)(k:Int):Option (List I)→Option I
 |some fs=>im k n (iN n esz fs (fy s fs[k.toNat]?))
 |none=>none
noncomputable def pE(n esz:Nat)(s:Option Nat)(x:I):I→Option I
 | .int _ k=>mB n esz s k x.c7
 |_=>none
theorem W9(A:ab)(n esz:Nat)(s:Option Nat)(x i:ay):aU A (.ix n esz s x i)=pE n esz s (af A x) (af A i):=by
 simp only[aU];generalize af A x=y;generalize af A i=z;cases z <;>simp only[pE]
 rename_i kk k;cases y <;>simp only[I.c7,mB]
 case agg fs =>
  simp only[im,iN];split
  ·split
   ·cases fs[k.toNat]? <;>rfl
   ·rfl
  ·rfl
 all_goals (split <;>rfl)
def jF(A:ab):I→Option I
 | .slice _ es=>some (.int .i64 es.length)
 | .nils _=>some (.int .i64 0)
 | .c0 _=>some (.int .i64 0)
 | .own m l=>match A.o m with | some (.bJ _ _ es)=>if l=es.length then some (.int .i64 es.length) else none | _=>none
 | .view _ _ _ _ k=>some (.int .i64 k)
 |_=>none
theorem Xb(A:ab)(x:ay):aU A (.len x)=jF A (af A x):=by
 simp only[aU];generalize af A x=y;cases y <;>rfl
open Classical in
noncomputable def qq(n esz:Nat)(fs:List I)(y:I):Option I:=if gA n esz fs=true∧n≤maxLen∧n≠0 then some y else none
noncomputable def qt(n esz m:Nat)(p:List Nat):Option (List I)→Option I
 |some fs=>qq n esz fs (.view m p esz 0 n)
 |none=>none
noncomputable def EC(n esz:Nat):Option (List I)→Option I
 |some fs=>qq n esz fs (.slice esz fs)
 |none=>none
noncomputable def nm(A:ab)(n esz:Nat):I→Option I
 | .ptr m p=>qt n esz m p (en (dE p (A.o m)))
 | .ref c=>EC n esz c.c7
 |_=>none
theorem Xc(A:ab)(n esz:Nat)(x:ay):aU A (.va n esz x)=nm A n esz (af A x):=by
 simp only[aU];generalize af A x=y;cases y with
 |ptr m p =>
  simp only[nm,jy,ft];cases dE p (A.o m) with
  |none=>simp[en,qt]
  |some c=>cases c <;>simp only[en,I.c7,qt,qq] <;>(split <;>simp_all)
 |ref c=>cases c <;>simp only[nm,I.c7,EC,qq] <;>(split <;>simp_all)
 |_=>simp only[nm]
theorem Xa(A:ab)(s:Option Nat)(x:ay):aU A (.ld s x)=fy s (ft A (af A x)):=by
 simp only[aU,jy];cases ft A (af A x) <;>simp only[fy,lW]
noncomputable def pU(A:ab)(d:Option Nat)(a b:ay)(rest:List au):I→bV
 | .bool t=>ao rest (A.aN d (if t then af A a else af A b))
 |_=>.fail
noncomputable def qp(op:UnOp)(x:I):Option I:=match op,x with
  | .not,.bool b=>some (.bool !b)
  | .neg,.int k n=>some (.int k (k.wrap (0-n)))
  | .xor,.int k n=>some (.int k (nI k n))
  |_,_=>none
def uD(i:Nat):I→Option I
 | .tuple fs=>fs[i]?
 |_=>none
def uh(k:IntKind):I→Option I
 | .int _ n=>some (.int k (k.wrap n))
 |_=>none
noncomputable def tI(A:ab)(d:Nat)(z:I)(rest:List au):Option ai→bV
 |none=>ao rest ((A.aQ d (.box z)).put d (.ptr d []))
 |some _=>.fail
noncomputable def qP(A:ab)(d:Nat)(z:I)(rest:List au)(v:Bool):bV:=if v=true then ao rest ((A.aQ d (.box z)).put d (.ptr d [])) else .fail
noncomputable def qO(A:ab)(d:Nat)(z:I)(rest:List au):Option ai→bV
 |none=>qP A d z rest z.cC
 |some _=>.fail
open Classical in
noncomputable def ep(A:ab)(s:Option Nat)(n:Nat)(p:List Nat)(b v:I)(rest:List au):Option I→bV
 |some old=>if vE s v old then ao rest (A.aQ n (.box (b.dp p v))) else .fail
 |none=>.fail
noncomputable def td(A:ab)(s:Option Nat)(n:Nat)(p:List Nat)(v:I)(rest:List au):Option ai→bV
 |some (.box b)=>ep A s n p b v rest (b.at p)
 |_=>.fail
noncomputable def tc(A:ab)(s:Option Nat)(v:I)(rest:List au):I→bV
 | .ptr n p=>td A s n p v rest (A.o n)
 |_=>.fail
noncomputable def o8(A:ab)(d:Option Nat)(args:List I)(rest:List au):I→bV
 | .func f caps=>.call (j6 f) (gB f args caps) (bE true A (gB f args caps)) (bE false A (gB f args caps)) d rest A
 | .raw v=>.kS v args d rest A
 |_=>.fail
section
variable (d:Option Nat) (rest:List au) (A:ab)
theorem FL(op:br):ao (⟨d,op,none⟩::rest) A=bn A d op rest:=rfl
theorem FM(op:br)(t:Nat)(b:Bool):ao (⟨d,op,some (t,b)⟩::rest) A=fT (A.t t) b d op rest A:=rfl
theorem TR(op:br):fT (.bool true) true d op rest A=bn A d op rest:=by simp[fT]
theorem TO(op:br):fT (.bool false) false d op rest A=bn A d op rest:=by simp[fT]
theorem TQ(op:br):fT (.bool true) false d op rest A=ao rest (A.aN d .undef):=by simp[fT]
theorem TP(op:br):fT (.bool false) true d op rest A=ao rest (A.aN d .undef):=by simp[fT]
theorem TS(op:br)(b:Bool):fT .undef b d op rest A=ao rest (A.aN d .undef):=rfl
theorem We(x:ay):bn A d (.mv x) rest=ao rest (A.aN d (af A x)):=rfl
theorem Wi(c a b:ay):bn A d (.pick c a b) rest=pU A d a b rest (af A c):=by
 simp only[bn,aW,aU];cases af A c <;>simp only[b6,pU]
theorem VP(op:BinOp)(x y:ay):bn A d (.bin op x y) rest=b6 (bF op (af A x) (af A y)) (cD d rest A):=rfl
theorem VZ(ty:bY)(neg:Bool)(x y:ay):bn A d (.eqv ty neg x y) rest=b6 ((bT ty (af A x) (af A y)).map fun b=>.bool (if neg then !b else b)) (cD d rest A):=rfl
theorem Wn(op:UnOp)(x:ay):bn A d (.un op x) rest=b6 (qp op (af A x)) (cD d rest A):=rfl
theorem VX(k:IntKind)(x:ay):bn A d (.conv k x) rest=b6 (uh k (af A x)) (cD d rest A):=by
 simp only[bn,aW,aU];cases af A x <;>rfl
theorem V6(s:Option Nat)(x:ay):bn A d (.ld s x) rest=b6 (fy s (ft A (af A x))) (cD d rest A):=by rw[←Xa];rfl
theorem V1(f off:Nat)(x:ay):bn A d (.fa f off x) rest=b6 (lN A f off (af A x)) (cD d rest A):=by rw[←W5];rfl
theorem V2(f off:Nat)(s:Option Nat)(x:ay):bn A d (.fl f off s x) rest=b6 (rn f off s (af A x).c7) (cD d rest A):=by rw[←W6];rfl
theorem V3(n esz:Nat)(x i:ay):bn A d (.ia n esz x i) rest=b6 (px A n esz (af A x) (af A i)) (cD d rest A):=by rw[←W7];rfl
theorem V4(esz:Nat)(x i:ay):bn A d (.is esz x i) rest=b6 (pB A esz (af A x) (af A i)) (cD d rest A):=by rw[←W8];rfl
theorem V5(n esz:Nat)(s:Option Nat)(x i:ay):bn A d (.ix n esz s x i) rest=b6 (pE n esz s (af A x) (af A i)) (cD d rest A):=by rw[←W9];rfl
theorem V7(x:ay):bn A d (.len x) rest=b6 (jF A (af A x)) (cD d rest A):=by rw[←Xb];rfl
theorem Wo(n esz:Nat)(x:ay):bn A d (.va n esz x) rest=b6 (nm A n esz (af A x)) (cD d rest A):=by rw[←Xc];rfl
theorem VQ(zs:List I)(ps:List (Nat×ay)):bn A d (.bld zs ps) rest=b6 ((fB zs (ps.map fun p=>(p.1,af A p.2))).map .agg) (cD d rest A):=rfl
theorem V0(x:ay)(i:Nat):bn A d (.ext x i) rest=b6 (uD i (af A x)) (cD d rest A):=by
 simp only[bn,aW,aU];cases af A x <;>rfl
theorem Wa(f:FuncId)(caps:List ay):bn A d (.mk f caps) rest=b6 (if ((caps.map (af A)).all fun y=>y.cC)=true then some (.func f (caps.map (af A))) else none) (cD d rest A):=rfl
theorem VM(d:Nat)(z:I):bn A (some d) (.alloc z) rest=tI A d z rest (A.o d):=by
 simp only[bn,aW];cases A.o d <;>rfl
theorem VR(d:Nat)(x:ay):bn A (some d) (.box x) rest=qO A d (af A x) rest (A.o d):=by
 simp only[bn,aW];cases A.o d <;>simp only[qO,qP]
theorem Wm(s:Option Nat)(x v:ay):bn A none (.aV s x v) rest=tc A s (af A v) rest (af A x):=by
 simp only[bn,aW];cases af A x <;>simp only[tc]
 rename_i n p;cases A.o n with
 |none=>rfl
 |some y =>
  cases y <;>simp only[td]
  rename_i b;cases b.at p <;>simp only[ep]
theorem VT(f:FuncId)(args:List ay):bn A d (.call f args) rest=.call f (args.map (af A)) (bE true A (args.map (af A))) (bE false A (args.map (af A))) d rest A:=rfl
theorem VU(x:ay)(args:List ay):bn A d (.eY x args) rest=o8 A d (args.map (af A)) rest (af A x):=by
 simp only[bn,aW];cases af A x <;>rfl
end
end Go.Abs
namespace Go.Abs
open Go Go.RowKit
mutual
/-- Closed,and as a result is told: no nil slice but as the empty one. -/
def I.done:I→Bool
 | .agg fs=>I.iI fs
 | .slice _ es=>I.b7 es
 | .ref x=>x.bw
 | .func f caps=>decide (f<1000000)&&I.iI caps
 | .iface _ v=>v.bw
 | .cW ks vs=>I.b7 ks&&I.b7 vs
 | .bool _ | .int _ _ | .aj _ | .nilp | .cZ | .cL | .any | .raw _=>true
 |_=>false
def I.iI:List I→Bool
 | []=>true
 |x::xs=>x.done&&I.iI xs
end
mutual
theorem um:∀ x:I,x.done=true→x.bw=true
 | .agg fs,h=>by simp only[I.done,I.bw] at *;exact uo fs h
 | .slice _ es,h=>by simpa only[I.done,I.bw] using h
 | .ref x,h=>by simpa only[I.done,I.bw] using h
 | .func _ caps,h=>by simp only[I.done,I.bw,Z0] at *;exact uo caps h.2
 | .iface _ v,h=>by simpa only[I.done,I.bw] using h
 | .bool _,_ | .int _ _,_ | .aj _,_ | .nilp,_ | .cZ,_ | .cL,_ | .any,_ | .raw _,_=>by simp[I.bw]
 | .cW _ _,h=>by simpa only[I.done,I.bw] using h
 | .nils _,h | .c0 _,h | .ptr _ _,h | .own _ _,h | .view _ _ _ _ _,h | .mref _,h | .cR _,h | .undef,h | .cU,h | .tuple _,h=>by simp[I.done] at h
theorem uo:∀ xs:List I,I.iI xs=true→I.b7 xs=true
 | [],_=>rfl
 |x::xs,h=>by
  simp only[I.iI,I.b7,Z0] at *;exact ⟨um x h.1,uo xs h.2⟩
end
mutual
theorem zW(aB:Bool)(A:ab):∀ x:I,x.done=true→ba aB A x=some x
 | .agg fs,h=>by simp only[I.done,ba] at *;rw[uN aB A fs h];rfl
 | .slice _ es,h=>by simp only[I.done] at h;simp[ba,h]
 | .ref x,h=>by simp only[I.done] at h;simp[ba,h]
 | .func _ caps,h=>by simp only[I.done,ba,Z0,decide_eq_true_eq] at *;rw[if_pos h.1,uN aB A caps h.2];rfl
 | .iface _ v,h=>by simp only[I.done] at h;simp[ba,h]
 | .bool _,_ | .int _ _,_ | .aj _,_ | .nilp,_ | .cZ,_ | .cL,_ | .any,_ | .raw _,_=>by simp[ba]
 | .cW _ _,h=>by simp only[I.done] at h;simp[ba,h]
 | .nils _,h | .c0 _,h | .ptr _ _,h | .own _ _,h | .view _ _ _ _ _,h | .mref _,h | .cR _,h | .undef,h | .cU,h | .tuple _,h=>by simp[I.done] at h
theorem uN(aB:Bool)(A:ab):∀ xs:List I,I.iI xs=true→bE aB A xs=some xs
 | [],_=>by simp[bE]
 |x::xs,h=>by
  simp only[I.iI,Z0] at h;simp only[bE,zW aB A x h.1,uN aB A xs h.2]
end
theorem Lu{x:I}(h:x.done=true):x.cC=true:=by cases x <;>simp_all[I.done,I.cC]
class Enc (α:Type) where
 enc:α→I
 sz:Nat
 aK:bM
 gi:Bool
 done:∀ x,(enc x).done=true
 size:∀ x,(enc x).size=sz
 iz:∀ x,(enc x).aK=aK
 agg:∀ x,(enc x).isAgg=gi
open Enc (enc)
instance:Enc Int where
 enc n:=.int .i64 n
 sz:=1
 aK:=.one
 gi:=false
 done _:=rfl
 size _:=by simp[I.size]
 iz _:=by simp[I.aK]
 agg _:=rfl
instance:Enc Bool where
 enc b:=.bool b
 sz:=1
 aK:=.one
 gi:=false
 done _:=rfl
 size _:=by simp[I.size]
 iz _:=by simp[I.aK]
 agg _:=rfl
theorem pb{α:Type}[Enc α](l:List α):I.b7 (l.map enc)=true:=by
 induction l with
 |nil=>rfl
 |cons x l ih=>simp only[Z3,I.b7,um _ (Enc.done x),ih,Bool.and_self]
theorem Lv{α:Type}[Enc α](l:List α):I.iI (l.map enc)=true:=by
 induction l with
 |nil=>rfl
 |cons x l ih=>simp only[Z3,I.iI,Enc.done x,ih,Bool.and_self]
theorem X0{α:Type}[Enc α](l:List α):I.sizes (l.map enc)=l.length*Enc.sz α:=by
 rw[I.fZ (sz:=Enc.sz α) _ (by simp only[zz3];rintro x ⟨y,_,rfl⟩;exact Enc.size y)];simp
theorem wq{α:Type}[Enc α](l:List α):I.cE (l.map enc)=List.replicate l.length (Enc.aK α):=by
 induction l with
 |nil=>rfl
 |cons x l ih=>simp only[Z3,I.cE,Enc.iz x,ih,zy1,List.replicate_succ]
instance {α:Type} [Enc α]:Enc (List α) where
 enc l:=.slice (Enc.sz α) (l.map enc)
 sz:=1
 aK:=.one
 gi:=false
 done l:=by simp only[I.done];exact pb l
 size _:=by simp[I.size]
 iz _:=by simp[I.aK]
 agg _:=rfl
structure ev (n:Nat) (α:Type) where
 l:List α
 h:l.length=n
instance {n:Nat} {α:Type} [Enc α]:Enc (ev n α) where
 enc x:=.agg (x.l.map enc)
 sz:=n*Enc.sz α
 aK:=.eC (List.replicate n (Enc.aK α))
 gi:=true
 done x:=by simp only[I.done];exact Lv x.l
 size x:=by simp only[I.size,X0,x.h]
 iz x:=by simp only[I.aK,wq,x.h]
 agg _:=rfl
section
variable {α:Type} [Enc α]
theorem iJ(aB:Bool)(A:ab)(x:α):ba aB A (enc x)=some (enc x):=zW aB A _ (Enc.done x)
theorem j4(x:α):(enc x).bw=true:=um _ (Enc.done x)
theorem bI(p:Nat→Bool)(x:α):(enc x).only p=true:=lX p _ (j4 x)
theorem eZ(x:α):(enc x).cC=true:=Lu (Enc.done x)
theorem LC(x:α):bU none (enc x) = !(Enc.gi α):=by simp[bU,Enc.agg]
theorem ik(n:Nat)(x:α):bU (some n) (enc x)=(Enc.gi α&&Enc.sz α==n):=by simp[bU,Enc.agg,Enc.size]
theorem lM(x:α):(enc x).size=Enc.sz α:=Enc.size x
theorem eB(x:α):(enc x).aK=Enc.aK α:=Enc.iz x
theorem uu(n:Int):(enc n:I)=.int .i64 n:=rfl
theorem LA(n:Bool):(enc n:I)=.bool n:=rfl
theorem gR(l:List α):(enc l:I)=.slice (Enc.sz α) (l.map enc):=rfl
theorem LG:Enc.sz (List α)=1:=rfl
theorem uB(n esz:Nat)(l:List α)(h:l.length=n)(h2:Enc.sz α=esz):gA n esz (l.map enc)=true:=by
 simp only[gA,Z2,h,BEq.rfl,Bool.true_and,zz6,zz3];rintro x ⟨y,_,rfl⟩;simp[Enc.size,h2]
theorem FW(l:List α):∀ x∈l.map (enc (α:=α)),x.size=Enc.sz α:=by
 simp only[zz3];rintro x ⟨y,_,rfl⟩;exact Enc.size y
end
theorem ea(n:Int)(h1:-9223372036854775808≤n)(h2:n≤9223372036854775807):IntKind.i64.wrap n=n:=IntWalk.i64_in n ⟨h1,h2⟩
theorem aR.mk{P:Program}{f:FuncId}{fn:Func}{x:bl}{rs:List bt}{args:List I}{r:I}(hf:P.funcs[f]?=some fn)(hcall:dM P f=true)(hc:(fn.body.bind (dL P fn.ntmps))=some x)
  (hrs:fP P fn.results.toList=some rs) (hn:args.length≤fn.ntmps) (h:∀ (w:World) (D:aJ) (E:aM),U ⟨P,w,D,fn.ntmps,bR E,E,fw,none,none⟩ x (jO rs r) (aw (bA 0 args) [])):aR P f args r:=by
 obtain ⟨body,hb,hc'⟩:=zy5.1 hc;exact aR.sq hf hb hcall hc' hrs hn (fun w D E=>(h w D E).sub (Yc args))
end Go.Abs
namespace Go.Abs.C
open Go Go.Abs
abbrev o(a:Nat)(x:br):au:=⟨some a,x,none⟩
abbrev bL(a:Nat)(x:br)(k:Nat):au:=⟨some a,x,some (k,true)⟩
abbrev on(a:Nat)(x:br)(k:Nat):au:=⟨some a,x,some (k,false)⟩
abbrev p(x:br):au:=⟨none,x,none⟩
abbrev bj(n:Int):ay:=.c (.int .i64 n)
abbrev T:ay:=.c (.bool true)
abbrev bh:ay:=.c (.bool false)
abbrev m(a b:Nat):au:=⟨some a,.mv (.t b),none⟩
abbrev cY(a b k:Nat):au:=⟨some a,.mv (.t b),some (k,true)⟩
abbrev gF(a b k:Nat):au:=⟨some a,.mv (.t b),some (k,false)⟩
abbrev bo(a:Nat)(n:Int):au:=⟨some a,.mv (.c (.int .i64 n)),none⟩
abbrev l(a b:Nat):au:=⟨some a,.ld none (.t b),none⟩
abbrev gj(a b k:Nat):au:=⟨some a,.ld none (.t b),some (k,true)⟩
abbrev fJ(a b k:Nat):au:=⟨some a,.ld none (.t b),some (k,false)⟩
abbrev ar(a s b:Nat):au:=⟨some a,.ld (some s) (.t b),none⟩
abbrev f(a b c d:Nat):au:=⟨some a,.fa b c (.t d),none⟩
abbrev dP(a b c d k:Nat):au:=⟨some a,.fa b c (.t d),some (k,true)⟩
abbrev fn(a b c d k:Nat):au:=⟨some a,.fa b c (.t d),some (k,false)⟩
abbrev ad(a b:Nat)(n:Int):au:=⟨some a,.bin .add (.t b) (.c (.int .i64 n)),none⟩
abbrev lt(a b c:Nat):au:=⟨some a,.bin .lss (.t b) (.t c),none⟩
abbrev and(a b c:Nat):au:=⟨some a,.pick (.t b) (.t c) (.c (.bool false)),none⟩
abbrev or(a b c:Nat):au:=⟨some a,.pick (.t b) (.c (.bool true)) (.t c),none⟩
abbrev no(a b:Nat):au:=⟨some a,.un .not (.t b),none⟩
abbrev b(a c:Nat):au:=⟨some a,.box (.t c),none⟩
abbrev s(x y:bl):bl:=.seq x y
abbrev r(g:List au):bl:=.bN none g
abbrev bS(P:Program)(f:Func)(c:bl):Prop:=f.body.bind (dL P f.ntmps)=some c
abbrev bP(P:Program)(f:Func)(r:List bt):Prop:=fP P f.results.toList=some r
abbrev bG(P:Program)(n:FuncId):Prop:=dM P n=true
theorem e{α:Type}{a b:α}(h:a=b):a=b:=h
end Go.Abs.C
namespace Go.Proofs.YtoffnnjbplgnaaaGreatDoor
open Go Go.Abs Go.Abs.C
def Rn:=[b 3 0,b 5 2,o 6 (.mv bh)]
def Ro:=[o 15 (.call 14 []),m 7 15]
def Rp:=[ar 17 4 3,m 18 1,ar 19 8 5,o 20 (.call 35 [.t 17,.t 18,.t 19]),m 16 20,o 21 (.ext (.t 16) 0),o 22 (.ext (.t 16) 1),o 23 (.ext (.t 16) 2),o 8 (.alloc (.agg [.agg [.aj ⟨#[]⟩,.aj ⟨#[]⟩],.agg [.aj ⟨#[]⟩,.aj ⟨#[]⟩]])),p (.aV (some 4) (.t 8) (.t 21)),m 9 22,m 10 23]
def Rq:=[ar 25 4 3,m 26 1,ar 27 8 5,o 28 (.call 36 [.t 25,.t 26,.t 27]),m 24 28,o 29 (.ext (.t 24) 0),o 30 (.ext (.t 24) 1),o 31 (.ext (.t 24) 2),o 11 (.alloc (.agg [.agg [.aj ⟨#[]⟩,.aj ⟨#[]⟩],.agg [.aj ⟨#[]⟩,.aj ⟨#[]⟩]])),p (.aV (some 4) (.t 11) (.t 29)),m 12 30,m 13 31]
def Rr:=[m 32 9,m 33 12,o 34 (.call 17 [.t 32,.t 33]),m 14 34]
def Rs:=[m 35 7,m 36 35,bL 37 (.ld (some 4) (.t 3)) 36,cY 38 1 36,bL 39 (.call 37 [.t 37,.t 38]) 36,bL 40 (.ld (some 4) (.t 3)) 36,cY 41 1 36,bL 42 (.call 38 [.t 40,.t 41]) 36,bL 43 (.bin .eql (.t 39) (.t 42)) 36,and 44 36 43,m 45 44,bL 46 (.ld (some 4) (.t 8)) 45,bL 47 (.ld (some 4) (.t 11)) 45,bL 48 (.eqv (.aV [(.aV [.s,.s]),(.aV [.s,.s])]) false (.t 46) (.t 47)) 45,and 49 45 48,m 50 49,cY 51 14 50,and 52 50 51,m 53 52,cY 54 10 53,cY 55 13 53,bL 56 (.bin .eql (.t 54) (.t 55)) 53,and 57 53 56,m 6 57]
def K2:=some [[],[0],[1],[1],[2,3,1,1],[1],[1],[5,6,4,1],[4,7,1],[1,8],[9,7],[10],[10],[11,12,10],[10,13],[14,10],[15],[15,16],[17,15],[18],[18],[19,20,18],[18,21],[22,18,0,1,2,3,4,5,6,7,8,9,10,11,12,13,14,15,16,17,18,19,20,21,22]]
def qR:bl:=(s (r Rn) (s (r Ro) (s (r Rp) (s (r Rq) (s (r Rr) (s (.bN K2 Rs) .ret))))))
def CS:List bt:=[.tmp 6]
theorem IU:bS Tryz.prog Tryz.f7 qR:=e (by kernel_rfl)
theorem Kc:bP Tryz.prog Tryz.f7 CS:=e (by kernel_rfl)
theorem HE:bG Tryz.prog 7:=e (by kernel_rfl)
def NF:=[o 0 (.mv bh)]
def NG:=[o 21 (.bld [.int .i64 0,.int .i64 0] [(0,(bj 2))]),o 22 (.bld [.agg [.int .i64 0,.int .i64 0],.int .i64 0,.int .i64 0,.int .i64 0,.agg [.int .i64 0,.int .i64 0],.aj ⟨#[]⟩] [(0,(.t 21)),(1,(bj 5)),(2,(bj 10)),(3,(bj 12)),(5,(.c (.aj ⟨#[97]⟩)))]),o 1 (.alloc (.agg [.agg [.int .i64 0,.int .i64 0],.int .i64 0,.int .i64 0,.int .i64 0,.agg [.int .i64 0,.int .i64 0],.aj ⟨#[]⟩])),p (.aV (some 8) (.t 1) (.t 22))]
def NJ:=[ar 24 8 1,o 25 (.call 29 [(bj 1),.t 24]),m 23 25,o 26 (.ext (.t 23) 0),o 27 (.ext (.t 23) 1),o 28 (.ext (.t 23) 2),m 2 26,m 3 27,m 4 28]
def NK:=[m 30 2,o 31 (.call 31 [(bj 1),.t 30]),m 29 31,o 32 (.ext (.t 29) 0),o 33 (.ext (.t 29) 1),o 34 (.ext (.t 29) 2),o 5 (.alloc (.agg [.agg [.int .i64 0,.int .i64 0],.int .i64 0,.int .i64 0,.int .i64 0,.agg [.int .i64 0,.int .i64 0],.aj ⟨#[]⟩])),p (.aV (some 8) (.t 5) (.t 32)),m 6 33,m 7 34]
def NL:=[o 36 (.bld [.agg [.aj ⟨#[]⟩,.aj ⟨#[]⟩],.agg [.aj ⟨#[]⟩,.aj ⟨#[]⟩]] []),ar 37 8 1,o 38 (.call 35 [.t 36,(.c (.nils 8)),.t 37]),m 35 38,o 39 (.ext (.t 35) 0),o 40 (.ext (.t 35) 1),o 41 (.ext (.t 35) 2),o 8 (.alloc (.agg [.agg [.aj ⟨#[]⟩,.aj ⟨#[]⟩],.agg [.aj ⟨#[]⟩,.aj ⟨#[]⟩]])),p (.aV (some 4) (.t 8) (.t 39)),m 9 40,m 10 41]
def NM:=[ar 43 4 8,o 44 (.call 22 [.t 43,(.c (.nils 1))]),o 45 (.call 18 [.t 44]),m 42 45,o 46 (.ext (.t 42) 0),o 47 (.ext (.t 42) 1),o 11 (.alloc (.agg [.agg [.aj ⟨#[]⟩,.aj ⟨#[]⟩],.agg [.aj ⟨#[]⟩,.aj ⟨#[]⟩]])),p (.aV (some 4) (.t 11) (.t 46)),m 12 47]
def NN:=[ar 49 4 8,f 50 0 0 8,f 51 1 1 50,l 52 51,o 53 (.lenT (.t 52)),o 54 (.bs 3 1 [.t 53,(bj 0),(bj 0)]),o 55 (.call 22 [.t 49,.t 54]),o 56 (.call 18 [.t 55]),m 48 56,o 57 (.ext (.t 48) 0),o 58 (.ext (.t 48) 1),o 13 (.alloc (.agg [.agg [.aj ⟨#[]⟩,.aj ⟨#[]⟩],.agg [.aj ⟨#[]⟩,.aj ⟨#[]⟩]])),p (.aV (some 4) (.t 13) (.t 57)),m 14 58]
def NO:=[ar 60 4 8,f 61 0 0 8,f 62 1 1 61,l 63 62,o 64 (.lenT (.t 63)),o 65 (.bs 3 1 [.t 64,(bj 1),(bj 3)]),o 66 (.call 22 [.t 60,.t 65]),o 67 (.call 18 [.t 66]),m 59 67,o 68 (.ext (.t 59) 0),o 69 (.ext (.t 59) 1),o 15 (.alloc (.agg [.agg [.aj ⟨#[]⟩,.aj ⟨#[]⟩],.agg [.aj ⟨#[]⟩,.aj ⟨#[]⟩]])),p (.aV (some 4) (.t 15) (.t 68)),m 16 69]
def NP:=[ar 71 4 8,o 72 (.call 20 [.t 71]),o 73 (.call 24 [.t 72,bh]),o 74 (.call 18 [.t 73]),m 70 74,o 75 (.ext (.t 70) 0),o 76 (.ext (.t 70) 1),o 17 (.alloc (.agg [.agg [.aj ⟨#[]⟩,.aj ⟨#[]⟩],.agg [.aj ⟨#[]⟩,.aj ⟨#[]⟩]])),p (.aV (some 4) (.t 17) (.t 75)),m 18 76]
def NQ:=[m 77 4,o 78 (.bin .eql (.t 77) (bj 0)),m 79 78,cY 80 7 79,bL 81 (.bin .eql (.t 80) (bj 0)) 79,and 82 79 81,m 83 82,cY 84 10 83,bL 85 (.bin .eql (.t 84) (bj 0)) 83,and 86 83 85,m 87 86,cY 88 9 87,bL 89 (.len (.t 88)) 87,bL 90 (.bin .eql (.t 89) (bj 1)) 87,and 91 87 90,m 19 91]
def NH:=[m 92 2,o 93 (.lenT (.t 92)),o 94 (.bin .gtr (.t 93) (bj 18)),m 95 94,cY 96 2 95,cY 97 2 95,bL 98 (.lenT (.t 97)) 95,bL 99 (.bin .sub (.t 98) (bj 18)) 95,bL 100 (.prim (.ss true false) [.t 96,.t 99]) 95,bL 101 (.bin .eql (.t 100) (.c (.aj ⟨#[50,32,48,32,53,32,49,48,32,49,50,32,48,32,48,32,97,10]⟩))) 95,and 102 95 101,m 20 102]
def NI:=[m 103 19,m 104 103,cY 105 20 104,and 106 104 105,m 107 106,bL 108 (.ld (some 8) (.t 5)) 107,bL 109 (.ld (some 8) (.t 1)) 107,bL 110 (.eqv (.aV [(.aV [(.i .i64),(.i .i64)]),(.i .i64),(.i .i64),(.i .i64),(.aV [(.i .i64),(.i .i64)]),.s]) false (.t 108) (.t 109)) 107,and 111 107 110,m 112 111,cY 113 6 112,cY 114 3 112,bL 115 (.bin .eql (.t 113) (.t 114)) 112,and 116 112 115,m 117 116,dP 118 0 0 8 117,dP 119 1 1 118 117,gj 120 119 117,cY 121 2 117,bL 122 (.bin .eql (.t 120) (.t 121)) 117,and 123 117 122,m 124 123,dP 125 1 2 8 124,bL 126 (.ld (some 2) (.t 125)) 124,bL 127 (.bld [.aj ⟨#[]⟩,.aj ⟨#[]⟩] []) 124,bL 128 (.eqv (.aV [.s,.s]) false (.t 126) (.t 127)) 124,and 129 124 128,m 130 129,cY 131 12 130,bL 132 (.len (.t 131)) 130,bL 133 (.bin .eql (.t 132) (bj 0)) 130,and 134 130 133,m 135 134,cY 136 14 135,bL 137 (.len (.t 136)) 135,bL 138 (.bin .eql (.t 137) (bj 1)) 135,and 139 135 138,m 140 139,cY 141 16 140,bL 142 (.len (.t 141)) 140,bL 143 (.bin .eql (.t 142) (bj 0)) 140,and 144 140 143,m 145 144,cY 146 18 145,bL 147 (.len (.t 146)) 145,bL 148 (.bin .eql (.t 147) (bj 1)) 145,and 149 145 148,m 150 149,dP 151 0 0 17 150,dP 152 0 0 151 150,gj 153 152 150,cY 154 2 150,bL 155 (.bin .eql (.t 153) (.t 154)) 150,and 156 150 155,m 157 156,dP 158 1 2 17 157,dP 159 0 0 158 157,gj 160 159 157,cY 161 2 157,bL 162 (.bin .eql (.t 160) (.t 161)) 157,and 163 157 162,m 0 163]
def yc:bl:=(s (r NF) (s (r NG) (s (r NJ) (s (r NK) (s (r NL) (s (r NM) (s (r NN) (s (r NO) (s (r NP) (s (r NQ) (s (r NH) (s (r NI) .ret))))))))))))
def Ct:List bt:=[.tmp 0]
theorem Is:bS Tryz.prog Tryz.f14 yc:=e (by kernel_rfl)
theorem JN:bP Tryz.prog Tryz.f14 Ct:=e (by kernel_rfl)
theorem Hd:bG Tryz.prog 14:=e (by kernel_rfl)
def N4:=[o 2 (.mv (.c (.nils 8))),o 3 (.mv (.c (.aj ⟨#[]⟩)))]
def N5:=[o 4 (.alloc (.nils 8))]
def N7:=[o 5 (.alloc (.int .i64 0)),o 6 (.alloc (.int .i64 0)),p (.aV none (.t 5) (bj 1)),p (.aV none (.t 6) (bj 0))]
def N8:=[m 11 0,o 12 (.call 69 [.t 11])]
def N9:=[m 7 13]
def Oa:=[l 15 5,m 16 7,o 17 (.call 70 [.t 15,.t 16]),m 14 17,o 18 (.ext (.t 14) 0),o 19 (.ext (.t 14) 1),o 20 (.ext (.t 14) 2),o 8 (.alloc (.agg [.agg [.int .i64 0,.int .i64 0],.int .i64 0,.int .i64 0,.int .i64 0,.agg [.int .i64 0,.int .i64 0],.aj ⟨#[]⟩])),p (.aV (some 8) (.t 8) (.t 18)),m 9 19,m 10 20]
def Ob:=[m 21 10,no 22 21,m 23 22,fJ 24 4 23,on 25 (.ld (some 8) (.t 8)) 23,on 26 (.call 71 [.t 24,.t 25]) 23,on 27 (.un .not (.t 26)) 23,or 28 23 27]
def Oc:=[l 29 4,ar 30 8 8,o 31 (.bs 50 8 [.t 30]),o 32 (.dD 50 8 72 (.agg [.agg [.int .i64 0,.int .i64 0],.int .i64 0,.int .i64 0,.int .i64 0,.agg [.int .i64 0,.int .i64 0],.aj ⟨#[]⟩]) (.t 29) (.t 31)),p (.aV none (.t 4) (.t 32))]
def Od:=[m 33 9,p (.aV none (.t 5) (.t 33))]
def Oe:=[l 34 6,m 35 7,o 36 (.lenT (.t 35)),o 37 (.bin .add (.t 34) (.t 36)),p (.aV none (.t 6) (.t 37))]
def N6:=[l 38 4,m 39 0,l 40 6,o 41 (.prim (.ss false true) [.t 39,.t 40]),m 2 38,m 3 41]
def KO:=some [[],[],[],[1,2],[0,0],[3,4,0,1,2,3,4]]
def yf:bl:=(s (r N4) (s (r N5) (s (r N7) (s (s (r N8) (.block 0 (.mU (.t 12) [13] (r N9) (.block 1 (s (r Oa) (s (s (r Ob) (.cond (.t 28) (.exit 0) .skip)) (s (r Oc) (s (r Od) (r Oe))))))))) (s (.bN KO N6) .ret)))))
def Cv:List bt:=[.tmp 2,.tmp 3]
theorem Iu:bS Tryz.prog Tryz.f15 yf:=e (by kernel_rfl)
theorem JP:bP Tryz.prog Tryz.f15 Cv:=e (by kernel_rfl)
theorem Hg:bG Tryz.prog 15:=e (by kernel_rfl)
def ON:=[o 4 (.mv bh)]
def OO:=[m 7 0,o 8 (.len (.t 7)),m 9 1,o 10 (.len (.t 9)),o 11 (.bin .eql (.t 8) (.t 10)),m 5 11]
def OP:=[bo 6 0]
def OQ:=[m 12 6,m 13 0,o 14 (.len (.t 13)),lt 15 12 14,m 16 15,cY 17 5 16,and 18 16 17]
def OR:=[m 21 0,m 22 6,o 23 (.is 8 (.t 21) (.t 22)),ar 24 8 23,m 25 1,m 26 6,o 27 (.is 8 (.t 25) (.t 26)),ar 28 8 27,o 29 (.eqv (.aV [(.aV [(.i .i64),(.i .i64)]),(.i .i64),(.i .i64),(.i .i64),(.aV [(.i .i64),(.i .i64)]),.s]) false (.t 24) (.t 28)),m 5 29]
def KQ:=some [[],[],[0,1],[2],[],[],[4,5],[6],[3,7],[8,0,1,2,3,4,5,6,7,8]]
def OS:=[m 19 6,ad 20 19 1,m 6 20]
def OT:=[m 30 5,m 4 30]
def yk:bl:=(s (r ON) (s (r OO) (s (s (r OP) (.block 0 (.loop (s (s (r OQ) (.cond (.t 18) .skip (.exit 0))) (s (.block 1 (.bN KQ OR)) (r OS)))))) (s (r OT) .ret))))
def CA:List bt:=[.tmp 4]
theorem IA:bS Tryz.prog Tryz.f17 yk:=e (by kernel_rfl)
theorem JU:bP Tryz.prog Tryz.f17 CA:=e (by kernel_rfl)
theorem Hn:bG Tryz.prog 17:=e (by kernel_rfl)
def Ps:=[b 1 0,o 2 (.alloc (.agg [.agg [.aj ⟨#[]⟩,.aj ⟨#[]⟩],.agg [.aj ⟨#[]⟩,.aj ⟨#[]⟩]])),o 3 (.mv (.c (.nils 8)))]
def Pt:=[f 10 0 0 1,ar 11 2 10,o 12 (.call 73 [.t 11]),o 13 (.call 15 [.t 12]),m 9 13,o 14 (.ext (.t 9) 0),o 15 (.ext (.t 9) 1),m 4 14,m 5 15]
def Pu:=[f 17 1 2 1,ar 18 2 17,o 19 (.call 73 [.t 18]),o 20 (.call 15 [.t 19]),m 16 20,o 21 (.ext (.t 16) 0),o 22 (.ext (.t 16) 1),m 6 21,m 7 22]
def Pv:=[m 23 6,o 24 (.len (.t 23)),m 25 4,o 26 (.len (.t 25)),o 27 (.bin .gtr (.t 24) (.t 26))]
def Pw:=[m 28 6,m 29 7,m 4 28,m 5 29]
def Px:=[m 30 5,o 31 (.call 74 [.t 30]),o 32 (.bld [.aj ⟨#[]⟩,.aj ⟨#[]⟩] [(0,(.t 31))]),o 8 (.alloc (.agg [.aj ⟨#[]⟩,.aj ⟨#[]⟩])),p (.aV (some 2) (.t 8) (.t 32))]
def Py:=[ar 33 2 8,ar 34 2 8,o 35 (.bld [.agg [.aj ⟨#[]⟩,.aj ⟨#[]⟩],.agg [.aj ⟨#[]⟩,.aj ⟨#[]⟩]] [(0,(.t 33)),(1,(.t 34))]),m 36 4,p (.aV (some 4) (.t 2) (.t 35)),m 3 36]
def ym:bl:=(s (r Ps) (s (r Pt) (s (s (r Pu) (s (r Pv) (.cond (.t 27) (r Pw) .skip))) (s (r Px) (s (r Py) .ret)))))
def CD:List bt:=[.cell 2 (some 4),.tmp 3]
theorem ID:bS Tryz.prog Tryz.f18 ym:=e (by kernel_rfl)
theorem JX:bP Tryz.prog Tryz.f18 CD:=e (by kernel_rfl)
theorem Hp:bG Tryz.prog 18:=e (by kernel_rfl)
def Pz:=[b 1 0,o 2 (.alloc (.agg [.agg [.aj ⟨#[]⟩,.aj ⟨#[]⟩],.agg [.aj ⟨#[]⟩,.aj ⟨#[]⟩]]))]
def PA:=[f 4 0 0 1,ar 5 2 4,o 6 (.call 73 [.t 5]),o 7 (.bld [.aj ⟨#[]⟩,.aj ⟨#[]⟩] [(0,(.t 6))]),o 3 (.alloc (.agg [.aj ⟨#[]⟩,.aj ⟨#[]⟩])),p (.aV (some 2) (.t 3) (.t 7))]
def PB:=[ar 8 2 3,ar 9 2 3,o 10 (.bld [.agg [.aj ⟨#[]⟩,.aj ⟨#[]⟩],.agg [.aj ⟨#[]⟩,.aj ⟨#[]⟩]] [(0,(.t 8)),(1,(.t 9))]),p (.aV (some 4) (.t 2) (.t 10))]
def c20:bl:=(s (r Pz) (s (r PA) (s (r PB) .ret)))
def CF:List bt:=[.cell 2 (some 4)]
theorem IF:bS Tryz.prog Tryz.f20 c20:=e (by kernel_rfl)
theorem JZ:bP Tryz.prog Tryz.f20 CF:=e (by kernel_rfl)
theorem Hr:bG Tryz.prog 20:=e (by kernel_rfl)
def PC:=[b 2 0,o 4 (.alloc (.agg [.agg [.aj ⟨#[]⟩,.aj ⟨#[]⟩],.agg [.aj ⟨#[]⟩,.aj ⟨#[]⟩]]))]
def PD:=[f 5 0 0 2,ar 6 2 5,m 7 1,o 8 (.call 75 [.t 6,.t 7,(bj 0)]),f 9 1 2 2,ar 10 2 9,m 11 1,o 12 (.call 75 [.t 10,.t 11,(bj 3)]),o 13 (.bld [.agg [.aj ⟨#[]⟩,.aj ⟨#[]⟩],.agg [.aj ⟨#[]⟩,.aj ⟨#[]⟩]] [(0,(.t 8)),(1,(.t 12))]),p (.aV (some 4) (.t 4) (.t 13))]
def KR:=some [[],[0],[],[1,2],[],[4],[],[5,6,3],[3,7],[8,7,0,1,2,3,4,5,6,7,8]]
def yp:bl:=(s (r PC) (s (.bN KR PD) .ret))
def CG:List bt:=[.cell 4 (some 4)]
theorem IG:bS Tryz.prog Tryz.f22 yp:=e (by kernel_rfl)
theorem J0:bP Tryz.prog Tryz.f22 CG:=e (by kernel_rfl)
theorem Hs:bG Tryz.prog 22:=e (by kernel_rfl)
def PE:=[b 2 0,o 4 (.alloc (.agg [.agg [.aj ⟨#[]⟩,.aj ⟨#[]⟩],.agg [.aj ⟨#[]⟩,.aj ⟨#[]⟩]]))]
def PF:=[m 5 1]
def PG:=[o 6 (.bld [.aj ⟨#[]⟩,.aj ⟨#[]⟩] []),f 7 1 2 2,p (.aV (some 2) (.t 7) (.t 6))]
def PH:=[o 8 (.bld [.aj ⟨#[]⟩,.aj ⟨#[]⟩] []),f 9 0 0 2,p (.aV (some 2) (.t 9) (.t 8))]
def PI:=[ar 10 4 2,p (.aV (some 4) (.t 4) (.t 10))]
def yq:bl:=(s (r PE) (s (s (r PF) (.cond (.t 5) (r PG) (r PH))) (s (r PI) .ret)))
def CH:List bt:=[.cell 4 (some 4)]
theorem IH:bS Tryz.prog Tryz.f24 yq:=e (by kernel_rfl)
theorem J1:bP Tryz.prog Tryz.f24 CH:=e (by kernel_rfl)
theorem Ht:bG Tryz.prog 24:=e (by kernel_rfl)
def PJ:=[bo 4 0]
def PK:=[m 5 0,m 6 1,o 7 (.bin .rem (.t 5) (.t 6)),m 8 1,o 9 (.bin .add (.t 7) (.t 8)),m 10 1,o 11 (.bin .rem (.t 9) (.t 10)),m 4 11]
def yr:bl:=(s (r PJ) (s (r PK) .ret))
def CI:List bt:=[.tmp 4]
theorem II:bS Tryz.prog Tryz.f28 yr:=e (by kernel_rfl)
theorem J2:bP Tryz.prog Tryz.f28 CI:=e (by kernel_rfl)
theorem Hu:bG Tryz.prog 28:=e (by kernel_rfl)
def PL:=[b 3 1,o 4 (.mv (.c (.aj ⟨#[]⟩))),bo 5 0,bo 6 0]
def PM:=[m 10 0,o 11 (.call 79 [.t 10]),no 12 11,m 9 12]
def PN:=[o 4 (.mv (.c (.aj ⟨#[]⟩))),bo 5 0,bo 6 1]
def PO:=[ar 14 8 3,o 15 (.call 80 [.t 14]),no 16 15,m 13 16]
def PQ:=[o 4 (.mv (.c (.aj ⟨#[]⟩))),bo 5 0,bo 6 80]
def PR:=[m 18 0,ar 19 8 3,o 20 (.call 81 [.t 18,.t 19]),m 17 20,o 21 (.ext (.t 17) 0),o 22 (.ext (.t 17) 1),m 7 21,m 8 22]
def PS:=[m 23 7,m 24 8,m 4 23,m 5 24,bo 6 0]
def yu:bl:=(s (r PL) (s (.block 0 (s (r PM) (.cond (.t 9) (s (r PN) .ret) (s (r PO) (.cond (.t 13) (s (r PQ) .ret) .skip))))) (s (r PR) (s (r PS) .ret))))
def CJ:List bt:=[.tmp 4,.tmp 5,.tmp 6]
theorem IJ:bS Tryz.prog Tryz.f29 yu:=e (by kernel_rfl)
theorem J3:bP Tryz.prog Tryz.f29 CJ:=e (by kernel_rfl)
theorem Hv:bG Tryz.prog 29:=e (by kernel_rfl)
def PT:=[o 4 (.alloc (.agg [.agg [.int .i64 0,.int .i64 0],.int .i64 0,.int .i64 0,.int .i64 0,.agg [.int .i64 0,.int .i64 0],.aj ⟨#[]⟩])),bo 5 0,bo 6 0]
def PU:=[m 10 0,o 11 (.call 79 [.t 10]),no 12 11]
def PV:=[o 13 (.bld [.agg [.int .i64 0,.int .i64 0],.int .i64 0,.int .i64 0,.int .i64 0,.agg [.int .i64 0,.int .i64 0],.aj ⟨#[]⟩] []),p (.aV (some 8) (.t 4) (.t 13)),bo 5 0,bo 6 1]
def PW:=[m 15 0,m 16 1,o 17 (.call 70 [.t 15,.t 16]),m 14 17,o 18 (.ext (.t 14) 0),o 19 (.ext (.t 14) 1),o 20 (.ext (.t 14) 2),o 7 (.alloc (.agg [.agg [.int .i64 0,.int .i64 0],.int .i64 0,.int .i64 0,.int .i64 0,.agg [.int .i64 0,.int .i64 0],.aj ⟨#[]⟩])),p (.aV (some 8) (.t 7) (.t 18)),m 8 19,m 9 20]
def PX:=[m 21 9,no 22 21]
def PY:=[o 23 (.bld [.agg [.int .i64 0,.int .i64 0],.int .i64 0,.int .i64 0,.int .i64 0,.agg [.int .i64 0,.int .i64 0],.aj ⟨#[]⟩] []),p (.aV (some 8) (.t 4) (.t 23)),bo 5 0,bo 6 87]
def PZ:=[ar 24 8 7,m 25 8,p (.aV (some 8) (.t 4) (.t 24)),m 5 25,bo 6 0]
def yw:bl:=(s (r PT) (s (s (r PU) (.cond (.t 12) (s (r PV) .ret) .skip)) (s (r PW) (s (s (r PX) (.cond (.t 22) (s (r PY) .ret) .skip)) (s (r PZ) .ret)))))
def CK:List bt:=[.cell 4 (some 8),.tmp 5,.tmp 6]
theorem IK:bS Tryz.prog Tryz.f31 yw:=e (by kernel_rfl)
theorem J4:bP Tryz.prog Tryz.f31 CK:=e (by kernel_rfl)
theorem Hw:bG Tryz.prog 31:=e (by kernel_rfl)
def P0:=[b 1 0,bo 2 0]
def P1:=[f 3 0 0 1,ar 4 2 3,o 5 (.call 85 [.t 4]),no 6 5,m 7 6,fn 8 1 2 1 7,fJ 9 8 7,on 10 (.call 82 [.t 9,(bj 0),(bj 40)]) 7,on 11 (.un .not (.t 10)) 7,or 12 7 11,m 13 12,fn 14 2 3 1 13,fJ 15 14 13,on 16 (.call 82 [.t 15,(bj 0),(bj 100000)]) 13,on 17 (.un .not (.t 16)) 13,or 18 13 17,m 19 18,fn 20 3 4 1 19,fJ 21 20 19,on 22 (.call 82 [.t 21,(bj 0),(bj 100000)]) 19,on 23 (.un .not (.t 22)) 19,or 24 19 23,m 25 24,fn 26 5 7 1 25,fJ 27 26 25,on 28 (.call 86 [.t 27]) 25,on 29 (.un .not (.t 28)) 25,or 30 25 29]
def P2:=[bo 2 80]
def P3:=[f 31 1 2 1,l 32 31,o 33 (.bin .eql (.t 32) (bj 0))]
def P4:=[f 34 2 3 1,l 35 34,o 36 (.bin .neq (.t 35) (bj 0)),m 37 36,fn 38 5 7 1 37,fJ 39 38 37,on 40 (.bin .neq (.t 39) (.c (.aj ⟨#[]⟩))) 37,or 41 37 40,m 42 41,fn 43 4 5 1 42,on 44 (.ld (some 2) (.t 43)) 42,on 45 (.call 85 [.t 44]) 42,on 46 (.un .not (.t 45)) 42,or 47 42 46,m 48 47,fn 49 4 5 1 48,fn 50 0 0 49 48,fJ 51 50 48,fn 52 0 0 1 48,fn 53 0 0 52 48,fJ 54 53 48,on 55 (.bin .neq (.t 51) (.t 54)) 48,or 56 48 55,m 57 56,fn 58 4 5 1 57,fn 59 1 1 58 57,fJ 60 59 57,fn 61 0 0 1 57,fn 62 1 1 61 57,fJ 63 62 57,on 64 (.bin .geq (.t 60) (.t 63)) 57,or 65 57 64]
def P5:=[bo 2 80]
def P6:=[bo 2 0]
def P7:=[f 66 4 5 1,ar 67 2 66,o 68 (.bld [.int .i64 0,.int .i64 0] []),o 69 (.eqv (.aV [(.i .i64),(.i .i64)]) true (.t 67) (.t 68))]
def P8:=[bo 2 80]
def P9:=[bo 2 0]
def yx:bl:=(s (r P0) (s (s (r P1) (.cond (.t 30) (s (r P2) .ret) .skip)) (s (s (r P3) (.cond (.t 33) (s (s (r P4) (.cond (.t 65) (s (r P5) .ret) .skip)) (s (r P6) .ret)) .skip)) (s (s (r P7) (.cond (.t 69) (s (r P8) .ret) .skip)) (s (r P9) .ret)))))
def CL:List bt:=[.tmp 2]
theorem IL:bS Tryz.prog Tryz.f34 yx:=e (by kernel_rfl)
theorem J5:bP Tryz.prog Tryz.f34 CL:=e (by kernel_rfl)
theorem Hx:bG Tryz.prog 34:=e (by kernel_rfl)
def Qa:=[b 3 0,b 5 2,o 6 (.alloc (.agg [.agg [.aj ⟨#[]⟩,.aj ⟨#[]⟩],.agg [.aj ⟨#[]⟩,.aj ⟨#[]⟩]])),o 7 (.mv (.c (.nils 8))),bo 8 0]
def Qb:=[ar 9 4 3,m 10 1,o 11 (.call 87 [.t 9,.t 10]),no 12 11]
def Qc:=[o 13 (.bld [.agg [.aj ⟨#[]⟩,.aj ⟨#[]⟩],.agg [.aj ⟨#[]⟩,.aj ⟨#[]⟩]] []),p (.aV (some 4) (.t 6) (.t 13)),o 7 (.mv (.c (.nils 8))),bo 8 84]
def Qd:=[ar 14 4 3,m 15 1,ar 16 8 5,o 17 (.call 88 [.t 14,.t 15,.t 16]),o 18 (.ext (.t 17) 0),o 19 (.ext (.t 17) 1),o 20 (.ext (.t 17) 2),p (.aV (some 4) (.t 6) (.t 18)),m 7 19,m 8 20]
def yz:bl:=(s (r Qa) (s (s (r Qb) (.cond (.t 12) (s (r Qc) .ret) .skip)) (s (r Qd) .ret)))
def CM:List bt:=[.cell 6 (some 4),.tmp 7,.tmp 8]
theorem IM:bS Tryz.prog Tryz.f35 yz:=e (by kernel_rfl)
theorem J6:bP Tryz.prog Tryz.f35 CM:=e (by kernel_rfl)
theorem Hy:bG Tryz.prog 35:=e (by kernel_rfl)
def Qe:=[b 3 0,b 5 2,o 6 (.alloc (.agg [.agg [.aj ⟨#[]⟩,.aj ⟨#[]⟩],.agg [.aj ⟨#[]⟩,.aj ⟨#[]⟩]])),o 7 (.mv (.c (.nils 8))),bo 8 0]
def Qf:=[ar 12 4 3,m 13 1,o 14 (.call 38 [.t 12,.t 13]),o 15 (.bin .neq (.t 14) (bj 0))]
def Qh:=[o 16 (.bld [.agg [.aj ⟨#[]⟩,.aj ⟨#[]⟩],.agg [.aj ⟨#[]⟩,.aj ⟨#[]⟩]] []),p (.aV (some 4) (.t 6) (.t 16)),o 7 (.mv (.c (.nils 8))),bo 8 84]
def Qi:=[m 18 1,ar 19 8 5,o 20 (.call 89 [.t 18,.t 19]),m 17 20,o 21 (.ext (.t 17) 0),o 22 (.ext (.t 17) 1),m 9 21,m 10 22]
def Qj:=[m 23 10,o 24 (.bin .neq (.t 23) (bj 0))]
def Qk:=[o 25 (.bld [.agg [.aj ⟨#[]⟩,.aj ⟨#[]⟩],.agg [.aj ⟨#[]⟩,.aj ⟨#[]⟩]] []),m 26 10,p (.aV (some 4) (.t 6) (.t 25)),o 7 (.mv (.c (.nils 8))),m 8 26]
def Ql:=[o 27 (.bs0 8),m 28 1,o 29 (.dD 50 8 72 (.agg [.agg [.int .i64 0,.int .i64 0],.int .i64 0,.int .i64 0,.int .i64 0,.agg [.int .i64 0,.int .i64 0],.aj ⟨#[]⟩]) (.t 27) (.t 28)),m 11 29]
def Qm:=[m 30 9]
def Qn:=[m 31 11,ar 32 8 5,o 33 (.bs 50 8 [.t 32]),o 34 (.dD 50 8 72 (.agg [.agg [.int .i64 0,.int .i64 0],.int .i64 0,.int .i64 0,.int .i64 0,.agg [.int .i64 0,.int .i64 0],.aj ⟨#[]⟩]) (.t 31) (.t 33)),m 11 34]
def Qo:=[m 35 11,o 36 (.call 90 [.t 35]),f 37 0 0 3,f 38 0 0 37,l 39 38,o 40 (.lenT (.t 39)),o 41 (.prim (.ss true false) [.t 36,.t 40]),f 42 0 0 3,f 43 1 1 42,p (.aV none (.t 43) (.t 41))]
def KS:=some [[],[0],[],[2],[3],[4],[1,5],[0,1,2,3,4,5,6],[7,0,1,2,3,4,5,6],[8,6,1,0,1,2,3,4,5,6]]
def Qg:=[ar 44 4 3,m 45 11,p (.aV (some 4) (.t 6) (.t 44)),m 7 45,bo 8 0]
def yA:bl:=(s (r Qe) (s (s (r Qf) (.cond (.t 15) (s (r Qh) .ret) .skip)) (s (r Qi) (s (s (r Qj) (.cond (.t 24) (s (r Qk) .ret) .skip)) (s (r Ql) (s (s (r Qm) (.cond (.t 30) (s (r Qn) (.bN KS Qo)) .skip)) (s (r Qg) .ret)))))))
def CN:List bt:=[.cell 6 (some 4),.tmp 7,.tmp 8]
theorem IN:bS Tryz.prog Tryz.f36 yA:=e (by kernel_rfl)
theorem J7:bP Tryz.prog Tryz.f36 CN:=e (by kernel_rfl)
theorem Hz:bG Tryz.prog 36:=e (by kernel_rfl)
def Qp:=[b 2 0,bo 4 0]
def Qq:=[ar 5 4 2,m 6 1,o 7 (.call 87 [.t 5,.t 6]),no 8 7]
def Qr:=[bo 4 84]
def Qs:=[bo 4 0]
def c37:bl:=(s (r Qp) (s (s (r Qq) (.cond (.t 8) (s (r Qr) .ret) .skip)) (s (r Qs) .ret)))
def CO:List bt:=[.tmp 4]
theorem IP:bS Tryz.prog Tryz.f37 c37:=e (by kernel_rfl)
theorem J8:bP Tryz.prog Tryz.f37 CO:=e (by kernel_rfl)
theorem HA:bG Tryz.prog 37:=e (by kernel_rfl)
def Qt:=[b 2 0,bo 4 0]
def Qu:=[m 6 1,o 7 (.call 91 [.t 6]),no 8 7,m 9 8,fn 10 0 0 2 9,fn 11 0 0 10 9,fJ 12 11 9,fn 13 0 0 2 9,fn 14 1 1 13 9,fJ 15 14 9,on 16 (.bin .add (.t 12) (.t 15)) 9,gF 17 1 9,on 18 (.call 90 [.t 17]) 9,on 19 (.bin .neq (.t 16) (.t 18)) 9,or 20 9 19]
def KT:=some [[],[0],[1],[2,1],[3],[4,3],[5,3],[3],[7,3],[8,3],[6,9,3],[3],[11,3,3],[10,12,3],[3,13]]
def Qv:=[bo 4 84]
def Qw:=[bo 5 0]
def Qx:=[m 21 5,m 22 1,o 23 (.len (.t 22)),o 24 (.bin .leq (.t 21) (.t 23))]
def Qy:=[f 27 1 2 2,f 28 0 0 27,l 29 28,f 30 1 2 2,f 31 1 1 30,l 32 31,o 33 (.bin .add (.t 29) (.t 32)),m 34 1,m 35 5,m 36 5,o 37 (.sl 8 (.t 34) none (some (.t 35)) (some (.t 36))),o 38 (.call 90 [.t 37]),o 39 (.bin .eql (.t 33) (.t 38))]
def KU:=some [[],[0],[1],[],[3],[4],[2,5],[],[],[],[7,8,9],[10],[6,11]]
def Qz:=[bo 4 0]
def QA:=[m 25 5,ad 26 25 1,m 5 26]
def QB:=[bo 4 84]
def yB:bl:=(s (r Qt) (s (s (.bN KT Qu) (.cond (.t 20) (s (r Qv) .ret) .skip)) (s (s (r Qw) (.block 0 (.loop (s (s (r Qx) (.cond (.t 24) .skip (.exit 0))) (s (.block 1 (s (.bN KU Qy) (.cond (.t 39) (s (r Qz) .ret) .skip))) (r QA)))))) (s (r QB) .ret))))
def CP:List bt:=[.tmp 4]
theorem IQ:bS Tryz.prog Tryz.f38 yB:=e (by kernel_rfl)
theorem J9:bP Tryz.prog Tryz.f38 CP:=e (by kernel_rfl)
theorem HB:bG Tryz.prog 38:=e (by kernel_rfl)
def QC:=[b 2 0,b 3 1,o 4 (.alloc (.agg [.nils 8])),bo 5 0]
def QD:=[ar 9 1 2,o 10 (.call 92 [.t 9]),no 11 10,m 8 11]
def QI:=[o 12 (.bld [.nils 8] []),p (.aV (some 1) (.t 4) (.t 12)),bo 5 81]
def QJ:=[ar 14 8 3,o 15 (.call 80 [.t 14]),no 16 15,m 13 16]
def QK:=[o 17 (.bld [.nils 8] []),p (.aV (some 1) (.t 4) (.t 17)),bo 5 80]
def QL:=[ar 19 1 2,f 20 0 0 3,ar 21 2 20,o 22 (.call 94 [.t 19,.t 21]),m 18 22,o 23 (.ext (.t 18) 0),o 24 (.ext (.t 18) 1),m 6 23,m 7 24]
def QM:=[m 26 7,m 27 26,dP 28 0 0 2 27,gj 29 28 27,cY 30 6 27,bL 31 (.is 8 (.t 29) (.t 30)) 27,bL 32 (.ld (some 8) (.t 31)) 27,bL 33 (.ld (some 8) (.t 3)) 27,bL 34 (.eqv (.aV [(.aV [(.i .i64),(.i .i64)]),(.i .i64),(.i .i64),(.i .i64),(.aV [(.i .i64),(.i .i64)]),.s]) false (.t 32) (.t 33)) 27,and 35 27 34,m 25 35]
def KX:=some [[],[0],[1],[2,1],[1],[3,4,1],[5,1],[1],[6,7,1],[1,8],[9,1]]
def QN:=[f 36 0 0 2,l 37 36,o 38 (.call 93 [.t 37]),o 39 (.bld [.nils 8] [(0,(.t 38))]),p (.aV (some 1) (.t 4) (.t 39)),bo 5 0]
def QO:=[m 41 7,m 40 41]
def QP:=[o 42 (.bld [.nils 8] []),p (.aV (some 1) (.t 4) (.t 42)),bo 5 82]
def QE:=[f 44 0 0 2,l 45 44,o 46 (.call 100 [.t 45]),f 47 0 0 3,f 48 0 0 47,l 49 48,o 50 (.ix 6 1 none (.t 46) (.t 49)),f 51 0 0 3,f 52 1 1 51,l 53 52,lt 54 50 53,m 43 54]
def KV:=some [[],[0],[1],[],[3],[4],[2,5],[],[7],[8],[6,9],[10,2]]
def QF:=[o 55 (.bld [.nils 8] []),p (.aV (some 1) (.t 4) (.t 55)),bo 5 83]
def QG:=[f 57 0 0 2,l 58 57,o 59 (.len (.t 58)),o 60 (.bin .eql (.t 59) (bj 60)),m 56 60]
def QH:=[o 61 (.bld [.nils 8] []),p (.aV (some 1) (.t 4) (.t 61)),bo 5 2]
def uP:=[f 62 0 0 2,l 63 62,o 64 (.call 93 [.t 63]),m 65 6,ar 66 8 3,o 67 (.bs 50 8 [.t 66]),o 68 (.call 101 [.t 64,.t 65,.t 67]),o 69 (.bld [.nils 8] [(0,(.t 68))]),p (.aV (some 1) (.t 4) (.t 69)),bo 5 0]
def KW:=some [[],[0],[1],[],[],[4],[2,3,5,2],[6],[7,6,0,1,2,3,4,5,6,7],[8,0,1,2,3,4,5,6,7,8]]
def yC:bl:=(s (r QC) (s (.block 0 (s (r QD) (.cond (.t 8) (s (r QI) .ret) (s (r QJ) (.cond (.t 13) (s (r QK) .ret) .skip))))) (s (r QL) (s (.block 1 (s (.bN KX QM) (.cond (.t 25) (s (r QN) .ret) (s (r QO) (.cond (.t 40) (s (r QP) .ret) (s (.bN KV QE) (.cond (.t 43) (s (r QF) .ret) (s (r QG) (.cond (.t 56) (s (r QH) .ret) .skip))))))))) (s (.bN KW uP) .ret)))))
def CQ:List bt:=[.cell 4 (some 1),.tmp 5]
theorem IS:bS Tryz.prog Tryz.f44 yC:=e (by kernel_rfl)
theorem Ka:bP Tryz.prog Tryz.f44 CQ:=e (by kernel_rfl)
theorem HC:bG Tryz.prog 44:=e (by kernel_rfl)
def QR:=[b 1 0,o 2 (.mv (.c (.cZ)))]
def QS:=[o 3 (.mk 122 [.t 1]),m 2 3]
def yD:bl:=(s (r QR) (s (r QS) .ret))
def CR:List bt:=[.tmp 2]
theorem IT:bS Tryz.prog Tryz.f69 yD:=e (by kernel_rfl)
theorem Kb:bP Tryz.prog Tryz.f69 CR:=e (by kernel_rfl)
theorem HD:bG Tryz.prog 69:=e (by kernel_rfl)
def Au:=[o 4 (.alloc (.agg [.agg [.int .i64 0,.int .i64 0],.int .i64 0,.int .i64 0,.int .i64 0,.agg [.int .i64 0,.int .i64 0],.aj ⟨#[]⟩])),o 5 (.alloc (.int .i64 0)),o 6 (.alloc (.bool false))]
def QT:=[m 15 1,o 16 (.call 125 [.t 15,(.c (.aj ⟨#[10]⟩))]),m 14 16,o 17 (.ext (.t 14) 0),o 18 (.ext (.t 14) 1),m 7 17,m 8 18]
def QZ:=[m 19 8,no 20 19]
def Ax:=[o 21 (.bld [] []),o 22 (.prim (.lT 176) [.t 21]),p (.prim .kj [.t 22])]
def Q0:=[bo 9 0]
def Q1:=[o 10 (.alloc (.agg [.int .i64 0,.int .i64 0,.int .i64 0,.int .i64 0,.int .i64 0,.int .i64 0,.int .i64 0]))]
def Ay:=[m 24 7,o 25 (.call 126 [.t 24]),m 23 25,o 26 (.ext (.t 23) 0),o 27 (.ext (.t 23) 1),m 9 26,m 7 27]
def Q2:=[bo 28 0]
def Q3:=[o 29 (.bin .lss (.t 28) (bj 7))]
def Q4:=[m 30 28,m 11 30]
def Av:=[m 32 11,m 33 7,o 34 (.call 126 [.t 33]),m 31 34,o 35 (.ext (.t 31) 0),o 36 (.ext (.t 31) 1),o 37 (.ia 7 1 (.t 10) (.t 32)),p (.aV none (.t 37) (.t 35)),m 7 36]
def QU:=[ad 38 28 1,m 28 38]
def QV:=[o 39 (.ia 7 1 (.t 10) (bj 0)),l 40 39,o 41 (.ia 7 1 (.t 10) (bj 1)),l 42 41,o 43 (.bld [.int .i64 0,.int .i64 0] [(0,(.t 40)),(1,(.t 42))]),o 44 (.ia 7 1 (.t 10) (bj 2)),l 45 44,o 46 (.ia 7 1 (.t 10) (bj 3)),l 47 46,o 48 (.ia 7 1 (.t 10) (bj 4)),l 49 48,o 50 (.ia 7 1 (.t 10) (bj 5)),l 51 50,o 52 (.ia 7 1 (.t 10) (bj 6)),l 53 52,o 54 (.bld [.int .i64 0,.int .i64 0] [(0,(.t 51)),(1,(.t 53))]),m 55 7,o 56 (.bld [.agg [.int .i64 0,.int .i64 0],.int .i64 0,.int .i64 0,.int .i64 0,.agg [.int .i64 0,.int .i64 0],.aj ⟨#[]⟩] [(0,(.t 43)),(1,(.t 45)),(2,(.t 47)),(3,(.t 49)),(4,(.t 54)),(5,(.t 55))]),p (.aV (some 8) (.t 4) (.t 56))]
def QW:=[ar 57 8 4,o 58 (.call 80 [.t 57]),no 59 58]
def Aw:=[o 60 (.bld [] []),o 61 (.prim (.lT 176) [.t 60]),p (.prim .kj [.t 61])]
def QX:=[m 63 0,ar 64 8 4,o 65 (.call 81 [.t 63,.t 64]),m 62 65,o 66 (.ext (.t 62) 0),o 67 (.ext (.t 62) 1),m 12 66,p (.aV none (.t 5) (.t 67))]
def QY:=[m 68 12,m 69 1,o 70 (.bin .neq (.t 68) (.t 69)),m 71 70,gF 72 9 71,fJ 73 5 71,on 74 (.bin .neq (.t 72) (.t 73)) 71,or 75 71 74]
def uQ:=[o 76 (.bld [] []),o 77 (.prim (.lT 176) [.t 76]),p (.prim .kj [.t 77])]
def uR:=[ar 78 8 4,l 79 5,p (.aV (some 8) (.t 4) (.t 78)),p (.aV none (.t 5) (.t 79)),p (.aV none (.t 6) T)]
def KY:=some [[],[],[0,0],[1,2,0,1,2],[3,0,1,2,3]] -- DRAW BAD
def sJ:List bt:=[.cell 4 (some 8),.cell 5 none,.cell 6 none]
theorem Kd:bP Tryz.prog Tryz.f70 sJ:=e (by kernel_rfl)
theorem HF:bG Tryz.prog 70:=e (by kernel_rfl)
def Q5:=[b 3 1,o 4 (.mv bh)]
def Q6:=[m 5 0,o 6 (.len (.t 5)),o 7 (.bin .lss (.t 6) (bj 60)),m 8 7,cY 9 0 8,bL 10 (.call 100 [.t 9]) 8,dP 11 0 0 3 8,dP 12 0 0 11 8,gj 13 12 8,bL 14 (.ix 6 1 none (.t 10) (.t 13)) 8,dP 15 0 0 3 8,dP 16 1 1 15 8,gj 17 16 8,bL 18 (.bin .eql (.t 14) (.t 17)) 8,and 19 8 18,m 4 19]
def KZ:=some [[],[0],[1],[2],[3],[4,3,3],[3],[6,3],[7,3],[5,8,3],[3],[10,3],[11,3],[9,12,3],[3,13],[14,5,0,1,2,3,4,5,6,7,8,9,10,11,12,13,14]]
def yE:bl:=(s (r Q5) (s (.bN KZ Q6) .ret))
def CT:List bt:=[.tmp 4]
theorem IV:bS Tryz.prog Tryz.f71 yE:=e (by kernel_rfl)
theorem Ke:bP Tryz.prog Tryz.f71 CT:=e (by kernel_rfl)
theorem HG:bG Tryz.prog 71:=e (by kernel_rfl)
def Q7:=[b 3 1,o 4 (.mv bh)]
def Q8:=[ar 5 8 3,o 6 (.call 34 [.t 5]),o 7 (.bin .eql (.t 6) (bj 0)),m 8 7,cY 9 0 8,bL 10 (.len (.t 9)) 8,bL 11 (.bin .lss (.t 10) (bj 60)) 8,and 12 8 11,m 13 12,dP 14 0 0 3 13,dP 15 1 1 14 13,gj 16 15 13,cY 17 0 13,bL 18 (.call 102 [.t 17]) 13,dP 19 0 0 3 13,dP 20 0 0 19 13,gj 21 20 13,bL 22 (.ix 6 1 none (.t 18) (.t 21)) 13,bL 23 (.bin .eql (.t 16) (.t 22)) 13,and 24 13 23,m 4 24]
def K0:=some [[],[0],[1],[2,1],[3],[4,3],[5,3],[3,6],[7,3],[8],[9,8],[10,8],[8],[12,8,8],[8],[14,8],[15,8],[13,16,8],[11,17,8],[8,18],[19,13,0,1,2,3,4,5,6,7,8,9,10,11,12,13,14,15,16,17,18,19]]
def yF:bl:=(s (r Q7) (s (.bN K0 Q8) .ret))
def CU:List bt:=[.tmp 4]
theorem IW:bS Tryz.prog Tryz.f72 yF:=e (by kernel_rfl)
theorem Kf:bP Tryz.prog Tryz.f72 CU:=e (by kernel_rfl)
theorem HI:bG Tryz.prog 72:=e (by kernel_rfl)
def Q9:=[b 1 0,o 2 (.mv (.c (.aj ⟨#[]⟩)))]
def Ra:=[f 3 0 0 1,l 4 3,f 5 1 1 1,l 6 5,o 7 (.bin .add (.t 4) (.t 6)),m 2 7]
def yG:bl:=(s (r Q9) (s (r Ra) .ret))
def CV:List bt:=[.tmp 2]
theorem IX:bS Tryz.prog Tryz.f73 yG:=e (by kernel_rfl)
theorem Kg:bP Tryz.prog Tryz.f73 CV:=e (by kernel_rfl)
theorem HJ:bG Tryz.prog 73:=e (by kernel_rfl)
def Rb:=[o 2 (.mv (.c (.aj ⟨#[]⟩)))]
def Rc:=[m 3 0,o 4 (.call 127 [.t 3]),m 2 4]
def yH:bl:=(s (r Rb) (s (r Rc) .ret))
def CW:List bt:=[.tmp 2]
theorem IY:bS Tryz.prog Tryz.f74 yH:=e (by kernel_rfl)
theorem Kh:bP Tryz.prog Tryz.f74 CW:=e (by kernel_rfl)
theorem HK:bG Tryz.prog 74:=e (by kernel_rfl)
def Re:=[b 3 0,o 6 (.alloc (.agg [.aj ⟨#[]⟩,.aj ⟨#[]⟩]))]
def kY:=[f 9 1 1 3,l 10 9,m 11 1,m 12 2,f 13 1 1 3,l 14 13,o 15 (.lenT (.t 14)),ad 16 15 1,o 17 (.call 121 [.t 11,.t 12,.t 16]),o 18 (.prim (.ss false true) [.t 10,.t 17]),o 19 (.eE (.t 18)),m 7 19]
def K1:=some [[],[0],[],[],[],[4],[5],[6],[2,3,7],[1,8],[9],[10,8,0,1,2,3,4,5,6,7,8,9,10]]
def Rf:=[m 20 1,m 21 2,ad 22 21 1,o 23 (.call 121 [.t 20,.t 22,(bj 2)]),o 24 (.bin .eql (.t 23) (bj 1)),m 25 24,cY 26 7 25,bL 27 (.len (.t 26)) 25,bL 28 (.bin .gtr (.t 27) (bj 0)) 25,and 29 25 28]
def Rg:=[m 30 7,m 31 1,m 32 2,ad 33 32 2,m 34 7,o 35 (.len (.t 34)),o 36 (.call 121 [.t 31,.t 33,.t 35]),o 37 (.is 1 (.t 30) (.t 36)),p (.aV none (.t 37) (.c (.int .u8 63)))]
def Rh:=[f 38 0 0 3,l 39 38,o 40 (.lenT (.t 39)),m 41 7,o 42 (.len (.t 41)),o 43 (.bin .add (.t 40) (.t 42)),o 44 (.jl 5 1 (.int .u8 0) (.t 43)),m 8 44]
def Ri:=[m 45 8,f 46 0 0 3,l 47 46,o 48 (.fQ 1 (.t 45) (.t 47))]
def Rj:=[m 49 8,f 50 0 0 3,l 51 50,o 52 (.lenT (.t 51)),o 53 (.sl 1 (.t 49) (some (.t 52)) none none),m 54 7,o 55 (.fQ 1 (.t 53) (.t 54))]
def Rk:=[m 56 8,o 57 (.b2s (.t 56)),o 58 (.bld [.aj ⟨#[]⟩,.aj ⟨#[]⟩] [(0,(.t 57))]),p (.aV (some 2) (.t 6) (.t 58))]
def c75:bl:=(s (r Re) (s (.bN K1 kY) (s (s (r Rf) (.cond (.t 29) (r Rg) .skip)) (s (r Rh) (s (r Ri) (s (r Rj) (s (r Rk) .ret)))))))
def CX:List bt:=[.cell 6 (some 2)]
theorem IZ:bS Tryz.prog Tryz.f75 c75:=e (by kernel_rfl)
theorem Ki:bP Tryz.prog Tryz.f75 CX:=e (by kernel_rfl)
theorem HL:bG Tryz.prog 75:=e (by kernel_rfl)
def Rl:=[o 2 (.mv bh)]
def Rm:=[m 3 0,o 4 (.call 128 [.t 3,(bj 0),(bj 1000002)]),m 2 4]
def yI:bl:=(s (r Rl) (s (r Rm) .ret))
def CY:List bt:=[.tmp 2]
theorem I0:bS Tryz.prog Tryz.f79 yI:=e (by kernel_rfl)
theorem Kj:bP Tryz.prog Tryz.f79 CY:=e (by kernel_rfl)
theorem HM:bG Tryz.prog 79:=e (by kernel_rfl)
def Rt:=[b 1 0,o 2 (.mv bh)]
def Ru:=[f 3 0 0 1,ar 4 2 3,o 5 (.call 129 [.t 4]),no 6 5,m 7 6,fn 8 1 2 1 7,fJ 9 8 7,on 10 (.call 128 [.t 9,(bj 0),(bj 40)]) 7,on 11 (.un .not (.t 10)) 7,or 12 7 11,m 13 12,fn 14 2 3 1 13,fJ 15 14 13,on 16 (.call 105 [.t 15]) 13,on 17 (.un .not (.t 16)) 13,or 18 13 17,m 19 18,fn 20 3 4 1 19,fJ 21 20 19,on 22 (.call 105 [.t 21]) 19,on 23 (.un .not (.t 22)) 19,or 24 19 23,m 25 24,fn 26 5 7 1 25,fJ 27 26 25,on 28 (.call 130 [.t 27]) 25,on 29 (.un .not (.t 28)) 25,or 30 25 29]
def Rv:=[o 2 (.mv bh)]
def Rw:=[f 31 1 2 1,l 32 31,o 33 (.bin .eql (.t 32) (bj 0))]
def Rx:=[f 34 2 3 1,l 35 34,o 36 (.bin .eql (.t 35) (bj 0)),m 37 36,dP 38 5 7 1 37,gj 39 38 37,bL 40 (.bin .eql (.t 39) (.c (.aj ⟨#[]⟩))) 37,and 41 37 40,m 42 41,dP 43 4 5 1 42,bL 44 (.ld (some 2) (.t 43)) 42,bL 45 (.call 129 [.t 44]) 42,and 46 42 45,m 47 46,dP 48 4 5 1 47,dP 49 0 0 48 47,gj 50 49 47,dP 51 0 0 1 47,dP 52 0 0 51 47,gj 53 52 47,bL 54 (.bin .eql (.t 50) (.t 53)) 47,and 55 47 54,m 56 55,dP 57 4 5 1 56,dP 58 1 1 57 56,gj 59 58 56,dP 60 0 0 1 56,dP 61 1 1 60 56,gj 62 61 56,bL 63 (.bin .lss (.t 59) (.t 62)) 56,and 64 56 63,m 2 64]
def Ry:=[f 65 4 5 1,ar 66 2 65,o 67 (.bld [.int .i64 0,.int .i64 0] []),o 68 (.eqv (.aV [(.i .i64),(.i .i64)]) false (.t 66) (.t 67)),m 2 68]
def c80:bl:=(s (r Rt) (s (s (r Ru) (.cond (.t 30) (s (r Rv) .ret) .skip)) (s (s (r Rw) (.cond (.t 33) (s (r Rx) .ret) .skip)) (s (r Ry) .ret))))
def CZ:List bt:=[.tmp 2]
theorem I1:bS Tryz.prog Tryz.f80 c80:=e (by kernel_rfl)
theorem Kk:bP Tryz.prog Tryz.f80 CZ:=e (by kernel_rfl)
theorem HN:bG Tryz.prog 80:=e (by kernel_rfl)
def Rz:=[b 3 1,o 4 (.mv (.c (.aj ⟨#[]⟩))),bo 5 0]
def RA:=[ar 9 8 3,o 10 (.call 131 [.t 9]),m 6 10]
def RB:=[m 11 6,o 12 (.eE (.t 11)),o 13 (.len (.t 12)),bo 14 0]
def RC:=[lt 15 14 13]
def RD:=[o 16 (.is 1 (.t 12) (.t 14)),l 17 16,m 8 17]
def RE:=[m 18 0,o 19 (.bin .mul (bj 257) (.t 18)),m 20 8,o 21 (.conv .i64 (.t 20)),o 22 (.bin .add (.t 19) (.t 21)),ad 23 22 1,o 24 (.bin .rem (.t 23) (bj 1000003)),m 0 24]
def RF:=[ad 25 14 1,m 14 25]
def RG:=[m 26 0,o 27 (.call 132 [.t 26]),o 28 (.bin .add (.t 27) (.c (.aj ⟨#[32]⟩))),m 29 6,o 30 (.bin .add (.t 28) (.t 29)),o 31 (.bin .add (.t 30) (.c (.aj ⟨#[10]⟩))),m 32 0,m 4 31,m 5 32]
def yJ:bl:=(s (r Rz) (s (r RA) (s (s (r RB) (.block 0 (.loop (s (r RC) (s (.cond (.t 15) .skip (.exit 0)) (s (.block 1 (s (r RD) (r RE))) (r RF))))))) (s (r RG) .ret))))
def C0:List bt:=[.tmp 4,.tmp 5]
theorem I2:bS Tryz.prog Tryz.f81 yJ:=e (by kernel_rfl)
theorem Kl:bP Tryz.prog Tryz.f81 C0:=e (by kernel_rfl)
theorem HO:bG Tryz.prog 81:=e (by kernel_rfl)
def RH:=[o 6 (.mv bh)]
def RI:=[m 7 0,m 8 1,o 9 (.bin .geq (.t 7) (.t 8)),m 10 9,cY 11 0 10,cY 12 2 10,bL 13 (.bin .leq (.t 11) (.t 12)) 10,and 14 10 13,m 6 14]
def yK:bl:=(s (r RH) (s (r RI) .ret))
def C1:List bt:=[.tmp 6]
theorem I3:bS Tryz.prog Tryz.f82 yK:=e (by kernel_rfl)
theorem Km:bP Tryz.prog Tryz.f82 C1:=e (by kernel_rfl)
theorem HP:bG Tryz.prog 82:=e (by kernel_rfl)
def RJ:=[b 3 1,o 4 (.mv (.c (.aj ⟨#[]⟩))),bo 5 0]
def RL:=[ar 8 8 3,o 9 (.call 133 [.t 8]),m 6 9]
def RM:=[bo 7 0]
def RN:=[m 10 7,m 11 6,o 12 (.lenT (.t 11)),lt 13 10 12]
def RO:=[m 16 0,o 17 (.bin .mul (bj 257) (.t 16)),m 18 6,m 19 7,o 20 (.prim .dN [.t 18,.t 19]),o 21 (.conv .i64 (.t 20)),o 22 (.bin .add (.t 17) (.t 21)),ad 23 22 1,o 24 (.bin .rem (.t 23) (bj 1000003)),m 0 24]
def RP:=[m 14 7,ad 15 14 1,m 7 15]
def RQ:=[m 25 0,o 26 (.call 134 [.t 25]),o 27 (.bin .add (.t 26) (.c (.aj ⟨#[32]⟩))),m 28 6,o 29 (.bin .add (.t 27) (.t 28)),o 30 (.bin .add (.t 29) (.c (.aj ⟨#[10]⟩))),m 31 0,m 4 30,m 5 31]
def yL:bl:=(s (r RJ) (s (r RL) (s (s (r RM) (.block 0 (.loop (s (s (r RN) (.cond (.t 13) .skip (.exit 0))) (s (.block 1 (r RO)) (r RP)))))) (s (r RQ) .ret))))
def C2:List bt:=[.tmp 4,.tmp 5]
theorem I4:bS Tryz.prog Tryz.f83 yL:=e (by kernel_rfl)
theorem Kn:bP Tryz.prog Tryz.f83 C2:=e (by kernel_rfl)
theorem HQ:bG Tryz.prog 83:=e (by kernel_rfl)
def RS:=[b 1 0,o 2 (.mv bh)]
def RT:=[f 3 0 0 1,l 4 3,o 5 (.call 82 [.t 4,(bj 0),(bj 5)]),m 6 5,dP 7 1 1 1 6,gj 8 7 6,bL 9 (.call 82 [.t 8,(bj 0),(bj 9999)]) 6,and 10 6 9,m 2 10]
def c85:bl:=(s (r RS) (s (r RT) .ret))
def C3:List bt:=[.tmp 2]
theorem I5:bS Tryz.prog Tryz.f85 c85:=e (by kernel_rfl)
theorem Ko:bP Tryz.prog Tryz.f85 C3:=e (by kernel_rfl)
theorem HR:bG Tryz.prog 85:=e (by kernel_rfl)
def RU:=[o 2 (.mv bh)]
def RV:=[m 4 0,o 5 (.lenT (.t 4)),o 6 (.bin .gtr (.t 5) (bj 160))]
def RW:=[o 2 (.mv bh)]
def RX:=[bo 3 0]
def RY:=[m 7 3,m 8 0,o 9 (.lenT (.t 8)),lt 10 7 9]
def RZ:=[m 13 0,m 14 3,o 15 (.prim .dN [.t 13,.t 14]),o 16 (.bin .lss (.t 15) (.c (.int .u8 32))),m 17 16,gF 18 0 17,gF 19 3 17,on 20 (.prim .dN [.t 18,.t 19]) 17,on 21 (.bin .gtr (.t 20) (.c (.int .u8 126))) 17,or 22 17 21,m 23 22,gF 24 0 23,gF 25 3 23,on 26 (.prim .dN [.t 24,.t 25]) 23,on 27 (.bin .eql (.t 26) (.c (.int .u8 63))) 23,or 28 23 27]
def R0:=[o 2 (.mv bh)]
def R1:=[m 11 3,ad 12 11 1,m 3 12]
def R2:=[o 2 (.mv T)]
def yM:bl:=(s (r RU) (s (s (r RV) (.cond (.t 6) (s (r RW) .ret) .skip)) (s (s (r RX) (.block 0 (.loop (s (s (r RY) (.cond (.t 10) .skip (.exit 0))) (s (.block 1 (s (r RZ) (.cond (.t 28) (s (r R0) .ret) .skip))) (r R1)))))) (s (r R2) .ret))))
def C4:List bt:=[.tmp 2]
theorem I6:bS Tryz.prog Tryz.f86 yM:=e (by kernel_rfl)
theorem Kp:bP Tryz.prog Tryz.f86 C4:=e (by kernel_rfl)
theorem HS:bG Tryz.prog 86:=e (by kernel_rfl)
def R3:=[b 2 0,o 4 (.mv bh)]
def R4:=[m 6 1,o 7 (.call 98 [.t 6]),no 8 7,m 9 8,fn 10 0 0 2 9,on 11 (.ld (some 2) (.t 10)) 9,on 12 (.call 73 [.t 11]) 9,gF 13 1 9,on 14 (.call 135 [.t 13]) 9,on 15 (.bin .neq (.t 12) (.t 14)) 9,or 16 9 15]
def R5:=[o 4 (.mv bh)]
def R6:=[m 17 1,o 18 (.len (.t 17)),ad 19 18 1,bo 20 0]
def R7:=[lt 21 20 19]
def R8:=[m 22 20,m 5 22]
def R9:=[f 23 1 2 2,ar 24 2 23,o 25 (.call 73 [.t 24]),m 26 1,m 27 5,o 28 (.sl 8 (.t 26) none (some (.t 27)) none),o 29 (.call 135 [.t 28]),o 30 (.bin .eql (.t 25) (.t 29))]
def K3:=some [[],[0],[1],[],[],[3,4],[5,2],[2,6]]
def Sa:=[o 4 (.mv T)]
def Sb:=[ad 31 20 1,m 20 31]
def Sc:=[o 4 (.mv bh)]
def yN:bl:=(s (r R3) (s (s (r R4) (.cond (.t 16) (s (r R5) .ret) .skip)) (s (s (r R6) (.block 0 (.loop (s (r R7) (s (.cond (.t 21) .skip (.exit 0)) (s (.block 1 (s (r R8) (s (.bN K3 R9) (.cond (.t 30) (s (r Sa) .ret) .skip)))) (r Sb))))))) (s (r Sc) .ret))))
def C5:List bt:=[.tmp 4]
theorem I7:bS Tryz.prog Tryz.f87 yN:=e (by kernel_rfl)
theorem Kq:bP Tryz.prog Tryz.f87 C5:=e (by kernel_rfl)
theorem HT:bG Tryz.prog 87:=e (by kernel_rfl)
def Sd:=[b 3 0,b 5 2,o 6 (.alloc (.agg [.agg [.aj ⟨#[]⟩,.aj ⟨#[]⟩],.agg [.aj ⟨#[]⟩,.aj ⟨#[]⟩]])),o 7 (.mv (.c (.nils 8))),bo 8 0]
def Se:=[m 13 1,ar 14 8 5,o 15 (.call 136 [.t 13,.t 14])]
def uS:=[ar 16 4 3,m 17 1,o 18 (.call 93 [.t 17]),p (.aV (some 4) (.t 6) (.t 16)),m 7 18,bo 8 0]
def K4:=some [[],[],[1],[0,2,0],[2,3,0,1,2,3],[4,0,1,2,3,4]]
def Sf:=[m 20 1,o 21 (.call 95 [.t 20]),ar 22 8 5,o 23 (.call 44 [.t 21,.t 22]),m 19 23,o 24 (.ext (.t 19) 0),o 25 (.ext (.t 19) 1),o 9 (.alloc (.agg [.nils 8])),p (.aV (some 1) (.t 9) (.t 24)),m 10 25]
def K5:=some [[],[0],[],[1,2,1],[3],[4],[4],[],[7,5,3,0,1,2,3,4,5,7],[6,8,0,1,2,3,4,5,6,7,8]]
def Sg:=[m 26 10,o 27 (.bin .neq (.t 26) (bj 0))]
def Sh:=[o 28 (.bld [.agg [.aj ⟨#[]⟩,.aj ⟨#[]⟩],.agg [.aj ⟨#[]⟩,.aj ⟨#[]⟩]] []),m 29 10,p (.aV (some 4) (.t 6) (.t 28)),o 7 (.mv (.c (.nils 8))),m 8 29]
def Si:=[m 31 1,o 32 (.call 137 [.t 31]),ar 33 8 5,o 34 (.call 81 [.t 32,.t 33]),m 30 34,o 35 (.ext (.t 30) 0),o 36 (.ext (.t 30) 1),m 11 35,m 12 36]
def K6:=some [[],[0],[],[1,2,1],[3],[4],[4],[5,3,0,1,2,3,4,5],[6,7,0,1,2,3,4,5,6,7]]
def Sj:=[f 37 0 0 3,f 38 1 1 37,l 39 38,m 40 11,o 41 (.bin .add (.t 39) (.t 40)),f 42 0 0 3,f 43 1 1 42,p (.aV none (.t 43) (.t 41))]
def uT:=[ar 44 4 3,m 45 1,o 46 (.call 93 [.t 45]),ar 47 8 5,o 48 (.bs 50 8 [.t 47]),o 49 (.dD 50 8 72 (.agg [.agg [.int .i64 0,.int .i64 0],.int .i64 0,.int .i64 0,.int .i64 0,.agg [.int .i64 0,.int .i64 0],.aj ⟨#[]⟩]) (.t 46) (.t 48)),p (.aV (some 4) (.t 6) (.t 44)),m 7 49,bo 8 0]
def K7:=some [[],[],[1],[],[3],[2,4,2],[0,5,0],[5,6,0,1,2,3,4,5,6],[7,0,1,2,3,4,5,6,7]] -- DRAW BAD
def yO:bl:=(s (r Sd) (s (s (r Se) (.cond (.t 15) (s (.bN K4 uS) .ret) .skip)) (s (s (.bN K5 Sf) (s (r Sg) (.cond (.t 27) (s (r Sh) .ret) .skip))) (s (.bN K6 Si) (s (r Sj) (s (.bN K7 uT) .ret))))))
def C6:List bt:=[.cell 6 (some 4),.tmp 7,.tmp 8]
theorem I8:bS Tryz.prog Tryz.f88 yO:=e (by kernel_rfl)
theorem Kr:bP Tryz.prog Tryz.f88 C6:=e (by kernel_rfl)
theorem HU:bG Tryz.prog 88:=e (by kernel_rfl)
def Sk:=[b 3 1,o 4 (.mv bh),bo 5 0]
def Sl:=[ar 7 8 3,o 8 (.call 34 [.t 7]),o 9 (.bin .neq (.t 8) (bj 0))]
def Sq:=[o 4 (.mv bh),bo 5 80]
def Sr:=[m 10 0,f 11 0 0 3,ar 12 2 11,o 13 (.call 96 [.t 10,.t 12]),m 6 13]
def St:=[m 14 6,o 15 (.bin .geq (.t 14) (bj 0)),m 16 15,cY 17 0 16,cY 18 6 16,bL 19 (.is 8 (.t 17) (.t 18)) 16,bL 20 (.ld (some 8) (.t 19)) 16,bL 21 (.ld (some 8) (.t 3)) 16,bL 22 (.eqv (.aV [(.aV [(.i .i64),(.i .i64)]),(.i .i64),(.i .i64),(.i .i64),(.aV [(.i .i64),(.i .i64)]),.s]) false (.t 20) (.t 21)) 16,and 23 16 22]
def K8:=some [[],[0],[1],[2],[2],[3,4,2],[5,2],[2],[6,7,2],[2,8]]
def Su:=[o 4 (.mv bh),bo 5 0]
def Sv:=[m 24 6,o 25 (.bin .geq (.t 24) (bj 0))]
def Sw:=[o 4 (.mv bh),bo 5 82]
def Sx:=[f 26 0 0 3,f 27 1 1 26,l 28 27,m 29 0,o 30 (.call 102 [.t 29]),f 31 0 0 3,f 32 0 0 31,l 33 32,o 34 (.ix 6 1 none (.t 30) (.t 33)),o 35 (.bin .gtr (.t 28) (.t 34))]
def K9:=some [[],[0],[1],[],[3],[],[5],[6],[4,7],[2,8]]
def Sy:=[o 4 (.mv bh),bo 5 83]
def Sm:=[m 36 0,o 37 (.len (.t 36)),o 38 (.bin .eql (.t 37) (bj 60))]
def Sn:=[o 4 (.mv bh),bo 5 2]
def Sp:=[o 4 (.mv T),bo 5 0]
def yP:bl:=(s (r Sk) (s (s (r Sl) (.cond (.t 9) (s (r Sq) .ret) .skip)) (s (r Sr) (s (s (.bN K8 St) (.cond (.t 23) (s (r Su) .ret) .skip)) (s (s (r Sv) (.cond (.t 25) (s (r Sw) .ret) .skip)) (s (s (.bN K9 Sx) (.cond (.t 35) (s (r Sy) .ret) .skip)) (s (s (r Sm) (.cond (.t 38) (s (r Sn) .ret) .skip)) (s (r Sp) .ret))))))))
def C7:List bt:=[.tmp 4,.tmp 5]
theorem I9:bS Tryz.prog Tryz.f89 yP:=e (by kernel_rfl)
theorem Ks:bP Tryz.prog Tryz.f89 C7:=e (by kernel_rfl)
theorem HV:bG Tryz.prog 89:=e (by kernel_rfl)
def Sz:=[o 2 (.mv (.c (.aj ⟨#[]⟩)))]
def SA:=[o 3 (.mv (.c (.aj ⟨#[]⟩)))]
def SB:=[bo 4 1]
def SC:=[bo 5 0]
def SD:=[m 8 5,m 9 0,o 10 (.len (.t 9)),lt 11 8 10]
def SE:=[m 15 4,m 16 0,m 17 5,o 18 (.is 8 (.t 16) (.t 17)),ar 19 8 18,o 20 (.call 83 [.t 15,.t 19]),m 14 20,o 21 (.ext (.t 14) 0),o 22 (.ext (.t 14) 1),m 6 21,m 7 22]
def SF:=[m 23 3,m 24 6,o 25 (.bin .add (.t 23) (.t 24)),m 3 25]
def SG:=[m 26 7,m 4 26]
def SH:=[m 12 5,ad 13 12 1,m 5 13]
def SI:=[m 27 3,m 2 27]
def yQ:bl:=(s (r Sz) (s (r SA) (s (r SB) (s (s (r SC) (.block 0 (.loop (s (s (r SD) (.cond (.t 11) .skip (.exit 0))) (s (.block 1 (s (r SE) (s (r SF) (r SG)))) (r SH)))))) (s (r SI) .ret)))))
def C8:List bt:=[.tmp 2]
theorem Ja:bS Tryz.prog Tryz.f90 yQ:=e (by kernel_rfl)
theorem Kt:bP Tryz.prog Tryz.f90 C8:=e (by kernel_rfl)
theorem HW:bG Tryz.prog 90:=e (by kernel_rfl)
def SJ:=[o 2 (.mv bh)]
def SK:=[bo 3 0]
def SL:=[m 4 3,m 5 0,o 6 (.len (.t 5)),lt 7 4 6]
def SM:=[m 10 0,m 11 3,m 12 3,o 13 (.sl 8 (.t 10) none (some (.t 11)) (some (.t 12))),m 14 0,m 15 3,o 16 (.is 8 (.t 14) (.t 15)),ar 17 8 16,o 18 (.call 72 [.t 13,.t 17]),no 19 18]
def La:=some [[],[],[],[0,1,2],[],[],[4,5],[6],[3,7],[8]]
def SN:=[o 2 (.mv bh)]
def SO:=[m 8 3,ad 9 8 1,m 3 9]
def SP:=[o 2 (.mv T)]
def yR:bl:=(s (r SJ) (s (s (r SK) (.block 0 (.loop (s (s (r SL) (.cond (.t 7) .skip (.exit 0))) (s (.block 1 (s (.bN La SM) (.cond (.t 19) (s (r SN) .ret) .skip))) (r SO)))))) (s (r SP) .ret)))
def C9:List bt:=[.tmp 2]
theorem Jb:bS Tryz.prog Tryz.f91 yR:=e (by kernel_rfl)
theorem Ku:bP Tryz.prog Tryz.f91 C9:=e (by kernel_rfl)
theorem HX:bG Tryz.prog 91:=e (by kernel_rfl)
def SQ:=[b 1 0,o 2 (.mv bh)]
def SR:=[f 6 0 0 1,l 7 6,o 8 (.len (.t 7)),bo 9 0]
def SX:=[lt 10 9 8]
def SY:=[m 11 9,o 12 (.is 8 (.t 7) (.t 9)),ar 13 8 12,o 4 (.alloc (.agg [.agg [.int .i64 0,.int .i64 0],.int .i64 0,.int .i64 0,.int .i64 0,.agg [.int .i64 0,.int .i64 0],.aj ⟨#[]⟩])),m 3 11,p (.aV (some 8) (.t 4) (.t 13))]
def SZ:=[ar 14 8 4,o 15 (.call 80 [.t 14]),no 16 15]
def S0:=[o 2 (.mv bh)]
def S1:=[o 17 (.bld [.int .i64 0,.int .i64 0] [(0,(.c (.int .i64 (-1))))]),o 5 (.alloc (.agg [.int .i64 0,.int .i64 0])),p (.aV (some 2) (.t 5) (.t 17))]
def S2:=[m 18 3,o 19 (.bin .gtr (.t 18) (bj 0))]
def S3:=[f 20 0 0 1,l 21 20,m 22 3,o 23 (.bin .sub (.t 22) (bj 1)),o 24 (.is 8 (.t 21) (.t 23)),f 25 0 0 24,ar 26 2 25,p (.aV (some 2) (.t 5) (.t 26))]
def S4:=[f 27 0 0 4,ar 28 2 27,f 29 0 0 5,l 30 29,f 31 1 1 5,l 32 31,ad 33 32 1,o 34 (.bld [.int .i64 0,.int .i64 0] [(0,(.t 30)),(1,(.t 33))]),o 35 (.eqv (.aV [(.i .i64),(.i .i64)]) true (.t 28) (.t 34)),m 36 35,dP 37 0 0 4 36,dP 38 0 0 37 36,gj 39 38 36,dP 40 0 0 5 36,gj 41 40 36,bL 42 (.bin .leq (.t 39) (.t 41)) 36,cY 43 42 36,fn 44 0 0 4 43,fn 45 1 1 44 43,fJ 46 45 43,on 47 (.bin .neq (.t 46) (bj 0)) 43,bL 48 (.pick (.t 43) T (.t 47)) 36,and 49 36 48]
def SS:=[o 2 (.mv bh)]
def SU:=[ad 50 9 1,m 9 50]
def SV:=[f 51 0 0 1,l 52 51,o 53 (.len (.t 52)),o 54 (.bin .leq (.t 53) (bj 60)),m 2 54]
def yS:bl:=(s (r SQ) (s (s (r SR) (.block 0 (.loop (s (r SX) (s (.cond (.t 10) .skip (.exit 0)) (s (.block 1 (s (r SY) (s (s (r SZ) (.cond (.t 16) (s (r S0) .ret) .skip)) (s (r S1) (s (s (r S2) (.cond (.t 19) (r S3) .skip)) (s (r S4) (.cond (.t 49) (s (r SS) .ret) .skip))))))) (r SU))))))) (s (r SV) .ret)))
def Da:List bt:=[.tmp 2]
theorem Jc:bS Tryz.prog Tryz.f92 yS:=e (by kernel_rfl)
theorem Kv:bP Tryz.prog Tryz.f92 Da:=e (by kernel_rfl)
theorem HY:bG Tryz.prog 92:=e (by kernel_rfl)
def uU:=[o 2 (.mv (.c (.nils 8)))]
def pq:=[m 3 0,o 4 (.nilS false (.t 3))]
def uV:=[o 2 (.mv (.c (.nils 8)))]
def pt:=[o 5 (.bs0 8),m 6 0,o 7 (.dD 50 8 72 (.agg [.agg [.int .i64 0,.int .i64 0],.int .i64 0,.int .i64 0,.int .i64 0,.agg [.int .i64 0,.int .i64 0],.aj ⟨#[]⟩]) (.t 5) (.t 6)),m 2 7]
def tY:bl:=(s (r uU) (s (s (r pq) (.cond (.t 4) (s (r uV) .ret) .skip)) (s (r pt) .ret)))
def vO:List bt:=[.tmp 2]
theorem ze:bS Tryz.prog Tryz.f93 tY:=e (by kernel_rfl)
theorem zp:bP Tryz.prog Tryz.f93 vO:=e (by kernel_rfl)
theorem y8:bG Tryz.prog 93:=e (by kernel_rfl)
def S5:=[b 2 0,b 3 1,bo 4 0,o 5 (.mv bh)]
def S6:=[f 6 0 0 2,l 7 6,ar 8 2 3,o 9 (.call 138 [.t 7,.t 8,(.c (.func 139 []))]),o 10 (.ext (.t 9) 0),o 11 (.ext (.t 9) 1),m 4 10,m 5 11]
def yT:bl:=(s (r S5) (s (r S6) .ret))
def Db:List bt:=[.tmp 4,.tmp 5]
theorem Jd:bS Tryz.prog Tryz.f94 yT:=e (by kernel_rfl)
theorem Kx:bP Tryz.prog Tryz.f94 Db:=e (by kernel_rfl)
theorem HZ:bG Tryz.prog 94:=e (by kernel_rfl)
def S7:=[o 2 (.alloc (.agg [.nils 8]))]
def S8:=[m 4 0,o 5 (.call 93 [.t 4]),m 3 5]
def Az:=[m 6 3,o 7 (.call 141 [.t 6,(.c (.func 142 []))])]
def S9:=[m 8 3,o 9 (.bld [.nils 8] [(0,(.t 8))]),p (.aV (some 1) (.t 2) (.t 9))]
def tZ:bl:=(s (r S7) (s (r S8) (s (r Az) (s (r S9) .ret))))
def vP:List bt:=[.cell 2 (some 1)]
theorem zf:bS Tryz.prog Tryz.f95 tZ:=e (by kernel_rfl)
theorem zq:bP Tryz.prog Tryz.f95 vP:=e (by kernel_rfl)
theorem y9:bG Tryz.prog 95:=e (by kernel_rfl)
def Ta:=[b 3 1,bo 4 0]
def Tb:=[bo 5 0]
def Tc:=[m 6 5,m 7 0,o 8 (.len (.t 7)),lt 9 6 8]
def Td:=[m 12 0,m 13 5,o 14 (.is 8 (.t 12) (.t 13)),f 15 0 0 14,ar 16 2 15,ar 17 2 3,o 18 (.eqv (.aV [(.i .i64),(.i .i64)]) false (.t 16) (.t 17))]
def Lb:=some [[],[],[0,1],[2],[3],[],[4,5]]
def Te:=[m 19 5,m 4 19]
def Tf:=[m 10 5,ad 11 10 1,m 5 11]
def Tg:=[bo 4 (-1)]
def yU:bl:=(s (r Ta) (s (s (r Tb) (.block 0 (.loop (s (s (r Tc) (.cond (.t 9) .skip (.exit 0))) (s (.block 1 (s (.bN Lb Td) (.cond (.t 18) (s (r Te) .ret) .skip))) (r Tf)))))) (s (r Tg) .ret)))
def Dc:List bt:=[.tmp 4]
theorem Je:bS Tryz.prog Tryz.f96 yU:=e (by kernel_rfl)
theorem Ky:bP Tryz.prog Tryz.f96 Dc:=e (by kernel_rfl)
theorem H0:bG Tryz.prog 96:=e (by kernel_rfl)
def Th:=[o 2 (.mv bh)]
def Ti:=[m 5 0,o 6 (.len (.t 5)),bo 7 0]
def Tj:=[lt 8 7 6]
def Tk:=[m 9 7,o 10 (.is 8 (.t 5) (.t 7)),ar 11 8 10,o 4 (.alloc (.agg [.agg [.int .i64 0,.int .i64 0],.int .i64 0,.int .i64 0,.int .i64 0,.agg [.int .i64 0,.int .i64 0],.aj ⟨#[]⟩])),m 3 9,p (.aV (some 8) (.t 4) (.t 11))]
def Tl:=[ar 12 8 4,o 13 (.call 80 [.t 12]),no 14 13,m 15 14,gF 16 0 15,gF 17 3 15,on 18 (.sl 8 (.t 16) none (some (.t 17)) none) 15,on 19 (.ld (some 8) (.t 4)) 15,on 20 (.call 71 [.t 18,.t 19]) 15,on 21 (.un .not (.t 20)) 15,or 22 15 21]
def Lc:=some [[],[0],[1],[2,1],[3],[3],[4,5,3],[3],[6,7,3,3],[8,3],[3,9]]
def Tm:=[o 2 (.mv bh)]
def Tn:=[ad 23 7 1,m 7 23]
def Tp:=[o 2 (.mv T)]
def yV:bl:=(s (r Th) (s (s (r Ti) (.block 0 (.loop (s (r Tj) (s (.cond (.t 8) .skip (.exit 0)) (s (.block 1 (s (r Tk) (s (.bN Lc Tl) (.cond (.t 22) (s (r Tm) .ret) .skip)))) (r Tn))))))) (s (r Tp) .ret)))
def Dd:List bt:=[.tmp 2]
theorem Jf:bS Tryz.prog Tryz.f98 yV:=e (by kernel_rfl)
theorem Kz:bP Tryz.prog Tryz.f98 Dd:=e (by kernel_rfl)
theorem H2:bG Tryz.prog 98:=e (by kernel_rfl)
def Mg:=[o 2 (.alloc (.agg [.int .i64 0,.int .i64 0,.int .i64 0,.int .i64 0,.int .i64 0,.int .i64 0]))]
def Mh:=[o 3 (.alloc (.agg [.int .i64 0,.int .i64 0,.int .i64 0,.int .i64 0,.int .i64 0,.int .i64 0]))]
def Mi:=[m 6 0,o 7 (.len (.t 6)),bo 8 0]
def Mj:=[lt 9 8 7]
def Mk:=[o 10 (.is 8 (.t 6) (.t 8)),ar 11 8 10,o 5 (.alloc (.agg [.agg [.int .i64 0,.int .i64 0],.int .i64 0,.int .i64 0,.int .i64 0,.agg [.int .i64 0,.int .i64 0],.aj ⟨#[]⟩])),p (.aV (some 8) (.t 5) (.t 11))]
def Ml:=[f 12 0 0 5,f 13 0 0 12,l 14 13,o 15 (.ia 6 1 (.t 3) (.t 14)),l 16 15,ad 17 16 1,o 18 (.ia 6 1 (.t 3) (.t 14)),p (.aV none (.t 18) (.t 17))]
def Mm:=[ad 19 8 1,m 8 19]
def Mn:=[ar 20 6 3,p (.aV (some 6) (.t 2) (.t 20))]
def xQ:bl:=(s (r Mg) (s (r Mh) (s (s (r Mi) (.block 0 (.loop (s (r Mj) (s (.cond (.t 9) .skip (.exit 0)) (s (.block 1 (s (r Mk) (r Ml))) (r Mm))))))) (s (r Mn) .ret))))
def Ce:List bt:=[.cell 2 (some 6)]
theorem Ic:bS Tryz.prog Tryz.f100 xQ:=e (by kernel_rfl)
theorem Jy:bP Tryz.prog Tryz.f100 Ce:=e (by kernel_rfl)
theorem GU:bG Tryz.prog 100:=e (by kernel_rfl)
def rq:=[o 6 (.mv (.c (.nils 8)))]
def rr:=[m 10 0,m 11 1,o 12 (.sl 8 (.t 10) (some (.t 11)) none none)]
def ru:=[m 13 2,o 14 (.len (.t 13)),m 7 14]
def rv:=[m 15 7,o 16 (.bin .eql (.t 15) (bj 0))]
def Mr:=[m 17 0,m 6 17]
def ry:=[m 18 0,o 19 (.len (.t 18)),m 8 19]
def rz:=[m 20 1,m 21 8,o 22 (.bin .eql (.t 20) (.t 21))]
def po:=[m 23 0,m 24 2,o 25 (.dD 50 8 72 (.agg [.agg [.int .i64 0,.int .i64 0],.int .i64 0,.int .i64 0,.int .i64 0,.agg [.int .i64 0,.int .i64 0],.aj ⟨#[]⟩]) (.t 23) (.t 24)),m 6 25]
def Ar:=[m 26 8,m 27 7,o 28 (.bin .add (.t 26) (.t 27)),m 29 0,o 30 (.cap (.t 29)),o 31 (.bin .gtr (.t 28) (.t 30))]
def As:=[m 32 0,m 33 1,o 34 (.sl 8 (.t 32) none (some (.t 33)) none),m 35 8,m 36 7,o 37 (.bin .add (.t 35) (.t 36)),m 38 1,o 39 (.bin .sub (.t 37) (.t 38)),o 40 (.jt 50 8 72 (.agg [.agg [.int .i64 0,.int .i64 0],.int .i64 0,.int .i64 0,.int .i64 0,.agg [.int .i64 0,.int .i64 0],.aj ⟨#[]⟩]) (.t 34) (.t 39)),m 9 40]
def Aj:=[m 41 9,m 42 1,o 43 (.sl 8 (.t 41) (some (.t 42)) none none),m 44 2,o 45 (.fQ 8 (.t 43) (.t 44))]
def Ak:=[m 46 9,m 47 1,m 48 7,o 49 (.bin .add (.t 47) (.t 48)),o 50 (.sl 8 (.t 46) (some (.t 49)) none none),m 51 0,m 52 1,o 53 (.sl 8 (.t 51) (some (.t 52)) none none),o 54 (.fQ 8 (.t 50) (.t 53))]
def KG:=some [[],[],[],[1,2],[0,3],[],[],[5,6],[4,7]]
def Al:=[m 55 9,m 6 55]
def Am:=[m 56 0,m 57 8,m 58 7,o 59 (.bin .add (.t 57) (.t 58)),o 60 (.sl 8 (.t 56) none (some (.t 59)) none),m 0 60]
def An:=[m 61 2,m 62 0,m 63 1,m 64 7,o 65 (.bin .add (.t 63) (.t 64)),o 66 (.sl 8 (.t 62) (some (.t 65)) none none),o 67 (.gv 143 [.t 61,.t 66]),no 68 67]
def Ao:=[m 69 0,m 70 1,m 71 7,o 72 (.bin .add (.t 70) (.t 71)),o 73 (.sl 8 (.t 69) (some (.t 72)) none none),m 74 0,m 75 1,o 76 (.sl 8 (.t 74) (some (.t 75)) none none),o 77 (.fQ 8 (.t 73) (.t 76))]
def KH:=some [[],[],[],[1,2],[0,3],[],[],[5,6],[4,7]]
def Ap:=[m 78 0,m 79 1,o 80 (.sl 8 (.t 78) (some (.t 79)) none none),m 81 2,o 82 (.fQ 8 (.t 80) (.t 81))]
def Aq:=[m 83 0,m 6 83]
def Mo:=[m 84 0,m 85 8,o 86 (.sl 8 (.t 84) (some (.t 85)) none none),m 87 2,o 88 (.fQ 8 (.t 86) (.t 87))]
def Mp:=[m 89 0,m 90 1,o 91 (.sl 8 (.t 89) (some (.t 90)) none none),m 92 7,o 93 (.call 144 [.t 91,.t 92])]
def Mq:=[m 94 0,m 6 94]
def qQ:bl:=(s (r rq) (s (r rr) (s (r ru) (s (s (r rv) (.cond (.t 16) (s (r Mr) .ret) .skip)) (s (r ry) (s (s (r rz) (.cond (.t 22) (s (r po) .ret) .skip)) (s (s (r Ar) (.cond (.t 31) (s (r As) (s (r Aj) (s (.bN KG Ak) (s (r Al) .ret)))) .skip)) (s (r Am) (s (s (r An) (.cond (.t 68) (s (.bN KH Ao) (s (r Ap) (s (r Aq) .ret))) .skip)) (s (r Mo) (s (r Mp) (s (r Mq) .ret))))))))))))
def sH:List bt:=[.tmp 6]
theorem uc:bS Tryz.prog Tryz.f101 qQ:=e (by kernel_rfl)
theorem ui:bP Tryz.prog Tryz.f101 sH:=e (by kernel_rfl)
theorem ua:bG Tryz.prog 101:=e (by kernel_rfl)
def Ms:=[o 2 (.alloc (.agg [.int .i64 0,.int .i64 0,.int .i64 0,.int .i64 0,.int .i64 0,.int .i64 0]))]
def Mt:=[o 3 (.alloc (.agg [.int .i64 0,.int .i64 0,.int .i64 0,.int .i64 0,.int .i64 0,.int .i64 0]))]
def Mu:=[bo 4 0]
def Mv:=[m 5 4,m 6 0,o 7 (.len (.t 6)),lt 8 5 7]
def Mw:=[m 11 0,m 12 4,o 13 (.is 8 (.t 11) (.t 12)),f 14 0 0 13,f 15 0 0 14,l 16 15,o 17 (.ia 6 1 (.t 3) (.t 16)),l 18 17,ad 19 18 1,o 20 (.ia 6 1 (.t 3) (.t 16)),p (.aV none (.t 20) (.t 19))]
def Mx:=[m 9 4,ad 10 9 1,m 4 10]
def My:=[ar 21 6 3,p (.aV (some 6) (.t 2) (.t 21))]
def xR:bl:=(s (r Ms) (s (r Mt) (s (s (r Mu) (.block 0 (.loop (s (s (r Mv) (.cond (.t 8) .skip (.exit 0))) (s (.block 1 (r Mw)) (r Mx)))))) (s (r My) .ret))))
def Cf:List bt:=[.cell 2 (some 6)]
theorem Ie:bS Tryz.prog Tryz.f102 xR:=e (by kernel_rfl)
theorem Jz:bP Tryz.prog Tryz.f102 Cf:=e (by kernel_rfl)
theorem GV:bG Tryz.prog 102:=e (by kernel_rfl)
def Mz:=[o 2 (.mv bh)]
def MA:=[m 3 0,o 4 (.call 128 [.t 3,(bj 0),(bj 100000)]),m 2 4]
def xS:bl:=(s (r Mz) (s (r MA) .ret))
def Cg:List bt:=[.tmp 2]
theorem If:bS Tryz.prog Tryz.f105 xS:=e (by kernel_rfl)
theorem JA:bP Tryz.prog Tryz.f105 Cg:=e (by kernel_rfl)
theorem GW:bG Tryz.prog 105:=e (by kernel_rfl)
def MB:=[bo 6 0]
def MC:=[m 7 0,o 8 (.len (.t 7)),o 9 (.bin .eql (.t 8) (bj 0))]
def MD:=[bo 6 0]
def ME:=[m 10 0,m 11 1,m 12 0,o 13 (.len (.t 12)),o 14 (.bin .rem (.t 11) (.t 13)),o 15 (.is 1 (.t 10) (.t 14)),l 16 15,m 17 2,o 18 (.bin .rem (.t 16) (.t 17)),m 19 2,o 20 (.bin .add (.t 18) (.t 19)),m 21 2,o 22 (.bin .rem (.t 20) (.t 21)),m 6 22]
def xT:bl:=(s (r MB) (s (s (r MC) (.cond (.t 9) (s (r MD) .ret) .skip)) (s (r ME) .ret)))
def Ch:List bt:=[.tmp 6]
theorem Ig:bS Tryz.prog Tryz.f121 xT:=e (by kernel_rfl)
theorem JB:bP Tryz.prog Tryz.f121 Ch:=e (by kernel_rfl)
theorem GX:bG Tryz.prog 121:=e (by kernel_rfl)
def MF:=[l 4 1,o 5 (.bin .neq (.t 4) (.c (.aj ⟨#[]⟩)))]
def MG:=[l 6 1,o 7 (.call 123 [.t 6,(.c (.int .u8 10))]),m 3 7]
def MH:=[m 8 3,o 9 (.bin .lss (.t 8) (bj 0)),m 10 9,gF 11 0 10,fJ 12 1 10,gF 13 3 10,on 14 (.bin .add (.t 13) (bj 1)) 10,on 15 (.prim (.ss false true) [.t 12,.t 14]) 10,on 16 (.eY (.t 11) [.t 15]) 10,on 17 (.un .not (.t 16)) 10,or 18 10 17]
def MI:=[l 19 1,m 20 3,ad 21 20 1,o 22 (.prim (.ss true false) [.t 19,.t 21]),p (.aV none (.t 1) (.t 22))]
def xU:bl:=(.block 0 (.loop (s (s (r MF) (.cond (.t 5) .skip (.exit 0))) (.block 1 (s (r MG) (s (s (r MH) (.cond (.t 18) .ret .skip)) (r MI)))))))
def Ci:List bt:=[]
theorem Ih:bS Tryz.prog Tryz.f122 xU:=e (by kernel_rfl)
theorem JC:bP Tryz.prog Tryz.f122 Ci:=e (by kernel_rfl)
theorem yY:bG Tryz.prog 122:=e (by kernel_rfl)
theorem GY:bG Tryz.prog 123:=e (by kernel_rfl)
theorem yZ:bG Tryz.prog 124:=e (by kernel_rfl)
theorem GZ:bG Tryz.prog 125:=e (by kernel_rfl)
def MJ:=[bo 2 0,o 3 (.mv (.c (.aj ⟨#[]⟩)))]
def MK:=[m 10 0,o 11 (.call 154 [.t 10,(.c (.aj ⟨#[32]⟩))]),m 9 11,o 12 (.ext (.t 9) 0),o 13 (.ext (.t 9) 1),o 14 (.ext (.t 9) 2),m 4 12,m 5 13,m 6 14]
def ML:=[m 16 4,o 17 (.call 155 [.t 16]),m 15 17,o 18 (.ext (.t 15) 0),o 19 (.ext (.t 15) 1),m 7 18,m 8 19]
def MN:=[m 20 6,no 21 20,m 22 21,gF 23 8 22,on 24 (.prim (.mG true) [.t 23]) 22,or 25 22 24]
def rA:=[o 26 (.bld [] []),o 27 (.prim (.lT 176) [.t 26]),p (.prim .kj [.t 27])]
def MO:=[m 28 7,m 29 5,m 2 28,m 3 29]
def tX:bl:=(s (r MJ) (s (r MK) (s (r ML) (s (s (r MN) (.cond (.t 25) (r rA) .skip)) (s (r MO) .ret)))))
def Cj:List bt:=[.tmp 2,.tmp 3]
theorem zd:bS Tryz.prog Tryz.f126 tX:=e (by kernel_rfl)
theorem JD:bP Tryz.prog Tryz.f126 Cj:=e (by kernel_rfl)
theorem y5:bG Tryz.prog 126:=e (by kernel_rfl)
theorem G0:bG Tryz.prog 127:=e (by kernel_rfl)
def MP:=[o 6 (.mv bh)]
def MQ:=[m 7 1,m 8 0,o 9 (.bin .leq (.t 7) (.t 8)),m 10 9,cY 11 0 10,cY 12 2 10,bL 13 (.bin .leq (.t 11) (.t 12)) 10,and 14 10 13,m 6 14]
def xV:bl:=(s (r MP) (s (r MQ) .ret))
def Ck:List bt:=[.tmp 6]
theorem Ii:bS Tryz.prog Tryz.f128 xV:=e (by kernel_rfl)
theorem JE:bP Tryz.prog Tryz.f128 Ck:=e (by kernel_rfl)
theorem G1:bG Tryz.prog 128:=e (by kernel_rfl)
def MR:=[b 1 0,o 2 (.mv bh)]
def MS:=[f 3 0 0 1,l 4 3,o 5 (.call 128 [.t 4,(bj 0),(bj 5)]),m 6 5,dP 7 1 1 1 6,gj 8 7 6,bL 9 (.call 128 [.t 8,(bj 0),(bj 9999)]) 6,and 10 6 9,m 2 10]
def xW:bl:=(s (r MR) (s (r MS) .ret))
def Cl:List bt:=[.tmp 2]
theorem Ij:bS Tryz.prog Tryz.f129 xW:=e (by kernel_rfl)
theorem JF:bP Tryz.prog Tryz.f129 Cl:=e (by kernel_rfl)
theorem G2:bG Tryz.prog 129:=e (by kernel_rfl)
def MT:=[o 2 (.mv bh)]
def MU:=[m 5 0,o 6 (.lenT (.t 5)),o 7 (.bin .gtr (.t 6) (bj 160))]
def MV:=[o 2 (.mv bh)]
def MW:=[m 8 0,o 9 (.eE (.t 8)),o 10 (.len (.t 9)),bo 11 0]
def MX:=[lt 12 11 10]
def MY:=[o 13 (.is 1 (.t 9) (.t 11)),l 14 13,m 4 14]
def MZ:=[m 15 4,o 16 (.bin .lss (.t 15) (.c (.int .u8 32))),m 17 16,gF 18 4 17,on 19 (.bin .gtr (.t 18) (.c (.int .u8 126))) 17,or 20 17 19,m 21 20,gF 22 4 21,on 23 (.bin .eql (.t 22) (.c (.int .u8 63))) 21,or 24 21 23]
def M0:=[o 2 (.mv bh)]
def M2:=[ad 25 11 1,m 11 25]
def M3:=[o 2 (.mv T)]
def xX:bl:=(s (r MT) (s (s (r MU) (.cond (.t 7) (s (r MV) .ret) .skip)) (s (s (r MW) (.block 0 (.loop (s (r MX) (s (.cond (.t 12) .skip (.exit 0)) (s (.block 1 (s (r MY) (s (r MZ) (.cond (.t 24) (s (r M0) .ret) .skip)))) (r M2))))))) (s (r M3) .ret))))
def Cm:List bt:=[.tmp 2]
theorem Ik:bS Tryz.prog Tryz.f130 xX:=e (by kernel_rfl)
theorem JG:bP Tryz.prog Tryz.f130 Cm:=e (by kernel_rfl)
theorem G3:bG Tryz.prog 130:=e (by kernel_rfl)
theorem G4:bG Tryz.prog 131:=e (by kernel_rfl)
theorem G5:bG Tryz.prog 132:=e (by kernel_rfl)
def M4:=[b 1 0,o 2 (.mv (.c (.aj ⟨#[]⟩)))]
def M5:=[f 4 0 0 1,f 5 0 0 4,l 6 5,o 7 (.call 134 [.t 6]),o 8 (.bin .add (.t 7) (.c (.aj ⟨#[32]⟩))),f 9 0 0 1,f 10 1 1 9,l 11 10,o 12 (.call 134 [.t 11]),o 13 (.bin .add (.t 8) (.t 12)),o 14 (.bin .add (.t 13) (.c (.aj ⟨#[32]⟩))),f 15 1 2 1,l 16 15,o 17 (.call 134 [.t 16]),o 18 (.bin .add (.t 14) (.t 17)),o 19 (.bin .add (.t 18) (.c (.aj ⟨#[32]⟩))),f 20 2 3 1,l 21 20,o 22 (.call 134 [.t 21]),o 23 (.bin .add (.t 19) (.t 22)),o 24 (.bin .add (.t 23) (.c (.aj ⟨#[32]⟩))),f 25 3 4 1,l 26 25,o 27 (.call 134 [.t 26]),o 28 (.bin .add (.t 24) (.t 27)),o 29 (.bin .add (.t 28) (.c (.aj ⟨#[32]⟩))),m 3 29]
def KI:=some [[],[0],[1],[2],[3],[],[5],[6],[7,3],[4,8],[9],[],[11],[12,8],[10,13],[14],[],[16],[17,13],[15,18],[19],[],[21],[22,18],[20,23],[24],[25,23,0,1,2,3,4,5,6,7,8,9,10,11,12,13,14,15,16,17,18,19,20,21,22,23,24,25]]
def M6:=[m 30 3,f 31 4 5 1,f 32 0 0 31,l 33 32,o 34 (.call 134 [.t 33]),o 35 (.bin .add (.t 30) (.t 34)),o 36 (.bin .add (.t 35) (.c (.aj ⟨#[32]⟩))),f 37 4 5 1,f 38 1 1 37,l 39 38,o 40 (.call 134 [.t 39]),o 41 (.bin .add (.t 36) (.t 40)),o 42 (.bin .add (.t 41) (.c (.aj ⟨#[32]⟩))),f 43 5 7 1,l 44 43,o 45 (.bin .add (.t 42) (.t 44)),m 2 45]
def KJ:=some [[],[],[1],[2],[3],[0,4],[5],[],[7],[8],[9,4],[6,10],[11],[],[13],[12,14],[15,10,0,1,2,3,4,5,6,7,8,9,10,11,12,13,14,15]]
def xY:bl:=(s (r M4) (s (.bN KI M5) (s (.bN KJ M6) .ret)))
def Cn:List bt:=[.tmp 2]
theorem Il:bS Tryz.prog Tryz.f133 xY:=e (by kernel_rfl)
theorem JH:bP Tryz.prog Tryz.f133 Cn:=e (by kernel_rfl)
theorem G6:bG Tryz.prog 133:=e (by kernel_rfl)
def M7:=[o 2 (.mv (.c (.aj ⟨#[]⟩)))]
def M8:=[m 4 0,o 5 (.bin .rem (.t 4) (bj 10)),o 6 (.bin .add (bj 48) (.t 5)),o 7 (.conv .u8 (.t 6)),o 8 (.bs 5 1 [.t 7]),o 9 (.b2s (.t 8)),m 3 9]
def M9:=[m 10 0,o 11 (.bin .geq (.t 10) (bj 10))]
def Na:=[m 12 0,o 13 (.bin .quo (.t 12) (bj 10)),m 0 13]
def Nb:=[m 14 0,o 15 (.bin .rem (.t 14) (bj 10)),o 16 (.bin .add (bj 48) (.t 15)),o 17 (.conv .u8 (.t 16)),o 18 (.bs 5 1 [.t 17]),o 19 (.b2s (.t 18)),m 20 3,o 21 (.bin .add (.t 19) (.t 20)),m 3 21]
def Nc:=[m 22 3,m 2 22]
def xZ:bl:=(s (r M7) (s (r M8) (s (.block 0 (.loop (s (s (r M9) (.cond (.t 11) .skip (.exit 0))) (.block 1 (s (r Na) (r Nb)))))) (s (r Nc) .ret))))
def Co:List bt:=[.tmp 2]
theorem Im:bS Tryz.prog Tryz.f134 xZ:=e (by kernel_rfl)
theorem JI:bP Tryz.prog Tryz.f134 Co:=e (by kernel_rfl)
theorem G7:bG Tryz.prog 134:=e (by kernel_rfl)
theorem G8:bG Tryz.prog 135:=e (by kernel_rfl)
def Nd:=[b 3 1,o 4 (.mv bh)]
def Nf:=[m 5 0,ar 6 8 3,o 7 (.call 159 [.t 5,.t 6]),o 8 (.bin .geq (.t 7) (bj 0)),m 4 8]
def x8:bl:=(s (r Nd) (s (r Nf) .ret))
def Cp:List bt:=[.tmp 4]
theorem Io:bS Tryz.prog Tryz.f136 x8:=e (by kernel_rfl)
theorem JJ:bP Tryz.prog Tryz.f136 Cp:=e (by kernel_rfl)
theorem G9:bG Tryz.prog 136:=e (by kernel_rfl)
def Ng:=[bo 2 0]
def Nh:=[bo 3 1]
def Ni:=[m 6 0,o 7 (.len (.t 6)),bo 8 0]
def Nj:=[lt 9 8 7]
def Nk:=[o 10 (.is 8 (.t 6) (.t 8)),ar 11 8 10,o 5 (.alloc (.agg [.agg [.int .i64 0,.int .i64 0],.int .i64 0,.int .i64 0,.int .i64 0,.agg [.int .i64 0,.int .i64 0],.aj ⟨#[]⟩])),p (.aV (some 8) (.t 5) (.t 11))]
def Nl:=[m 13 3,ar 14 8 5,o 15 (.call 81 [.t 13,.t 14]),m 12 15,o 16 (.ext (.t 12) 0),o 17 (.ext (.t 12) 1),m 3 17]
def Nn:=[ad 18 8 1,m 8 18]
def Np:=[m 19 3,m 2 19]
def x9:bl:=(s (r Ng) (s (r Nh) (s (s (r Ni) (.block 0 (.loop (s (r Nj) (s (.cond (.t 9) .skip (.exit 0)) (s (.block 1 (s (r Nk) (r Nl))) (r Nn))))))) (s (r Np) .ret))))
def Cq:List bt:=[.tmp 2]
theorem Ip:bS Tryz.prog Tryz.f137 x9:=e (by kernel_rfl)
theorem JK:bP Tryz.prog Tryz.f137 Cq:=e (by kernel_rfl)
theorem Ha:bG Tryz.prog 137:=e (by kernel_rfl)
def Nq:=[b 4 1,bo 6 0,o 7 (.mv bh)]
def Nr:=[m 12 0,o 13 (.len (.t 12)),m 8 13]
def Nt:=[m 14 8,bo 9 0,m 10 14]
def Nu:=[m 15 9,m 16 10,lt 17 15 16]
def Nv:=[m 18 9,m 19 10,o 20 (.bin .add (.t 18) (.t 19)),o 21 (.conv .u64 (.t 20)),o 22 (.bin .shr (.t 21) (.c (.int .u64 1))),o 23 (.conv .i64 (.t 22)),m 11 23]
def Nw:=[m 24 2,m 25 0,m 26 11,o 27 (.is 8 (.t 25) (.t 26)),ar 28 8 27,ar 29 2 4,o 30 (.eY (.t 24) [.t 28,.t 29]),o 31 (.bin .lss (.t 30) (bj 0))]
def KK:=some [[],[],[],[1,2],[3],[],[0,4,5],[6]]
def Nx:=[m 32 11,ad 33 32 1,m 9 33]
def Ny:=[m 34 11,m 10 34]
def Nz:=[m 35 9,m 36 9,m 37 8,lt 38 36 37,m 39 38,cY 40 2 39,cY 41 0 39,cY 42 9 39,bL 43 (.is 8 (.t 41) (.t 42)) 39,bL 44 (.ld (some 8) (.t 43)) 39,bL 45 (.ld (some 2) (.t 4)) 39,bL 46 (.eY (.t 40) [.t 44,.t 45]) 39,bL 47 (.bin .eql (.t 46) (bj 0)) 39,and 48 39 47,m 6 35,m 7 48]
def KL:=some [[],[],[],[1,2],[3],[4],[4],[4],[6,7,4],[8,4],[4],[5,9,10,4,4],[11,4],[4,12],[0,11,0],[13,14,0,1,2,3,4,5,6,7,8,9,10,11,12,13,14]]
def ya:bl:=(s (r Nq) (s (r Nr) (s (r Nt) (s (.block 0 (.loop (s (s (r Nu) (.cond (.t 17) .skip (.exit 0))) (.block 1 (s (r Nv) (s (.bN KK Nw) (.cond (.t 31) (r Nx) (r Ny)))))))) (s (.bN KL Nz) .ret)))))
def Cr:List bt:=[.tmp 6,.tmp 7]
theorem Iq:bS Tryz.prog Tryz.f138 ya:=e (by kernel_rfl)
theorem JL:bP Tryz.prog Tryz.f138 Cr:=e (by kernel_rfl)
theorem Hb:bG Tryz.prog 138:=e (by kernel_rfl)
def NA:=[b 2 0,b 3 1,bo 4 0]
def NB:=[f 5 0 0 2,ar 6 2 5,ar 7 2 3,o 8 (.call 140 [.t 6,.t 7]),m 4 8]
def yb:bl:=(s (r NA) (s (r NB) .ret))
def Cs:List bt:=[.tmp 4]
theorem Ir:bS Tryz.prog Tryz.f139 yb:=e (by kernel_rfl)
theorem JM:bP Tryz.prog Tryz.f139 Cs:=e (by kernel_rfl)
theorem Hc:bG Tryz.prog 139:=e (by kernel_rfl)
def NC:=[b 2 0,b 3 1,bo 4 0]
def ND:=[f 5 0 0 2,l 6 5,f 7 0 0 3,l 8 7,o 9 (.call 161 [.t 6,.t 8]),f 10 1 1 2,l 11 10,f 12 1 1 3,l 13 12,o 14 (.call 161 [.t 11,.t 13]),o 15 (.bs 3 1 [.t 9,.t 14]),o 16 (.call 160 [.t 15]),m 4 16]
def KM:=some [[],[0],[],[2],[1,3],[],[5],[],[7],[6,8,4],[4,9],[10,9],[11,11,0,1,2,3,4,5,6,7,8,9,10,11]]
def yd:bl:=(s (r NC) (s (.bN KM ND) .ret))
def Cu:List bt:=[.tmp 4]
theorem It:bS Tryz.prog Tryz.f140 yd:=e (by kernel_rfl)
theorem JO:bP Tryz.prog Tryz.f140 Cu:=e (by kernel_rfl)
theorem He:bG Tryz.prog 140:=e (by kernel_rfl)
theorem Hf:bG Tryz.prog 141:=e (by kernel_rfl)
theorem Hh:bG Tryz.prog 152:=e (by kernel_rfl)
def NR:=[o 4 (.mv (.c (.aj ⟨#[]⟩))),o 5 (.mv (.c (.aj ⟨#[]⟩))),o 6 (.mv bh)]
def NS:=[m 7 0,m 8 1,o 9 (.call 170 [.t 7,.t 8]),o 10 (.ext (.t 9) 0),o 11 (.ext (.t 9) 1),o 12 (.ext (.t 9) 2),m 4 10,m 5 11,m 6 12]
def yg:bl:=(s (r NR) (s (r NS) .ret))
def Cw:List bt:=[.tmp 4,.tmp 5,.tmp 6]
theorem Iv:bS Tryz.prog Tryz.f154 yg:=e (by kernel_rfl)
theorem JQ:bP Tryz.prog Tryz.f154 Cw:=e (by kernel_rfl)
theorem Hi:bG Tryz.prog 154:=e (by kernel_rfl)
theorem Hj:bG Tryz.prog 155:=e (by kernel_rfl)
def NT:=[b 3 1,bo 4 0]
def NU:=[m 6 0,o 7 (.len (.t 6)),bo 8 0]
def NV:=[lt 9 8 7]
def NW:=[m 10 8,m 5 10]
def NX:=[ar 11 8 3,m 12 0,m 13 5,o 14 (.is 8 (.t 12) (.t 13)),ar 15 8 14,o 16 (.eqv (.aV [(.aV [(.i .i64),(.i .i64)]),(.i .i64),(.i .i64),(.i .i64),(.aV [(.i .i64),(.i .i64)]),.s]) false (.t 11) (.t 15))]
def KN:=some [[],[],[],[1,2],[3],[0,4]]
def NY:=[m 17 5,m 4 17]
def NZ:=[ad 18 8 1,m 8 18]
def N0:=[bo 4 (-1)]
def yh:bl:=(s (r NT) (s (s (r NU) (.block 0 (.loop (s (r NV) (s (.cond (.t 9) .skip (.exit 0)) (s (.block 1 (s (r NW) (s (.bN KN NX) (.cond (.t 16) (s (r NY) .ret) .skip)))) (r NZ))))))) (s (r N0) .ret)))
def Cx:List bt:=[.tmp 4]
theorem Iw:bS Tryz.prog Tryz.f159 yh:=e (by kernel_rfl)
theorem JR:bP Tryz.prog Tryz.f159 Cx:=e (by kernel_rfl)
theorem Hk:bG Tryz.prog 159:=e (by kernel_rfl)
def Of:=[bo 2 0]
def Og:=[bo 3 0]
def Oh:=[m 6 0,o 7 (.len (.t 6)),bo 8 0]
def Oi:=[lt 9 8 7]
def Oj:=[o 10 (.is 1 (.t 6) (.t 8)),l 11 10,m 5 11]
def Ol:=[m 12 5,m 13 3,o 14 (.bin .neq (.t 12) (.t 13))]
def Om:=[m 15 5,m 2 15]
def On:=[ad 16 8 1,m 8 16]
def Oo:=[m 17 3,m 2 17]
def yi:bl:=(s (r Of) (s (r Og) (s (s (r Oh) (.block 0 (.loop (s (r Oi) (s (.cond (.t 9) .skip (.exit 0)) (s (.block 1 (s (r Oj) (s (r Ol) (.cond (.t 14) (s (r Om) .ret) .skip)))) (r On))))))) (s (r Oo) .ret))))
def Cy:List bt:=[.tmp 2]
theorem Iy:bS Tryz.prog Tryz.f160 yi:=e (by kernel_rfl)
theorem JS:bP Tryz.prog Tryz.f160 Cy:=e (by kernel_rfl)
theorem Hl:bG Tryz.prog 160:=e (by kernel_rfl)
def Oq:=[bo 4 0]
def Ot:=[m 7 0,o 8 (.call 175 [.t 7]),m 5 8]
def Oy:=[m 9 1,o 10 (.call 175 [.t 9]),m 6 10]
def Oz:=[m 11 5]
def OA:=[m 12 6]
def OB:=[bo 4 0]
def OC:=[bo 4 (-1)]
def OD:=[m 13 6]
def OE:=[bo 4 1]
def OF:=[m 14 0,m 15 1,lt 16 14 15]
def Ou:=[bo 4 (-1)]
def Ov:=[m 17 0,m 18 1,o 19 (.bin .gtr (.t 17) (.t 18))]
def Ow:=[bo 4 1]
def Ox:=[bo 4 0]
def yj:bl:=(s (r Oq) (s (r Ot) (s (r Oy) (s (s (r Oz) (.cond (.t 11) (s (s (r OA) (.cond (.t 12) (s (r OB) .ret) .skip)) (s (r OC) .ret)) .skip)) (s (s (r OD) (.cond (.t 13) (s (r OE) .ret) .skip)) (s (s (r OF) (.cond (.t 16) (s (r Ou) .ret) .skip)) (s (s (r Ov) (.cond (.t 19) (s (r Ow) .ret) .skip)) (s (r Ox) .ret))))))))
def Cz:List bt:=[.tmp 4]
theorem Iz:bS Tryz.prog Tryz.f161 yj:=e (by kernel_rfl)
theorem JT:bP Tryz.prog Tryz.f161 Cz:=e (by kernel_rfl)
theorem Hm:bG Tryz.prog 161:=e (by kernel_rfl)
def OG:=[o 4 (.mv (.c (.aj ⟨#[]⟩))),o 5 (.mv (.c (.aj ⟨#[]⟩))),o 6 (.mv bh)]
def OH:=[m 8 0,m 9 1,o 10 (.call 188 [.t 8,.t 9]),m 7 10]
def OI:=[m 11 7,o 12 (.bin .geq (.t 11) (bj 0))]
def OJ:=[m 13 0,m 14 7,o 15 (.prim (.ss false true) [.t 13,.t 14]),m 16 0,m 17 7,m 18 1,o 19 (.lenT (.t 18)),o 20 (.bin .add (.t 17) (.t 19)),o 21 (.prim (.ss true false) [.t 16,.t 20]),m 4 15,m 5 21,o 6 (.mv T)]
def KP:=some [[],[],[0,1],[],[],[],[5],[4,6],[3,7],[2,0,1,2],[8,9,0,1,2,3,4,5,6,7,8,9],[10,0,1,2,3,4,5,6,7,8,9,10]]
def OK:=[m 22 0,m 4 22,o 5 (.mv (.c (.aj ⟨#[]⟩))),o 6 (.mv bh)]
def yl:bl:=(s (r OG) (s (s (r OH) (s (r OI) (.cond (.t 12) (s (.bN KP OJ) .ret) .skip))) (s (r OK) .ret)))
def CB:List bt:=[.tmp 4,.tmp 5,.tmp 6]
theorem IB:bS Tryz.prog Tryz.f170 yl:=e (by kernel_rfl)
theorem JV:bP Tryz.prog Tryz.f170 CB:=e (by kernel_rfl)
theorem y7:bG Tryz.prog 170:=e (by kernel_rfl)
def OL:=[o 2 (.mv bh)]
def OM:=[m 3 0,m 4 0,o 5 (.bin .neq (.t 3) (.t 4)),m 2 5]
def c175:bl:=(s (r OL) (s (r OM) .ret))
def CC:List bt:=[.tmp 2]
theorem IC:bS Tryz.prog Tryz.f175 c175:=e (by kernel_rfl)
theorem JW:bP Tryz.prog Tryz.f175 CC:=e (by kernel_rfl)
theorem Ho:bG Tryz.prog 175:=e (by kernel_rfl)
def OU:=[bo 4 0]
def OV:=[m 14 1,o 15 (.lenT (.t 14)),m 5 15]
def O6:=[m 17 5,o 18 (.bin .eql (.t 17) (bj 0)),m 19 18,gF 20 1 19,gF 21 0 19,on 22 (.bin .eql (.t 20) (.t 21)) 19,or 23 19 22,m 16 23]
def Ph:=[bo 4 0]
def Pm:=[m 25 5,o 26 (.bin .eql (.t 25) (bj 1)),m 24 26]
def Pn:=[m 27 0,m 28 1,o 29 (.prim .dN [.t 28,(bj 0)]),o 30 (.call 152 [.t 27,.t 29]),m 4 30]
def Po:=[m 32 5,m 33 0,o 34 (.lenT (.t 33)),o 35 (.bin .geq (.t 32) (.t 34)),m 31 35]
def Pp:=[bo 4 (-1)]
def Pq:=[m 45 0,m 46 1,o 47 (.gv 204 [.t 45,.t 46]),m 4 47]
def Pr:=[m 48 1,o 49 (.prim .dN [.t 48,(bj 0)]),m 6 49]
def OW:=[m 50 1,o 51 (.prim .dN [.t 50,(bj 1)]),m 7 51]
def OX:=[bo 8 0]
def OY:=[m 52 0,o 53 (.lenT (.t 52)),m 54 5,o 55 (.bin .sub (.t 53) (.t 54)),ad 56 55 1,m 9 56]
def OZ:=[bo 10 0]
def O0:=[m 57 8,m 58 9,lt 59 57 58]
def O1:=[m 60 0,m 61 8,o 62 (.prim .dN [.t 60,.t 61]),m 63 6,o 64 (.bin .neq (.t 62) (.t 63))]
def O2:=[m 65 0,m 66 8,ad 67 66 1,m 68 9,o 69 (.prim (.ss true true) [.t 65,.t 67,.t 68]),m 70 6,o 71 (.call 152 [.t 69,.t 70]),m 11 71]
def O3:=[m 72 11,o 73 (.bin .lss (.t 72) (bj 0))]
def O4:=[bo 4 (-1)]
def O5:=[m 74 8,m 75 11,ad 76 75 1,o 77 (.bin .add (.t 74) (.t 76)),m 8 77]
def O7:=[m 78 0,m 79 8,ad 80 79 1,o 81 (.prim .dN [.t 78,.t 80]),m 82 7,o 83 (.bin .eql (.t 81) (.t 82)),m 84 83,cY 85 0 84,cY 86 8 84,cY 87 8 84,cY 88 5 84,bL 89 (.bin .add (.t 87) (.t 88)) 84,bL 90 (.prim (.ss true true) [.t 85,.t 86,.t 89]) 84,cY 91 1 84,bL 92 (.bin .eql (.t 90) (.t 91)) 84,and 93 84 92]
def O8:=[m 94 8,m 4 94]
def O9:=[m 95 8,ad 96 95 1,m 8 96]
def Pa:=[m 97 10,ad 98 97 1,m 10 98]
def Pb:=[m 108 0,m 109 8,o 110 (.prim (.ss true false) [.t 108,.t 109]),m 111 1,o 112 (.gv 204 [.t 110,.t 111]),m 12 112]
def Pc:=[m 113 12,o 114 (.bin .geq (.t 113) (bj 0))]
def Pd:=[m 115 12,m 116 8,o 117 (.bin .add (.t 115) (.t 116)),m 4 117]
def Pe:=[bo 4 (-1)]
def Pf:=[m 133 0,m 134 8,o 135 (.prim (.ss true false) [.t 133,.t 134]),m 136 1,o 137 (.call 206 [.t 135,.t 136]),m 13 137]
def Pg:=[m 138 13,o 139 (.bin .lss (.t 138) (bj 0))]
def Pj:=[bo 4 (-1)]
def Pk:=[m 140 8,m 141 13,o 142 (.bin .add (.t 140) (.t 141)),m 4 142]
def Pl:=[bo 4 (-1)]
def yn:bl:=(s (r OU) (s (r OV) (s (.block 0 (s (r O6) (.cond (.t 16) (s (r Ph) .ret) (s (r Pm) (.cond (.t 24) (s (r Pn) .ret) (s (r Po) (.cond (.t 31) (s (r Pp) .ret) (s .oV (.cond (.t 36) (s (r Pq) .ret) .skip))))))))) (s (r Pr) (s (r OW) (s (r OX) (s (r OY) (s (r OZ) (s (.block 1 (.loop (s (s (r O0) (.cond (.t 59) .skip (.exit 1))) (.block 2 (s (s (r O1) (.cond (.t 64) (s (r O2) (s (s (r O3) (.cond (.t 73) (s (r O4) .ret) .skip)) (r O5))) .skip)) (s (s (r O7) (.cond (.t 93) (s (r O8) .ret) .skip)) (s (r O9) (s (r Pa) (s .oV (.cond (.t 107) (s (r Pb) (s (s (r Pc) (.cond (.t 114) (s (r Pd) .ret) .skip)) (s (r Pe) .ret))) (s .oV (.cond (.t 132) (s (r Pf) (s (s (r Pg) (.cond (.t 139) (s (r Pj) .ret) .skip)) (s (r Pk) .ret))) .skip)))))))))))) (s (r Pl) .ret))))))))))
def CE:List bt:=[.tmp 4]
theorem IE:bS Tryz.prog Tryz.f188 yn:=e (by kernel_rfl)
theorem JY:bP Tryz.prog Tryz.f188 CE:=e (by kernel_rfl)
theorem Hq:bG Tryz.prog 188:=e (by kernel_rfl)
end Go.Proofs.YtoffnnjbplgnaaaGreatDoor
namespace Go.Abs
open Go Go.RowKit
open Enc (enc)
def av(x:I)(p q:Prop):Prop:=match x with
 | .bool t=>(t=true→p)∧(t=false→q)
 |_=>False
theorem U.gC{c:b9}{A:ab}{Q:Exit→ab→Prop}{b:ay}{x y:bl}(h:av (af A b) (U c x Q A) (U c y Q A)):U c (.cond b x y) Q A:=by
 generalize hb:af A b=v at h;unfold av at h;split at h
 ·exact U.cond hb h.1 h.2
 ·exact h.elim
def mT(r:I):Option (List I)→Prop
 |some xs=>jL xs=r
 |none=>False
theorem XF(rs:List bt)(r:I)(A:ab):jO rs r .ret A=mT r (eh A rs):=by
 simp only[jO,mT];cases eh A rs <;>simp
theorem XE(rs:List bt)(r:I)(A:ab):jO rs r .normal A=mT r (eh A rs):=by
 simp only[jO,mT];cases eh A rs <;>simp
def qa(s:Option Nat)(A:ab):Option I→Option I
 |some x=>if bU s x=true then ba true A x else none
 |none=>none
def kT:Option I→Option (List I)→Option (List I)
 |some x,some xs=>some (x::xs)
 |_,_=>none
theorem Xw(A:ab):eh A []=some []:=rfl
theorem Xx(A:ab)(t:Nat)(rs:List bt):eh A (.tmp t::rs)=kT (ba true A (A.t t)) (eh A rs):=by
 simp only[eh,sS];cases ba true A (A.t t) <;>cases eh A rs <;>rfl
theorem Xv(A:ab)(a:Nat)(s:Option Nat)(rs:List bt):eh A (.cell a s::rs)=kT (qa s A (ft A (A.t a))) (eh A rs):=by
 simp only[eh,sS,jy];cases ft A (A.t a) with
 |none=>cases eh A rs <;>rfl
 |some x =>
  by_cases h:bU s x=true
  ·simp only[qa,if_pos h];cases ba true A x <;>cases eh A rs <;>rfl
  ·simp only[qa,if_neg h];cases eh A rs <;>rfl
def nP(aB:Bool)(A:ab):Option I→Option I
 |some x=>if x.bw=true then some (.ref x) else (fS A 9 x).map .ref
 |none=>none
theorem uL(A:ab)(n:Nat)(p:List Nat):ba true A (.ptr n p)=nP true A (dE p (A.o n)):=by
 simp only[ba,jy,ft,if_true,nP];cases dE p (A.o n) <;>rfl
open Classical in
noncomputable def j7(sz lo k:Nat):Option (List I)→Option I
 |some fs=>if I.b7 ((fs.drop lo).take k)=true then some (.slice sz ((fs.drop lo).take k)) else none
 |none=>none
theorem uM(A:ab)(n:Nat)(p:List Nat)(sz lo k:Nat):ba true A (.view n p sz lo k)=j7 sz lo k (en (dE p (A.o n))):=by
 simp only[ba,jy,ft,if_true];cases dE p (A.o n) with
 |none=>rfl
 |some c=>cases c <;>simp only[en,I.c7,j7] <;>(split <;>simp_all)
open Classical in
noncomputable def kV(k:Nat):Option ai→Option I
 |some (.bJ _ sz es)=>if k=es.length∧I.b7 es=true then some (.slice sz es) else none
 |_=>none
theorem L7(aB:Bool)(A:ab)(n k:Nat):ba aB A (.own n k)=kV k (A.o n):=by
 simp only[ba];cases A.o n with
 |none=>rfl
 |some y=>cases y <;>simp only[kV] <;>(split <;>simp_all)
theorem L1(aB:Bool)(A:ab)(fs:List I):ba aB A (.agg fs)=(bE aB A fs).map .agg:=by simp only[ba]
theorem L3(aB:Bool)(A:ab)(f:FuncId)(fs:List I):ba aB A (.func f fs)=if f<1000000 then (bE aB A fs).map (.func f) else some .any:=by simp only[ba]
theorem L4(aB:Bool)(A:ab)(k:IntKind)(n:Int):ba aB A (.int k n)=some (.int k n):=by simp only[ba]
theorem L2(aB:Bool)(A:ab)(n:Bool):ba aB A (.bool n)=some (.bool n):=by simp only[ba]
theorem Ma(aB:Bool)(A:ab)(n:ByteArray):ba aB A (.aj n)=some (.aj n):=by simp only[ba]
theorem L6(aB:Bool)(A:ab)(n:Nat):ba aB A (.nils n)=some (.slice n []):=by simp only[ba]
theorem L9(aB:Bool)(A:ab)(n:Nat)(es:List I):ba aB A (.slice n es)=if I.b7 es=true then some (.slice n es) else none:=by simp only[ba]
theorem L8(aB:Bool)(A:ab)(x:I):ba aB A (.ref x)=if x.bw=true then some (.ref x) else none:=by simp only[ba]
theorem Mc(aB:Bool)(A:ab):bE aB A []=some []:=by simp only[bE]
theorem Mb(aB:Bool)(A:ab)(x:I)(xs:List I):bE aB A (x::xs)=kT (ba aB A x) (bE aB A xs):=by
 simp only[bE];cases ba aB A x <;>cases bE aB A xs <;>rfl
theorem Ji(fs:List I):(I.agg fs).bw=I.b7 fs:=by simp only[I.bw]
theorem Jn(n:Nat)(fs:List I):(I.slice n fs).bw=I.b7 fs:=by simp only[I.bw]
theorem Jm(x:I):(I.ref x).bw=x.bw:=by simp only[I.bw]
theorem Jl(k:IntKind)(n:Int):(I.int k n).bw=true:=by simp only[I.bw]
theorem Jj(n:Bool):(I.bool n).bw=true:=by simp only[I.bw]
theorem Jo(n:ByteArray):(I.aj n).bw=true:=by simp only[I.bw]
theorem Jk(f:FuncId)(fs:List I):(I.func f fs).bw=I.b7 fs:=by simp only[I.bw]
theorem Jq:I.b7 []=true:=by simp only[I.b7]
theorem Jp(x:I)(xs:List I):I.b7 (x::xs)=(x.bw&&I.b7 xs):=by simp only[I.b7]
theorem Gr(k:IntKind)(a b:Int):bF .add (.int k a) (.int k b)=some (.int k (k.wrap (a+b))):=by simp[bF]
theorem GI(k:IntKind)(a b:Int):bF .sub (.int k a) (.int k b)=some (.int k (k.wrap (a-b))):=by simp[bF]
theorem Gz(k:IntKind)(a b:Int):bF .mul (.int k a) (.int k b)=some (.int k (k.wrap (a*b))):=by simp[bF]
theorem GD(k:IntKind)(a b:Int):bF .quo (.int k a) (.int k b)=if b=0 then none else some (.int k (k.wrap (a.tdiv b))):=by simp[bF]
theorem GF(k:IntKind)(a b:Int):bF .rem (.int k a) (.int k b)=if b=0 then none else some (.int k (a.tmod b)):=by simp[bF]
theorem Gs(k:IntKind)(a b:Int):bF .and (.int k a) (.int k b)=some (.int k (k.wrap ((BitVec.ofInt k.bits a &&& BitVec.ofInt k.bits b).toNat:Int))):=by simp[bF]
theorem GC(k:IntKind)(a b:Int):bF .or (.int k a) (.int k b)=some (.int k (k.wrap ((BitVec.ofInt k.bits a ||| BitVec.ofInt k.bits b).toNat:Int))):=by simp[bF]
theorem GJ(k:IntKind)(a b:Int):bF .xor (.int k a) (.int k b)=some (.int k (k.wrap ((BitVec.ofInt k.bits a ^^^ BitVec.ofInt k.bits b).toNat:Int))):=by simp[bF]
theorem Gt(k:IntKind)(a b:Int):bF .andNot (.int k a) (.int k b)=some (.int k (k.wrap ((BitVec.ofInt k.bits a &&& ~~~ BitVec.ofInt k.bits b).toNat:Int))):=by simp[bF]
theorem GG(k k':IntKind)(a b:Int):bF .shl (.int k a) (.int k' b)=if 0≤b then some (.int k (k.wrap (a*2^(min b.toNat k.bits)))) else none:=by simp[bF]
theorem GH(k k':IntKind)(a b:Int):bF .shr (.int k a) (.int k' b)=if 0≤b then some (.int k (a.fdiv (2^(min b.toNat k.bits)))) else none:=by simp[bF]
theorem Gu(k:IntKind)(a b:Int):bF .eql (.int k a) (.int k b)=some (.bool (a==b)):=by simp[bF]
theorem GA(k:IntKind)(a b:Int):bF .neq (.int k a) (.int k b)=some (.bool (a != b)):=by simp[bF]
theorem Gy(k:IntKind)(a b:Int):bF .lss (.int k a) (.int k b)=some (.bool (decide (a<b))):=by simp[bF]
theorem Gx(k:IntKind)(a b:Int):bF .leq (.int k a) (.int k b)=some (.bool (decide (a≤b))):=by simp[bF]
theorem Gw(k:IntKind)(a b:Int):bF .gtr (.int k a) (.int k b)=some (.bool (decide (b<a))):=by simp[bF]
theorem Gv(k:IntKind)(a b:Int):bF .geq (.int k a) (.int k b)=some (.bool (decide (b≤a))):=by simp[bF]
theorem xm :
  (∀ ts os d v,(aw ts os).put d v=aw ((d,v)::ts) os)∧(∀ ts os d v,(aw ts os).aN (some d) v=aw ((d,v)::ts) os)∧(∀ (A:ab) v,A.aN none v=A) ∧
  (∀ ts os d x,(aw ts os).aQ d x=aw ts ((d,x)::os))∧(∀ ts os k,(aw ts os).t k=b8 ts k)∧(∀ ts os k,(aw ts os).o k=aD os k) ∧
  (∀ j v r k,b8 ((j,v)::r) k=if k=j then v else b8 r k)∧(∀ j v r k,aD ((j,v)::r) k=if k=j then some v else aD r k)∧(∀ k,aD [] k=none) ∧
  (∀ A k,af A (.t k)=A.t k)∧(∀ A x,af A (.c x)=x)∧(∀ d rest A v,cD d rest A v=ao rest (A.aN d v))∧(∀ v k,b6 (some v) k=k v)∧(∀ A,ao [] A=.done A) :=
 ⟨Br,Bt,VB,vn,VC,VA,cj,dX,Vr,LN,LM,UY,GK,FZ⟩
theorem BW :
  (∀ d rest A op,ao (⟨d,op,none⟩::rest) A=bn A d op rest)∧(∀ d rest A op t b,ao (⟨d,op,some (t,b)⟩::rest) A=fT (A.t t) b d op rest A) ∧
  (∀ d rest A op,fT (.bool true) true d op rest A=bn A d op rest)∧(∀ d rest A op,fT (.bool false) false d op rest A=bn A d op rest) ∧
  (∀ d rest A op,fT (.bool true) false d op rest A=ao rest (A.aN d .undef))∧(∀ d rest A op,fT (.bool false) true d op rest A=ao rest (A.aN d .undef))∧(∀ d rest A op b,fT .undef b d op rest A=ao rest (A.aN d .undef)) ∧
  (∀ d rest A x,bn A d (.mv x) rest=ao rest (A.aN d (af A x)))∧(∀ d rest A c a b,bn A d (.pick c a b) rest=pU A d a b rest (af A c)) ∧
  (∀ A d a b rest,pU A d a b rest (.bool true)=ao rest (A.aN d (af A a)))∧(∀ A d a b rest,pU A d a b rest (.bool false)=ao rest (A.aN d (af A b))) ∧
  (∀ d rest A op x y,bn A d (.bin op x y) rest=b6 (bF op (af A x) (af A y)) (cD d rest A)) ∧
  (∀ d rest A ty neg x y,bn A d (.eqv ty neg x y) rest=b6 ((bT ty (af A x) (af A y)).map fun b=>.bool (if neg then !b else b)) (cD d rest A)) ∧
  (∀ d rest A op x,bn A d (.un op x) rest=b6 (qp op (af A x)) (cD d rest A))∧(∀ b,qp .not (.bool b)=some (.bool !b))∧(∀ k n,qp .neg (.int k n)=some (.int k (k.wrap (0-n))))∧(∀ k n,qp .xor (.int k n)=some (.int k (nI k n))) ∧
  (∀ d rest A k x,bn A d (.conv k x) rest=b6 (uh k (af A x)) (cD d rest A))∧(∀ k k' n,uh k (.int k' n)=some (.int k (k.wrap n))) ∧
  (∀ d rest A s x,bn A d (.ld s x) rest=b6 (fy s (ft A (af A x))) (cD d rest A))∧(∀ d rest A f off x,bn A d (.fa f off x) rest=b6 (lN A f off (af A x)) (cD d rest A)) ∧
  (∀ d rest A f off s x,bn A d (.fl f off s x) rest=b6 (rn f off s (af A x).c7) (cD d rest A))∧(∀ d rest A n esz x i,bn A d (.ia n esz x i) rest=b6 (px A n esz (af A x) (af A i)) (cD d rest A)) ∧
  (∀ d rest A esz x i,bn A d (.is esz x i) rest=b6 (pB A esz (af A x) (af A i)) (cD d rest A))∧(∀ d rest A n esz s x i,bn A d (.ix n esz s x i) rest=b6 (pE n esz s (af A x) (af A i)) (cD d rest A)) ∧
  (∀ d rest A x,bn A d (.len x) rest=b6 (jF A (af A x)) (cD d rest A))∧(∀ d rest A n esz x,bn A d (.va n esz x) rest=b6 (nm A n esz (af A x)) (cD d rest A)) ∧
  (∀ d rest A zs ps,bn A d (.bld zs ps) rest=b6 ((fB zs (ps.map fun p=>(p.1,af A p.2))).map .agg) (cD d rest A))∧(∀ d rest A x i,bn A d (.ext x i) rest=b6 (uD i (af A x)) (cD d rest A))∧(∀ i fs,uD i (.tuple fs)=fs[i]?) ∧
  (∀ d rest A f caps,bn A d (.mk f caps) rest=b6 (if ((caps.map (af A)).all fun y=>y.cC)=true then some (.func f (caps.map (af A))) else none) (cD d rest A)) ∧
  (∀ rest A d z,bn A (some d) (.alloc z) rest=tI A d z rest (A.o d))∧(∀ A d z rest,tI A d z rest none=ao rest ((A.aQ d (.box z)).put d (.ptr d []))) ∧
  (∀ rest A d x,bn A (some d) (.box x) rest=qO A d (af A x) rest (A.o d))∧(∀ A d z rest,qO A d z rest none=qP A d z rest z.cC)∧(∀ A d z rest,qP A d z rest true=ao rest ((A.aQ d (.box z)).put d (.ptr d []))) ∧
  (∀ rest A s x v,bn A none (.aV s x v) rest=tc A s (af A v) rest (af A x))∧(∀ A s v rest n p,tc A s v rest (.ptr n p)=td A s n p v rest (A.o n))∧(∀ A s n p v rest b,td A s n p v rest (some (.box b))=ep A s n p b v rest (b.at p)) ∧
  (∀ d rest A f args,bn A d (.call f args) rest=.call f (args.map (af A)) (bE true A (args.map (af A))) (bE false A (args.map (af A))) d rest A) ∧
  (∀ d rest A x args,bn A d (.eY x args) rest=o8 A d (args.map (af A)) rest (af A x))∧(∀ A d args rest f caps,o8 A d args rest (.func f caps)=if f<1000000 then .call f (args++caps) (bE true A (args++caps)) (bE false A (args++caps)) d rest A else .call (j6 f) (caps++args) (bE true A (caps++args)) (bE false A (caps++args)) d rest A) :=
 ⟨FL,FM,TR,TO,TQ,TP,TS,We,Wi,fun _ _ _ _ _=>rfl,fun _ _ _ _ _=>rfl,VP,VZ,Wn,fun _=>rfl,fun _ _=>rfl,fun _ _=>rfl,VX,fun _ _ _=>rfl,V6,V1,V2,V3,V4,V5,V7,Wo,VQ,V0,fun _ _=>rfl,Wa,
  VM,fun _ _ _ _=>rfl,VR,fun _ _ _ _=>rfl,fun _ _ _ _=>rfl,Wm,fun _ _ _ _ _ _=>rfl,fun _ _ _ _ _ _ _=>rfl,VT,VU,fun A d args rest f caps=>by
   simp only[o8];split
   ·rename_i h;rw[uG h,uF h]
   ·rename_i h;simp only[gB,if_neg h]⟩
theorem fC{A:ab}{s:Option Nat}{n:Nat}{p:List Nat}{b v old:I}{rest:List au}(h1:v.cC=true)(h2:bU s v=true)(h3:v.aK=old.aK):ep A s n p b v rest (some old)=ao rest (A.aQ n (.box (b.dp p v))):=by
 simp only[ep];rw[if_pos ⟨h1,h2,h3⟩]
theorem ED :
  (∀ A x,ft A (.ref x)=some x)∧(∀ A n p,ft A (.ptr n p)=dE p (A.o n))∧(∀ p c,dE p (some (.box c))=c.at p)∧(∀ c:I,c.at []=some c)∧(∀ (c:I) i p,c.at (i::p)=kL i p c.c7) ∧
  (∀ i p fs,kL i p (some fs)=nB p fs[i]?)∧(∀ p f,nB p (some f)=f.at p)∧(∀ c v:I,c.dp [] v=v)∧(∀ (c:I) i p v,c.dp (i::p) v=oz c i p v c.c7)∧(∀ c i p v fs,oz c i p v (some fs)=qi fs i p v fs[i]?) ∧
  (∀ fs i p v f,qi fs i p v (some f)=.agg (fs.set i (f.dp p v)))∧(∀ fs,(I.agg fs).c7=some fs)∧(∀ x:I,en (some x)=x.c7) ∧
  (∀ s x,fy s (some x)=if bU s x=true then some x else none) ∧
  (∀ A f off c,lN A f off (.ref c)=rj f off c.c7)∧(∀ A f off n p,lN A f off (.ptr n p)=ph n p f off (en (dE p (A.o n))))∧(∀ f off fs,rj f off (some fs)=pg fs f off fs[f]?)∧(∀ fs f off v,pg fs f off (some v)=fL fs f off (.ref v)) ∧
  (∀ n p f off fs,ph n p f off (some fs)=fL fs f off (.ptr n (p++[f])))∧(∀ A n esz x kk k,px A n esz x (.int kk k)=my A n esz k x)∧(∀ A n esz k c,my A n esz k (.ref c)=im k n (nU n esz k c.c7)) ∧
  (∀ A n esz k m p,my A n esz k (.ptr m p)=im k n (py n esz m p k (en (dE p (A.o m)))))∧(∀ n esz k fs,nU n esz k (some fs)=iN n esz fs ((fs[k.toNat]?).map .ref))∧(∀ n esz m p k fs,py n esz m p k (some fs)=iN n esz fs (some (.ptr m (p++[k.toNat])))) ∧
  (∀ A esz x kk k,pB A esz x (.int kk k)=jf A esz k x)∧(∀ n esz s x kk k,pE n esz s x (.int kk k)=mB n esz s k x.c7)∧(∀ n esz s k fs,mB n esz s k (some fs)=im k n (iN n esz fs (fy s fs[k.toNat]?))) ∧
  (∀ A n esz m p,nm A n esz (.ptr m p)=qt n esz m p (en (dE p (A.o m))))∧(∀ n esz m p fs,qt n esz m p (some fs)=qq n esz fs (.view m p esz 0 n)) ∧
  (∀ A sz es,jF A (.slice sz es)=some (.int .i64 es.length))∧(∀ A n,jF A (.nils n)=some (.int .i64 0))∧(∀ A n,jF A (.c0 n)=some (.int .i64 0)) :=
 ⟨fun _ _=>rfl,fun _ _ _=>rfl,fun _ _=>rfl,qM,Gh,fun _ _ _=>rfl,fun _ _=>rfl,fA,wi,fun _ _ _ _ _=>rfl,fun _ _ _ _ _=>rfl,fun _=>rfl,fun _=>rfl,fun _ _=>rfl,fun _ _ _ _=>rfl,fun _ _ _ _ _=>rfl,fun _ _ _=>rfl,fun _ _ _ _=>rfl,
  fun _ _ _ _ _=>rfl,fun _ _ _ _ _ _=>rfl,fun _ _ _ _ _=>rfl,fun _ _ _ _ _ _=>rfl,fun _ _ _ _=>rfl,fun _ _ _ _ _ _=>rfl,fun _ _ _ _ _=>rfl,fun _ _ _ _ _ _=>rfl,fun _ _ _ _ _=>rfl,fun _ _ _ _ _=>rfl,fun _ _ _ _ _=>rfl,fun _ _ _=>rfl,fun _ _=>rfl,fun _ _=>rfl⟩
theorem zU :
  (∀ A n p,ba true A (.ptr n p)=nP true A (dE p (A.o n)))∧(∀ A x,nP true A (some x)=if x.bw=true then some (.ref x) else (fS A 9 x).map .ref)∧(∀ A n p sz lo k,ba true A (.view n p sz lo k)=j7 sz lo k (en (dE p (A.o n)))) ∧
  (∀ A n p,ba false A (.ptr n p)=none)∧(∀ A n p sz lo k,ba false A (.view n p sz lo k)=none)∧(∀ x,kT none x=none)∧(∀ x,kT x none=none) ∧
  (∀ aB A n k,ba aB A (.own n k)=kV k (A.o n))∧(∀ aB A fs,ba aB A (.agg fs)=(bE aB A fs).map .agg)∧(∀ aB A f fs,ba aB A (.func f fs)=if f<1000000 then (bE aB A fs).map (.func f) else some .any)∧(∀ aB A k n,ba aB A (.int k n)=some (.int k n))∧(∀ aB A b,ba aB A (.bool b)=some (.bool b)) ∧
  (∀ aB A s,ba aB A (.aj s)=some (.aj s))∧(∀ aB A n,ba aB A (.nils n)=some (.slice n []))∧(∀ aB A n es,ba aB A (.slice n es)=if I.b7 es=true then some (.slice n es) else none)∧(∀ aB A x,ba aB A (.ref x)=if x.bw=true then some (.ref x) else none) ∧
  (∀ aB A,bE aB A []=some [])∧(∀ aB A x xs,bE aB A (x::xs)=kT (ba aB A x) (bE aB A xs))∧(∀ x xs,kT (some x) (some xs)=some (x::xs)) ∧
  (∀ fs,(I.agg fs).bw=I.b7 fs)∧(∀ n fs,(I.slice n fs).bw=I.b7 fs)∧(∀ x,(I.ref x).bw=x.bw)∧(∀ k n,(I.int k n).bw=true)∧(∀ n,(I.bool n).bw=true)∧(∀ n,(I.aj n).bw=true)∧(∀ f fs,(I.func f fs).bw=I.b7 fs) ∧
  I.b7 []=true∧(∀ x xs,I.b7 (x::xs)=(x.bw&&I.b7 xs)) ∧
  (∀ rs r A,jO rs r .ret A=mT r (eh A rs))∧(∀ rs r A,jO rs r .normal A=mT r (eh A rs))∧(∀ r xs,mT r (some xs)=(jL xs=r))∧(∀ A,eh A []=some [])∧(∀ A t rs,eh A (.tmp t::rs)=kT (ba true A (A.t t)) (eh A rs)) ∧
  (∀ A a s rs,eh A (.cell a s::rs)=kT (qa s A (ft A (A.t a))) (eh A rs))∧(∀ s A x,qa s A (some x)=if bU s x=true then ba true A x else none)∧(∀ x,jL [x]=x)∧(∀ x y xs,jL (x::y::xs)=.tuple (x::y::xs)) :=
 ⟨uL,fun _ _=>rfl,uM,fun _ _ _=>rfl,fun _ _ _ _ _ _=>rfl,fun _=>rfl,fun x=>by cases x <;>rfl,L7,L1,L3,L4,L2,Ma,L6,L9,L8,Mc,Mb,fun _ _=>rfl,Ji,Jn,Jm,Jl,Jj,Jo,Jk,Jq,Jp,
  XF,XE,fun _ _=>rfl,Xw,Xx,Xv,fun _ _ _=>rfl,fun _=>rfl,fun _ _ _=>rfl⟩
theorem xH :
  (∀ k a b,bF .add (.int k a) (.int k b)=some (.int k (k.wrap (a+b))))∧(∀ k a b,bF .sub (.int k a) (.int k b)=some (.int k (k.wrap (a-b))))∧(∀ k a b,bF .mul (.int k a) (.int k b)=some (.int k (k.wrap (a*b)))) ∧
  (∀ k a b,bF .quo (.int k a) (.int k b)=if b=0 then none else some (.int k (k.wrap (a.tdiv b))))∧(∀ k a b,bF .rem (.int k a) (.int k b)=if b=0 then none else some (.int k (a.tmod b))) ∧
  (∀ k a b,bF .and (.int k a) (.int k b)=some (.int k (k.wrap ((BitVec.ofInt k.bits a &&& BitVec.ofInt k.bits b).toNat:Int))))∧(∀ k a b,bF .or (.int k a) (.int k b)=some (.int k (k.wrap ((BitVec.ofInt k.bits a ||| BitVec.ofInt k.bits b).toNat:Int)))) ∧
  (∀ k a b,bF .xor (.int k a) (.int k b)=some (.int k (k.wrap ((BitVec.ofInt k.bits a ^^^ BitVec.ofInt k.bits b).toNat:Int))))∧(∀ k a b,bF .andNot (.int k a) (.int k b)=some (.int k (k.wrap ((BitVec.ofInt k.bits a &&& ~~~ BitVec.ofInt k.bits b).toNat:Int)))) ∧
  (∀ k k' a b,bF .shl (.int k a) (.int k' b)=if 0≤b then some (.int k (k.wrap (a*2^(min b.toNat k.bits)))) else none)∧(∀ k k' a b,bF .shr (.int k a) (.int k' b)=if 0≤b then some (.int k (a.fdiv (2^(min b.toNat k.bits)))) else none) ∧
  (∀ k a b,bF .eql (.int k a) (.int k b)=some (.bool (a==b)))∧(∀ k a b,bF .neq (.int k a) (.int k b)=some (.bool (a != b)))∧(∀ k a b,bF .lss (.int k a) (.int k b)=some (.bool (decide (a<b))))∧(∀ k a b,bF .leq (.int k a) (.int k b)=some (.bool (decide (a≤b)))) ∧
  (∀ k a b,bF .gtr (.int k a) (.int k b)=some (.bool (decide (b<a))))∧(∀ k a b,bF .geq (.int k a) (.int k b)=some (.bool (decide (b≤a)))) :=
 ⟨Gr,GI,Gz,GD,GF,Gs,GC,GJ,Gt,GG,GH,Gu,GA,Gy,Gx,Gw,Gv⟩
end Go.Abs
namespace Go.Abs
open Go Go.RowKit
open Enc (enc)
section
variable {α:Type} [Enc α]
theorem Vj(A:ab)(l:List α):jF A (enc l)=some (.int .i64 l.length):=by simp[gR,jF]
theorem UJ{A:ab}(esz:Nat){k:Int}{l:List α}(h:0≤k∧k.toNat<l.length)(hs:Enc.sz α=esz):jf A esz k (enc l)=some (.ref (enc l[k.toNat])):=by
 simp only[gR,jf,hs,Z2,true_and];rw[if_pos ⟨h.1,by omega⟩];simp[h.2]
theorem fi{A:ab}(esz:Nat){k:Nat}{l:List α}(h:k<l.length)(hs:Enc.sz α=esz):jf A esz k (enc l)=some (.ref (enc l[k])):=by
 have:=UJ (A:=A) esz (k:=(k:Int)) (l:=l) ⟨by omega,by simpa using h⟩ hs;simpa using this
theorem ev.lt{α:Type}{n:Nat}(x:ev n α){k:Nat}(h:k<n):k<x.l.length:=by rw[x.h];exact h
theorem YC{n:Nat}(esz:Nat){k:Int}{x:ev n α}(h:0≤k∧k.toNat<n)(hs:Enc.sz α=esz):im k n (nU n esz k (some (x.l.map enc)))=some (.ref (enc (x.l[k.toNat]'(x.lt h.2)))):=by
 have hl:=x.lt h.2;simp only[im,nU,iN,uB n esz x.l x.h hs,if_true];rw[if_pos ⟨h.1,by omega⟩];simp[hl]
theorem rJ{n:Nat}(esz:Nat){k:Int}(x:ev n α){y:Option I}(h:0≤k∧k<n)(hs:Enc.sz α=esz):im k n (iN n esz (x.l.map enc) y)=y:=by
 simp only[im,iN,uB n esz x.l x.h hs,if_true];rw[if_pos h]
theorem TU{n k:Nat}(x:ev n α)(h:k<n):(x.l.map enc)[k]?=some (enc (x.l[k]'(x.lt h))):=by
 simp[x.lt h]
theorem UT{n:Nat}(esz:Nat){s:Option Nat}{k:Int}{x:ev n α}(h:0≤k∧k.toNat<n)(hs:Enc.sz α=esz):mB n esz s k (some (x.l.map enc))=fy s (some (enc (x.l[k.toNat]'(x.lt h.2)))):=by
 have hl:=x.lt h.2;simp only[mB,im,iN,uB n esz x.l x.h hs,if_true];rw[if_pos ⟨h.1,by omega⟩];simp[hl]
theorem Gg{n k:Nat}{p:List Nat}{x:ev n α}(h:k<n):kL k p (some (x.l.map enc))=(enc (x.l[k]'(x.lt h))).at p:=by
 have hl:=x.lt h;simp[kL,nB,hl]
theorem Wx(k:IntKind)(n:Int):fy none (some (.int k n))=some (.int k n):=by simp[fy,lW,bU,I.isAgg]
theorem Wv(b:Bool):fy none (some (.bool b))=some (.bool b):=by simp[fy,lW,bU,I.isAgg]
theorem Wy(z:Nat)(es:List I):fy none (some (.slice z es))=some (.slice z es):=by simp[fy,lW,bU,I.isAgg]
theorem Ww(f:FuncId)(es:List I):fy none (some (.func f es))=some (.func f es):=by simp[fy,lW,bU,I.isAgg]
end
mutual
/-- What every value in memory keeps to: whole numbers within their kind,slices no longer than a slice can be. -/
def I.wf:I→Prop
 | .agg fs=>I.gu fs
 | .int k n=>k.min≤n∧n≤k.max
 | .aj s=>s.size≤maxLen
 | .slice _ es=>es.length≤maxLen∧I.gu es
 | .ref c=>c.wf
 | .func _ caps=>I.gu caps
 | .iface _ v=>v.wf
 |_=>True
def I.gu:List I→Prop
 | []=>True
 |x::xs=>x.wf∧I.gu xs
end
mutual
theorem sL{w:World}{D:aJ}{E:aM} : ∀ (x:I) (cs:List Value),ae w D E x cs→x.wf
 | .agg fs,cs,h=>by simp only[ae,I.wf] at *;exact vR fs cs h
 | .int k n,cs,h=>by simp only[ae,I.wf] at *;exact h.2
 | .aj s,cs,h=>by simp only[ae,I.wf] at *;exact h.2
 | .slice sz es,cs,h=>by
  simp only[ae,I.wf] at *;obtain ⟨a,cap,_,h1,h2,h3,_⟩:=h;refine ⟨by omega,?_⟩;rcases h3 with rfl | ⟨b,off,cs',_,_,h4⟩
  ·simp[I.gu]
  ·exact vR es cs' h4
 | .ref c,cs,h=>by simp only[ae,I.wf] at *;obtain ⟨b,off,cs',_,_,h⟩:=h;exact sL c cs' h
 | .func f caps,cs,h=>by simp only[ae,I.wf] at *;obtain ⟨vs,_,h⟩:=h;exact ox caps vs h
 | .iface t v,cs,h=>by simp only[ae,I.wf] at *;obtain ⟨u,cs',_,_,h⟩:=h;exact sL v cs' h
 | .bool _,_,_ | .nilp,_,_ | .cZ,_,_ | .cL,_,_ | .any,_,_ | .raw _,_,_ | .nils _,_,_ | .c0 _,_,_ | .ptr _ _,_,_ | .own _ _,_,_ | .view _ _ _ _ _,_,_ | .mref _,_,_ | .cR _,_,_ | .cW _ _,_,_ | .undef,_,_ | .cU,_,_ | .tuple _,_,_=>by simp[I.wf]
theorem vR{w:World}{D:aJ}{E:aM} : ∀ (xs:List I) (cs:List Value),az w D E xs cs→I.gu xs
 | [],_,_=>by simp[I.gu]
 |x::xs,cs,h=>by
  simp only[az,I.gu] at *;obtain ⟨c1,c2,_,h1,h2⟩:=h;exact ⟨sL x c1 h1,vR xs c2 h2⟩
theorem ox{w:World}{D:aJ}{E:aM} : ∀ (xs:List I) (vs:List Value),ak w D E xs vs→I.gu xs
 | [],_,_=>by simp[I.gu]
 |x::xs,vs,h=>by
  simp only[ak,I.gu] at *;obtain ⟨v,rest,cs,_,_,h1,h2⟩:=h;exact ⟨sL x cs h1,ox xs rest h2⟩
end
theorem aR.wf{P:Program}{f:FuncId}{args:List I}{r:I}(hc:dM P f=true)(h:I.gu args→aR P f args r):aR P f args r :=
 ⟨hc,fun w D vs hl h1 h2=>(h (ox _ _ h2)).2 w D vs hl h1 h2⟩
theorem aR.bK{P:Program}{f:FuncId}{fn:Func}{x:bl}{rs:List bt}{args:List I}{r:I}(hf:P.funcs[f]?=some fn)(hcall:dM P f=true)(hc:(fn.body.bind (dL P fn.ntmps))=some x)
  (hrs:fP P fn.results.toList=some rs) (hn:args.length≤fn.ntmps) (h:I.gu args→∀ (w:World) (D:aJ) (E:aM),U ⟨P,w,D,fn.ntmps,bR E,E,fw,none,none⟩ x (jO rs r) (aw (bA 0 args) [])):aR P f args r :=
 aR.wf hcall fun hw=>aR.mk hf hcall hc hrs hn (h hw)
theorem iU{α:Type}[Enc α] :
  (∀ A (l:List α),jF A (enc l)=some (.int .i64 l.length))∧(∀ n (x:ev n α),(enc x).c7=some (x.l.map enc)) :=
 ⟨Vj,fun _ _=>rfl⟩
theorem jJ:(∀ k n,fy none (some (.int k n))=some (.int k n))∧(∀ b,fy none (some (.bool b))=some (.bool b))∧(∀ z es,fy none (some (.slice z es))=some (.slice z es))∧(∀ f es,fy none (some (.func f es))=some (.func f es)) :=
 ⟨Wx,Wv,Wy,Ww⟩
end Go.Abs
namespace Go.Abs
open Go Go.RowKit
open Enc (enc)
def od(neg:Bool):I→Option I
 | .nils _=>some (.bool (!neg))
 | .slice _ es=>if es.isEmpty then none else some (.bool neg)
 | .view _ _ _ _ _=>some (.bool neg)
 |_=>none
def lR:I→Option I
 | .aj s=>some (.int .i64 s.size)
 |_=>none
open Classical in
noncomputable def lA(n:Nat)(p:List Nat)(sz l0 k esz:Nat)(lo hi mx:Option I):Option (List I)→Option I
 |some fs=>if sz=esz then iB n p sz l0 k fs.length lo hi mx else none
 |none=>none
noncomputable def iA(A:ab)(esz:Nat)(lo hi mx:Option I):I→Option I
 | .slice sz es=>if sz=esz then hU sz es lo hi mx else none
 | .nils sz=>if sz=esz then hU sz [] lo hi mx else none
 | .c0 sz=>if sz=esz then hU sz [] lo hi mx else none
 | .view n p sz l0 k=>lA n p sz l0 k esz lo hi mx (en (dE p (A.o n)))
 |_=>none
open Classical in
noncomputable def gz(esz:Nat):Option (List I)→Option I
 |some es=>if (es.all fun e=>e.size==esz)=true∧I.b7 es=true then some (.slice esz es) else none
 |none=>none
open Classical in
noncomputable def oR(A:ab)(d:Option Nat)(e esz bytes n l T sz':Nat)(es:List I)(rest:List au):I→bV
 | .slice sz ys=>if vA e esz bytes l sz ys T sz' es then ao rest ((A.aQ n (.bJ e esz (es++ys))).aN d (.own n (es.length+ys.length))) else .fail
 |_=>.fail
open Classical in
noncomputable def tJ(A:ab)(d:Option Nat)(e esz bytes:Nat)(z:I)(n l T:Nat)(xs:List Int)(rest:List au):I→bV
 | .slice _ ys=>if vB e esz bytes l ys T xs z then ao rest ((A.aQ n (.dJ e (xs++pz ys))).aN d (.own n (xs.length+ys.length))) else .fail
 |_=>.fail
noncomputable def oQ(A:ab)(d:Option Nat)(e esz bytes:Nat)(z:I)(n l:Nat)(x:I)(rest:List au):Option ai→bV
 |some (.bJ T sz' es)=>oR A d e esz bytes n l T sz' es rest x
 |some (.dJ T xs)=>tJ A d e esz bytes z n l T xs rest x
 |_=>.fail
noncomputable def eN(A:ab)(d:Option Nat)(e esz bytes:Nat)(z x:I)(rest:List au):I→bV
 | .own n l=>oQ A d e esz bytes z n l x rest (A.o n)
 |s=>dV A d esz bytes z s (cP A esz s) (cP A esz x) (ao rest)
section
variable (d:Option Nat) (rest:List au) (A:ab)
noncomputable def oe(neg:Bool)(x:I):Bool→bV
 |true=>.any (fun m=>m<2) (fun m=>ao rest (A.aN d (.bool (m==0))))
 |false=>b6 (od neg x) (cD d rest A)
theorem Wg(neg:Bool)(x:ay):bn A d (.nilS neg x) rest=oe d rest A neg (af A x) (iT (af A x)):=by
 simp only[bn,aW,aU];cases iT (af A x)
 ·simp only[Z5,if_false,oe,od];cases af A x <;>rfl
 ·rfl
theorem V8(x:ay):bn A d (.lenT x) rest=b6 (lR (af A x)) (cD d rest A):=by
 simp only[bn,aW,aU];cases af A x <;>rfl
theorem Wl(esz:Nat)(x:ay)(lo hi mx:Option ay):bn A d (.sl esz x lo hi mx) rest=b6 (iA A esz (lo.map (af A)) (hi.map (af A)) (mx.map (af A)) (af A x)) (cD d rest A):=by
 simp only[bn,aW,aU];cases af A x <;>try rfl
 rename_i n p sz l0 k;simp only[iA,jy,ft];cases dE p (A.o n) with
 |none=>rfl
 |some c=>cases c <;>simp only[en,I.c7,lA] <;>(first | rfl | (split <;>rfl))
theorem VS(T esz:Nat)(ps:List ay):bn A d (.bs T esz ps) rest=b6 (gz esz (bE false A (ps.map (af A)))) (cD d rest A):=by
 simp only[bn,aW,aU];cases bE false A (ps.map (af A)) <;>simp only[gz] <;>rfl
theorem VN(e esz bytes:Nat)(z:I)(s x:ay):bn A d (.dD e esz bytes z s x) rest=eN A d e esz bytes z (af A x) rest (af A s):=by
 simp only[bn,aW];generalize af A s=s';generalize af A x=x';cases s' <;>simp only[eN]
 rename_i n l;cases x' <;>simp only <;>generalize A.o n=z <;>(cases z with
  |none=>rfl
  |some y=>cases y <;>simp only[oQ,oR,tJ])
end
theorem BX :
  (∀ d rest A neg x,bn A d (.nilS neg x) rest=oe d rest A neg (af A x) (iT (af A x)))∧(∀ d rest A neg x,oe d rest A neg x false=b6 (od neg x) (cD d rest A))∧(∀ z,iT (.nils z)=false)∧(∀ n p sz lo k,iT (.view n p sz lo k)=false)∧(∀ d rest A x,bn A d (.lenT x) rest=b6 (lR (af A x)) (cD d rest A)) ∧
  (∀ d rest A esz x lo hi mx,bn A d (.sl esz x lo hi mx) rest=b6 (iA A esz (lo.map (af A)) (hi.map (af A)) (mx.map (af A)) (af A x)) (cD d rest A)) ∧
  (∀ d rest A T esz ps,bn A d (.bs T esz ps) rest=b6 (gz esz (bE false A (ps.map (af A)))) (cD d rest A))∧(∀ d rest A e esz bytes z s x,bn A d (.dD e esz bytes z s x) rest=eN A d e esz bytes z (af A x) rest (af A s)) ∧
  (∀ A d e esz bytes z x rest n l,eN A d e esz bytes z x rest (.own n l)=oQ A d e esz bytes z n l x rest (A.o n))∧(∀ A d e esz bytes z n l x rest T sz es,oQ A d e esz bytes z n l x rest (some (.bJ T sz es))=oR A d e esz bytes n l T sz es rest x)∧(∀ A d e esz bytes z n l x rest T xs,oQ A d e esz bytes z n l x rest (some (.dJ T xs))=tJ A d e esz bytes z n l T xs rest x) ∧
  (∀ neg z,od neg (.nils z)=some (.bool (!neg))) :=
 ⟨Wg,fun _ _ _ _ _=>rfl,fun _=>rfl,fun _ _ _ _ _=>rfl,V8,Wl,VS,VN,fun _ _ _ _ _ _ _ _ _ _=>rfl,fun _ _ _ _ _ _ _ _ _ _ _ _ _=>rfl,fun _ _ _ _ _ _ _ _ _ _ _ _=>rfl,fun _ _=>rfl⟩
theorem YE(p:Nat→Bool)(xs ys:List I):I.cJ p (xs++ys)=(I.cJ p xs&&I.cJ p ys):=by
 induction xs with
 |nil=>simp[I.cJ]
 |cons x xs ih=>simp[I.cJ,ih,Bool.and_assoc]
section
variable {α:Type} [Enc α]
theorem F6{A:ab}{d:Option Nat}(e:Nat)(esz bytes n:Nat){l:Nat}{es ys:List α}{rest:List au}(hl:l=es.length)(hs:Enc.sz α=esz)(hy:ys≠[])(h1:es.length+ys.length≤maxLen)(h2:(es.length+ys.length)*bytes≤140737488355328) :
  oR A d e esz bytes n l e esz (es.map enc) rest (enc ys)=ao rest ((A.aQ n (.bJ e esz ((es++ys).map enc))).aN d (.own n (es++ys).length)):=by
 simp only[gR,oR];rw[if_pos ⟨by simpa using hl,hs,rfl,rfl,by simpa using hy,by simpa using h1,by simpa using h2⟩];simp
theorem xM(esz:Nat){ys:List α}(hs:Enc.sz α=esz):gz esz (some (ys.map enc))=some (enc ys):=by
 have h1:((ys.map enc).all fun e:I=>e.size==esz)=true:=by
  simp only[zz6,zz3];rintro x ⟨y,_,rfl⟩;simp[Enc.size,hs]
 simp only[gz,gR];rw[if_pos ⟨h1,pb ys⟩,hs]
theorem oZ(esz:Nat)(y:α)(hs:Enc.sz α=esz):gz esz (some [enc y])=some (enc [y]):=xM (ys:=[y]) esz hs
theorem rl(sz:Nat){T k:Nat}{es:List α}(hk:k=es.length)(hs:Enc.sz α=sz):kV k (some (.bJ T sz (es.map enc)))=some (enc es):=by
 simp only[kV,Z2];rw[if_pos ⟨hk,pb es⟩,gR,hs]
theorem sA(p:Nat→Bool)(l:List α):I.cJ p (l.map enc)=true:=by
 induction l with
 |nil=>rfl
 |cons x l ih=>simp only[Z3,I.cJ,bI,ih,Bool.and_self]
end
theorem AU :
  (∀ n:Int,gz 1 (some [.int .i64 n])=some (enc [n]))∧(∀ (T:Nat) (es:List Int),kV es.length (some (.bJ T 1 (es.map enc)))=some (enc es)) :=
 ⟨fun n=>oZ 1 n rfl,fun _ _=>rl 1 rfl rfl⟩
def ev.g{n:Nat}(x:ev n Int)(k:Nat):Int:=x.l.getD k 0
theorem ev.uX{n k:Nat}(x:ev n Int)(h:k<n):x.l[k]'(x.lt h)=x.g k:=by simp[ev.g,x.lt h]
theorem jX{n k:Nat}{p:List Nat}(x:ev n Int)(h:k<n):kL k p (some (x.l.map enc))=(I.int .i64 (x.g k)).at p:=by
 rw[Gg h,x.uX h];rfl
theorem AB{n k:Nat}(x:ev n Int)(h:k<n):(x.l.map (enc (α:=Int)))[k]?=some (I.int .i64 (x.g k)):=by
 rw[TU x h,x.uX h];rfl
theorem BN:(∀ k n,bU none (.int k n)=true)∧(∀ b,bU none (.bool b)=true)∧(∀ z es,bU none (.slice z es)=true)∧(∀ f es,bU none (.func f es)=true)∧(∀ z,bU none (.nils z)=true)∧(∀ n k,bU none (.own n k)=true) :=
 ⟨fun _ _=>rfl,fun _=>rfl,fun _ _=>rfl,fun _ _=>rfl,fun _=>rfl,fun _ _=>rfl⟩
theorem aZ:(type_of% @xm)∧(type_of% @BW)∧(type_of% @BX)∧(type_of% @AU)∧(type_of% @BN)∧(type_of% @ED)∧(type_of% @zU)∧(type_of% @xH)∧(∀ n:Int,(enc n:I)=.int .i64 n)∧(∀ n:Bool,(enc n:I)=.bool n) ∧
  (∀ {α β:Type} (f:α→β) (x:α) (xs:List α),List.map f (x::xs)=f x::List.map f xs)∧(∀ {α β:Type} (f:α→β),List.map f []=[])∧(∀ {α:Type} (xs:List α),[]++xs=xs)∧(∀ n:Nat,(n:Int).toNat=n)∧(∀ {α β:Type} (f:α→β) (x:α),Option.map f (some x)=some (f x)) ∧
  (∀ n:Nat,0≤(n:Int))∧((!true)=false)∧((!false)=true)∧((false=true)=False)∧((true=false)=False) :=
 ⟨@xm,@BW,@BX,@AU,@BN,@ED,@zU,@xH,uu,LA,fun _ _ _=>rfl,fun _=>rfl,fun _=>rfl,fun _=>rfl,fun _ _=>rfl,fun n=>Int.natCast_nonneg n,rfl,rfl,by simp,by simp⟩
end Go.Abs
namespace Go.Abs
open Go Go.RowKit
open Enc (enc)
theorem iV.bK{P:Program}{f:FuncId}{fn:Func}{x:bl}{rs:List bt}{Y:Value→List I→List (Nat×ai)→bX→Prop}{args:List I}{os:List (Nat×ai)}{post:bX}(hf:P.funcs[f]?=some fn)(hcall:dM P f=true)(hc:(fn.body.bind (dL P fn.ntmps))=some x)
  (hrs:fP P fn.results.toList=some rs) (hn:args.length≤fn.ntmps) (hn2:fn.ntmps≤1000000) (hos:∀ m,aI os m=true→1000000≤m) (h:I.gu args→∀ (w:World) (D:aJ) (E:aM),U ⟨P,w,D,fn.ntmps,bR E,E,Y,none,none⟩ x (mS rs post) (aw (bA 0 args) os)):iV P f Y args os post:=by
 obtain ⟨body,hb,hc'⟩:=zy5.1 hc;refine ⟨hcall,fun w D E vs hy hD ho hv =>?_⟩;exact (iV.sq hf hb hcall hc' hrs hn (fun m hm=>⟨Nat.le_trans hn2 (hos m hm),hos m hm⟩) (fun w D E=>(h (ox _ _ hv) w D E).sub (te args os))).2 w D E vs hy hD ho hv
theorem eL.bK{P:Program}{f:FuncId}{fn:Func}{x:bl}{rs:List bt}{args:List I}{os:List (Nat×ai)}{post:bX}(hf:P.funcs[f]?=some fn)(hcall:dM P f=true)(hc:(fn.body.bind (dL P fn.ntmps))=some x)
  (hrs:fP P fn.results.toList=some rs) (hn:args.length≤fn.ntmps) (hn2:fn.ntmps≤1000000) (hos:∀ m,aI os m=true→1000000≤m) (h:I.gu args→∀ (w:World) (D:aJ) (E:aM),U ⟨P,w,D,fn.ntmps,bR E,E,fw,none,none⟩ x (mS rs post) (aw (bA 0 args) os)):eL P f args os post :=
 eL.BD (iV.bK hf hcall hc hrs hn hn2 hos h)
theorem u3{A:ab} : ∀ n x,aD [] n=some x→A.o n=some x∧x.only (aI [])=true∧x.ed=true:=fun n x h=>by simp[aD] at h
theorem nT{A:ab}{k:Nat}{c:I}(h1:A.o k=some (.box c))(h2:∀ p,c.only p=true):∀ n x,aD [(k,.box c)] n=some x→A.o n=some x∧x.only (aI [(k,.box c)])=true∧x.ed=true:=fun n x h=>by
 simp only[aD] at h;split at h
 ·rename_i hn;subst hn;simp only[v6] at h;subst h;exact ⟨h1,h2 _,rfl⟩
 ·cases h
theorem dv.nil{aB:Bool}{ρ:List (Nat×Nat)}{os0:List (Nat×ai)}{r:I}(h1:∀ p,r.only p=true)(h2:aB=true→r.cV=true):dv aB ρ [] os0 r [] :=
 ⟨fun m x h=>by simp[aD] at h,fun m m' h=>by simp[aI,aD] at h,fun m h=>by simp[aI,aD] at h,fun m h=>by simp[aI,aD] at h,h1 _,h2⟩
theorem fI{k:Nat}{x:ai}{m:Nat} : aI [(k,x)] m=true↔m=k:=by
 simp only[aI,aD];split <;>simp_all
theorem dv.sh{aB:Bool}{k d:Nat}{os0:List (Nat×ai)}{r c:I}(h1:∀ p,c.only p=true)(h2:aB=true→c.cV=true)(h3:r.only (aI [(k,.box c)])=true)(h4:aB=true→r.cV=true)(h5:aD os0 d=none)(h6:d<1000000):dv aB [(k,d)] [] os0 r [(k,.box c)]:=by
 refine ⟨fun m x h =>?_,fun m m' h h' _ =>?_,fun m h=>by simp[aI,aD] at h,fun m h _ =>?_,h3,h4⟩
 ·simp only[aD] at h;split at h
  ·simp only[v6] at h;subst h;exact ⟨h1 _,rfl,h2⟩
  ·cases h
 ·rw[fI.1 h,fI.1 h']
 ·rw[fI.1 h];simp[bq,h5,h6]
theorem eM.nil{ρ:List (Nat×Nat)}{os0:List (Nat×ai)} : eM ρ [] os0:=⟨fun m x h=>by simp[aD] at h,fun m m' h=>by simp[aI,aD] at h⟩
mutual
theorem pZ(ρ:Nat→Nat):∀ x:I,x.bw=true→x.aS ρ=x
 | .agg fs,h=>by simp only[I.aS,I.bw] at *;rw[mR ρ fs h]
 | .slice _ es,h=>by simp only[I.aS,I.bw] at *;rw[mR ρ es h]
 | .ref x,h=>by simp only[I.aS,I.bw] at *;rw[pZ ρ x h]
 | .func _ caps,h=>by simp only[I.aS,I.bw] at *;rw[mR ρ caps h]
 | .iface _ v,h=>by simp only[I.aS,I.bw] at *;rw[pZ ρ v h]
 | .bool _,_ | .int _ _,_ | .aj _,_ | .nilp,_ | .cZ,_ | .cL,_ | .any,_ | .raw _,_ | .nils _,_ | .c0 _,_=>by simp only[I.aS]
 | .cW ks vs,h=>by simp only[I.aS,I.bw,Z0] at *;rw[mR ρ ks h.1,mR ρ vs h.2]
 | .ptr _ _,h | .own _ _,h | .view _ _ _ _ _,h | .mref _,h | .cR _,h | .undef,h | .cU,h | .tuple _,h=>by simp[I.bw] at h
theorem mR(ρ:Nat→Nat):∀ xs:List I,I.b7 xs=true→I.cT ρ xs=xs
 | [],_=>rfl
 |x::xs,h=>by
  simp only[I.b7,Z0] at h;simp only[I.cT,pZ ρ x h.1,mR ρ xs h.2]
end
theorem kq :
  (∀ (k:IntKind) n (ρ:Nat→Nat),(I.int k n).aS ρ=.int k n)∧(∀ (b:Bool) (ρ:Nat→Nat),(I.bool b).aS ρ=.bool b)∧(∀ n p (ρ:Nat→Nat),(I.ptr n p).aS ρ=.ptr (ρ n) p) ∧
  (∀ n p sz lo k (ρ:Nat→Nat),(I.view n p sz lo k).aS ρ=.view (ρ n) p sz lo k)∧(∀ fs (ρ:Nat→Nat),(I.agg fs).aS ρ=.agg (I.cT ρ fs))∧(∀ fs (ρ:Nat→Nat),(I.tuple fs).aS ρ=.tuple (I.cT ρ fs))∧(∀ f fs (ρ:Nat→Nat),(I.func f fs).aS ρ=.func f (I.cT ρ fs)) ∧
  (∀ ρ:Nat→Nat,I.cT ρ []=[])∧(∀ (ρ:Nat→Nat) x xs,I.cT ρ (x::xs)=x.aS ρ::I.cT ρ xs)∧(∀ (ρ:Nat→Nat) (x:I),(ai.box x).aS ρ=.box (x.aS ρ)) ∧
  (∀ (z:Nat) (ρ:Nat→Nat),(I.nils z).aS ρ=.nils z)∧(∀ (z:Nat) (ρ:Nat→Nat),(I.c0 z).aS ρ=.c0 z) ∧
  (∀ n,bq [] n=n)∧(∀ a b r n,bq ((a,b)::r) n=if n=a then b else bq r n)∧(∀ ρ,cX ρ []=[])∧(∀ ρ k x os,cX ρ ((k,x)::os)=(bq ρ k,x.aS (bq ρ))::cX ρ os) :=
 ⟨fun _ _ _=>by simp only[I.aS],fun _ _=>by simp only[I.aS],fun _ _ _=>by simp only[I.aS],fun _ _ _ _ _ _=>by simp only[I.aS],fun _ _=>by simp only[I.aS],fun _ _=>by simp only[I.aS],fun _ _ _=>by simp only[I.aS],
  fun _=>rfl,fun _ _ _=>by simp only[I.cT],fun _ _=>rfl,fun _ _=>by simp only[I.aS],fun _ _=>by simp only[I.aS],fun _=>rfl,fun _ _ _ _=>rfl,fun _=>rfl,fun _ _ _ _=>rfl⟩
section
variable {α:Type} [Enc α]
theorem il(ρ:Nat→Nat)(x:α):(enc x).aS ρ=enc x:=pZ ρ _ (j4 x)
theorem kr(ρ:Nat→Nat)(l:List α):I.cT ρ (l.map enc)=l.map enc:=mR ρ _ (pb l)
theorem kD(A:ab)(esz:Nat)(l:List α)(hs:Enc.sz α=esz):cP A esz (enc l)=some (l.map enc):=by
 simp only[gR,cP,hs,if_true]
theorem th(l:List α):iT (enc l)=l.isEmpty:=by
 simp only[gR,iT];cases l <;>rfl
theorem Bw(neg:Bool)(l:List α)(h:l≠[]):od neg (enc l)=some (.bool neg):=by
 simp only[gR,od];cases l with
 |nil=>exact absurd rfl h
 |cons=>rfl
section
variable {P:Program} {Y:Value→List I→List (Nat×ai)→bX→Prop} {K:ab→Prop} {A:ab} {rest:List au} {d:Nat} {e esz bytes:Nat} {q:Nat}
theorem aX.tK(z:α){l:List α}(hs:Enc.sz α=esz)(hl:l≠[])(hf:A.o d=none)(hb:l.length*bytes≤140737488355328)(hml:l.length≤maxLen)
  (h:∀ m,aX P Y false K (ao rest ((A.aQ d (.box (.agg ((l++List.replicate m z).map enc)))).aN (some d) (.view d [] esz 0 l.length)))):aX P Y false K (eN A (some d) e esz bytes (enc z) (enc l) rest (.c0 q)):=by
 have hne:l.map (enc (α:=α))≠[]:=by simpa using hl
 have h1:cP A esz (.c0 q)=some []:=rfl;simp only[eN,h1,kD A esz l hs,dV,if_neg hne,eS,hf,zz8,Z4,Z2,if_pos (y6 hb hml),Y6];refine .any rfl fun m _ =>?_;have:=h m;simp only[zz9,List.map_replicate] at this;exact this
theorem F9(z:I)(hs:Enc.sz α=esz):eN A (some d) e esz bytes z (enc ([]:List α)) rest (.c0 q)=ao rest (A.aN (some d) (.c0 q)):=by
 have h1:cP A esz (.c0 q)=some []:=rfl;simp only[eN,h1,kD A esz ([]:List α) hs,dV,zz0,if_true]
theorem VW(esz:Nat)(z:I)(x:ay)(rest:List au)(A:ab):bn A none (.jb esz z x) rest=nG A esz z (ao rest) (af A x):=rfl
theorem D8{n:Nat}{p:List Nat}{sz k total i:Nat}(h:i≤total)(h0:0<total):iB n p sz 0 k total none (some (.int .i64 i)) none=some (.view n p sz 0 i):=by
 simp only[iB,gy];rw[if_pos ⟨by omega,by omega,by omega⟩,if_neg (by omega)];simp
theorem mb{n:Nat}{p:List Nat}{sz k total i:Nat}(h:i≤k)(hk:k≤total)(h0:i<total):iB n p sz 0 k total (some (.int .i64 i)) none none=some (.view n p sz i (k-i)):=by
 simp only[iB,gy];rw[if_pos ⟨by omega,by omega,by omega⟩,if_neg (by omega)];simp
theorem UN{m:Nat}{p:List Nat}{sz lo l j:Nat}{fs:List I}(h:j<l):mA m p sz lo l sz (j:Int) (some fs)=some (.ptr m (p++[lo+j])):=by
 simp only[mA,true_and];rw[if_pos ⟨by omega,by omega⟩];simp
theorem pj{sz k:Nat}{xs:List α}(hs:Enc.sz α=sz):j7 sz 0 k (some (xs.map enc))=some (enc (xs.take k)):=by
 have h:((xs.map (enc (α:=α))).drop 0).take k=(xs.take k).map enc:=by rw[List.drop_zero,List.map_take]
 simp only[j7,h];rw[if_pos (pb _),gR,hs]
end
end
theorem u6(A:ab)(esz m:Nat)(p:List Nat)(sz lo l:Nat)(k:Int):jf A esz k (.view m p sz lo l)=mA m p sz lo l esz k (en (dE p (A.o m))):=rfl
theorem pH(A:ab)(m:Nat)(p:List Nat)(sz lo l:Nat):jF A (.view m p sz lo l)=some (.int .i64 l):=rfl
theorem wu(A:ab)(esz:Nat)(lo hi mx:Option I)(n:Nat)(p:List Nat)(l0 k:Nat):iA A esz lo hi mx (.view n p esz l0 k)=lA n p esz l0 k esz lo hi mx (en (dE p (A.o n))):=rfl
theorem wv(n:Nat)(p:List Nat)(sz l0 k:Nat)(lo hi mx:Option I)(fs:List I):lA n p sz l0 k sz lo hi mx (some fs)=iB n p sz l0 k fs.length lo hi mx:=by simp[lA]
theorem gr :
  (∀ A esz m p sz lo l k,jf A esz k (.view m p sz lo l)=mA m p sz lo l esz k (en (dE p (A.o m))))∧(∀ A m p sz lo l,jF A (.view m p sz lo l)=some (.int .i64 l)) ∧
  (∀ A esz lo hi mx n p l0 k,iA A esz lo hi mx (.view n p esz l0 k)=lA n p esz l0 k esz lo hi mx (en (dE p (A.o n))))∧(∀ n p sz l0 k lo hi mx fs,lA n p sz l0 k sz lo hi mx (some fs)=iB n p sz l0 k fs.length lo hi mx) ∧
  (∀ esz z x rest A,bn A none (.jb esz z x) rest=nG A esz z (ao rest) (af A x))∧(∀ rest A d esz,bn A d (.bs0 esz) rest=ao rest (A.aN d (.c0 esz))) :=
 ⟨u6,pH,wu,wv,VW,fun _ _ _ _=>rfl⟩
theorem jN(rs:List bt)(post:bX)(A:ab):mS rs post .ret A=iF rs post A:=rfl
theorem XC(rs:List bt)(post:bX)(A:ab):mS rs post .normal A=iF rs post A:=rfl
theorem bC.jz{ts:List (Nat×I)}{os0:List (Nat×ai)}(ns:List Nat)(d:Nat){x y:I}(hd:b8 ts d=x)(h:ba true (aw ts (kb ns os0)) x=some y)(ho:bW (fun n => !ns.contains n) (dO ns os0)) :
  bC (aw ts os0) (aw ((d,y)::je ns ts) (dO ns os0)):=by
 rintro c a w ⟨D,E,hs⟩;obtain ⟨D1,E1,hs1,hw⟩:=hs.freeze ns ho;have hu:dj (aw ts (kb ns os0)) (aw ts os0):=fun n z hz=>by
  simp only[aw,pL] at hz ⊢;split at hz
  ·exact hz
  ·cases hz
 have hx:x.cC=true:=by cases x <;>first | rfl | simp[ba] at h
 have hv:=hs.dB d;simp only[aw] at hv;rw[hd] at hv;have h1:ak w D E [x] [a.tmps.getD d undef]:=kC [x] _ (.cons hv .nil) (by intro z hz;simp only[zy2] at hz;subst hz;exact hx);have h2:=kW (E':=E1) hs hu hw [x] [y] _ h1 (by simp only[bE,h]);have h3:aP w D1 E1 y (a.tmps.getD d undef):=by
  simp only[ak] at h2;obtain ⟨v',rest,cs,e,k1,k2,_⟩:=h2;simp only[Y7] at e;obtain ⟨e1,_⟩:=e;rw[e1];exact fm k1 k2
 refine ⟨D1,E1,hs1.sz,hs1.ec,fun t =>?_,hs1.de,hs1.cI,hs1.cK,hs1.bx,hs1.cu,hs1.dx,hs1.eJ,hs1.cw,hs1.eQ,hs1.fq⟩;simp only[aw,b8];split
 ·rename_i ht;subst ht;exact h3
 ·exact hs1.dB t
theorem bC.rp{ts ts':List (Nat×I)}{os0 os':List (Nat×ai)}(ns:List Nat)(d:Nat){x y:I}(hd:b8 ts d=x)(h:ba true (aw ts (kb ns os0)) x=some y)(ho:bW (fun n => !ns.contains n) (dO ns os0))
  (h1:cm ((d,y)::je ns ts) ts') (h2:cv (dO ns os0) os') (h3:ct (aI os') ts') (h4:bW (aI os') os'):bC (aw ts os0) (aw ts' os') :=
 (bC.jz ns d hd h ho).trans (bC.cO h1 h2 h3 h4)
theorem Xg{w:World}{D:aJ}{E:aM}{p:List Nat}{c x y:I}{cs:List Value}(hr:ae w D E c cs)(h:c.at p=some x)(hxy:∀ ds,ae w D E x ds→ae w D E y ds)(hs:y.aK=x.aK):ae w D E (c.dp p y) cs∧(c.dp p y).aK=c.aK:=by
 obtain ⟨off,c1,c2,c3,h1,rfl,h2,h3⟩:=vQ p c x cs hr h;obtain ⟨off',k1,k2,k3,k4⟩:=sK p c x y _ c2 hr h (hxy c2 h3) hs;rw[h1,v6] at k1;subst k1;refine ⟨?_,k4⟩;have e:(c1++c2++c3).take off++c2++(c1++c2++c3).drop (off+c2.length)=c1++c2++c3:=by
  rw[Z8 c1 c2 c3,←h2,List.take_left,List.drop_length_add_append,List.drop_left,Z8]
 rw[←e];exact k3
theorem bC.FT{A:ab}{m n T sz z:Nat}{p:List Nat}{b:I}(hm:A.o m=some (.box b))(hp:b.at p=some (.nils z))(hn:A.o n=none)(hlt:n<1000000):bC A ((A.aQ n (.bJ T sz [])).aQ m (.box (b.dp p (.own n 0)))):=by
 rintro c a w ⟨D,E,h⟩;have aq:E n=none:=by have:=h.bx n;rw[hn] at this;exact this
 have hmn:m≠n:=fun e=>by rw[e,hn] at hm;cases hm
 have hl:df w D E w D (fun m=>if m=n then some (.rw none 0) else E m):=by
  have eV:∀ {m:Nat} {e:bu},E m=some e→(if m=n then some (.rw none 0) else E m)=some e:=fun {m e} he=>by
   have:m≠n:=fun e=>by rw[e,aq] at he;cases he
   rw[if_neg this];exact he
  refine ⟨fun _ _ h=>h,fun _ _ _ _ h=>h,fun m b aK he=>eV he,fun m aA l he =>?_,fun m b he=>eV he,fun m b he=>eV he,fun _ _ _ _ h=>h⟩
  ·have:m≠n:=fun e=>by rw[e,aq] at he;cases he
   exact ⟨aA,l,by simp only[if_neg this];exact he,Z7 _,fun _=>rfl⟩
 refine ⟨D,fun m=>if m=n then some (.rw none 0) else E m,h.sz,h.ec,fun t=>aP.later hl (h.dB t),h.de,h.cI,h.cK,fun k =>?_,fun m m' e e' b h1 h2 h3 h4 =>?_,fun m e hm =>?_,h.eJ,h.cw,h.eQ,h.fq⟩
 ·simp only[ab.aQ];by_cases hk:k=m
  ·subst hk;have ho:=h.bx k;rw[hm] at ho;obtain ⟨b',cs,T',h1,h2,h3,h4,h5⟩:=ho;obtain ⟨q1,q2⟩:=Xg (y:=.own n 0) (ae.later hl _ _ h4) hp (fun ds hd=>by
    simp only[ae] at hd;subst hd;simp only[ae,if_true];exact ⟨none,0,rfl,Z7 _,⟨_,_,_,rfl⟩,fun _=>trivial⟩) rfl
   simp only[if_true,cS];exact ⟨b',cs,T',by rw[q2];simp only[if_neg hmn];exact h1,h2,h3.aK q2,q1,h5⟩
  ·simp only[if_neg hk];by_cases hkn:k=n
   ·subst hkn;simp only[if_true,cS];exact ⟨none,by simp,by simp,trivial⟩
   ·simp only[if_neg hkn];exact (h.bx k).later hl (by simp only[if_neg hkn]) fun _ _ _ _=>⟨rfl,fun _ ho=>ho⟩
 ·by_cases hm:m=n <;>by_cases hm':m'=n
  ·rw[hm,hm']
  ·simp only[if_pos hm,v6] at h1;subst h1;simp[bu.aA] at h3
  ·simp only[if_pos hm',v6] at h2;subst h2;simp[bu.aA] at h4
  ·simp only[if_neg hm] at h1;simp only[if_neg hm'] at h2;exact h.cu m m' e e' b h1 h2 h3 h4
 ·have hmn:m≠n:=fun e=>by rw[e,h.jA (.inr hlt)] at hm;cases hm
  simp only[if_neg hmn];exact h.dx m e hm
theorem bC.FU{ts:List (Nat×I)}{os:List (Nat×ai)}(m n T sz z:Nat)(p:List Nat)(b:I)(hm:aD os m=some (.box b))(hp:b.at p=some (.nils z))(hn:aD os n=none){B:ab}(h:bC (aw ts ((m,.box (b.dp p (.own n 0)))::(n,.bJ T sz [])::os)) B)(hlt:n<1000000:=by decide):bC (aw ts os) B :=
 ((bC.FT (A:=aw ts os) (T:=T) (sz:=sz) hm hp hn hlt).trans (by rw[vn,vn];exact bC.refl _)).trans h
mutual
theorem jm{p q:Nat→Bool}(h:∀ n,p n=true→q n=true):∀ x:I,x.only p=true→x.only q=true
 | .agg fs,hx | .tuple fs,hx=>by simp only[I.only] at *;exact jK h fs hx
 | .slice _ es,hx=>by simp only[I.only] at *;exact jK h es hx
 | .ref x,hx=>by simp only[I.only] at *;exact jm h x hx
 | .func _ caps,hx=>by simp only[I.only] at *;exact jK h caps hx
 | .iface _ v,hx=>by simp only[I.only] at *;exact jm h v hx
 | .ptr _ _,hx | .own _ _,hx | .view _ _ _ _ _,hx | .mref _,hx | .cR _,hx=>by simp only[I.only] at *;exact h _ hx
 | .cW ks vs,hx=>by simp only[I.only,Z0] at *;exact ⟨jK h ks hx.1,jK h vs hx.2⟩
 | .bool _,_ | .int _ _,_ | .aj _,_ | .nilp,_ | .cZ,_ | .cL,_ | .any,_ | .raw _,_ | .nils _,_ | .c0 _,_ | .undef,_ | .cU,_=>by simp[I.only]
theorem jK{p q:Nat→Bool}(h:∀ n,p n=true→q n=true):∀ xs:List I,I.cJ p xs=true→I.cJ q xs=true
 | [],_=>rfl
 |x::xs,hx=>by
  simp only[I.cJ,Z0] at *;exact ⟨jm h x hx.1,jK h xs hx.2⟩
end
theorem ai.jm{p q:Nat→Bool}(h:∀ n,p n=true→q n=true)(x:ai)(hx:x.only p=true):x.only q=true:=by
 cases x with
 |box y=>simp only[ai.only] at *;exact Abs.jm h y hx
 |bJ T sz es=>simp only[ai.only] at *;exact jK h es hx
 |c6 o=>rfl
 |dJ T xs=>rfl
 |bZ ks vs=>simp only[ai.only,Z0] at *;exact ⟨jK h ks hx.1,jK h vs hx.2⟩
 |it ks vs left cur=>simp only[ai.only,Z0] at *;exact ⟨jK h ks hx.1,jK h vs hx.2⟩
theorem UP{x:I}(h:x.bw=true):x.cC=true:=by
 cases x <;>first | rfl | simp[I.bw] at h
theorem xw{aB:Bool}{A0:ab}{ρ:List (Nat×Nat)}{os:List (Nat×ai)} : ∀ xs:List I,I.b7 xs=true→fO aB A0 ρ os xs xs
 | [],_=>trivial
 |x::xs,h=>by
  simp only[I.b7,Z0] at h;exact ⟨.inl ⟨(pZ _ x h.1).symm,lX _ x h.1,UP h.1⟩,xw xs h.2⟩
structure ff (os os':List (Nat×ai)):Prop where
 same:∀ m,aI os' m=aI os m
 ok:∀ m x,aD os' m=some x→x.only (aI os')=true∧x.ed=true
 lP:∀ m,aI os m=true→1000000≤m
def bO(o:Obj)(os:List (Nat×ai)):List (Nat×ai):=(1999999,.c6 o)::os
theorem jE(o:Obj)(os:List (Nat×ai))(m:Nat):aI (bO o os) m=(decide (m=1999999)||aI os m):=by
 simp only[bO,aI,aD];by_cases h:m=1999999 <;>simp[h]
theorem oa(o:Obj)(os:List (Nat×ai))(m:Nat):aD (bO o os) m=if m=1999999 then some (.c6 o) else aD os m:=rfl
theorem ff.bO{os os':List (Nat×ai)}(h:ff os os')(o o':Obj):ff (bO o os) (bO o' os'):=by
 refine ⟨fun m=>by rw[jE,jE,h.same],fun m x hx =>?_,fun m hm =>?_⟩
 ·rw[oa] at hx;split at hx
  ·cases hx;exact ⟨rfl,rfl⟩
  ·obtain ⟨h1,h2⟩:=h.ok m x hx;exact ⟨x.jm (fun n hn=>by rw[jE,hn];simp) h1,h2⟩
 ·rw[jE] at hm;simp only[Bool.or_eq_true,decide_eq_true_eq] at hm;rcases hm with rfl | hm
  ·decide
  ·exact h.lP m hm
def sG:List Nat→List I→List (Nat×I)→List (Nat×I)
 |p::ps,v::vs,ts=>sG ps vs ((p,v)::ts)
 |_,_,ts=>ts
def mc(ρ:List (Nat×Nat))(p:Nat→Bool)(ts:List (Nat×I)):List (Nat×I)→Prop
 | []=>True
 |(k,v)::r=>b8 ts k=v.aS (bq ρ)∧v.only p=true∧mc ρ p ts r
theorem Ea{ρ:List (Nat×Nat)}{p:Nat→Bool}{ts:List (Nat×I)} : ∀ {tsR:List (Nat×I)},mc ρ p ts tsR→∀ k,b8 tsR k=.cU∨(b8 ts k=(b8 tsR k).aS (bq ρ)∧(b8 tsR k).only p=true)
 | [],_,k=>.inl rfl
 |(j,v)::r,h,k=>by
  simp only[mc] at h;simp only[b8];split
  ·rename_i hk;subst hk;exact .inr ⟨h.1,h.2.1⟩
  ·exact Ea h.2.2 k
section
variable {c:b9} {a:Act} {w:World} {D:aJ} {E:aM}
theorem aL.wk{A:ab}(h:aL c A a w D E){n b:Nat}{o o':Obj}(hn:A.o n=some (.c6 o))(aq:E n=some (.op b))(ho:nW o'=true):aL c (A.aQ n (.c6 o')) a (w.putObj b o') D E:=by
 have hob:=h.bx n;rw[hn] at hob;obtain ⟨b',k1,k2,k3,k4,k5⟩:=hob;rw[aq] at k1;cases k1;have hnc:o.isCells=false:=by cases o <;>first | rfl | cases k4
 have hlt:b<w.heap.size:=eI k3;have hl:df w D E (w.putObj b o') D E:=⟨fun _ _ h=>h,fun b1 o1 v _ hv=>ue k3 hnc hv,fun _ _ _ h=>h,fun _ aA l h=>⟨aA,l,h,Z7 _,fun _=>rfl⟩,fun _ _ h=>h,fun _ _ h=>h,fun b1 es ck hd hm=>(World.putObj_heap_other (fun e1=>k5 0 (by rw[←e1];exact hd))).trans hm⟩
 refine ⟨h.sz,h.ec.mono fun B _ hB=>(World.putObj_heap_other (fun e=>by rw[e,k3] at hB;cases hB;cases k4)).trans hB,fun t=>aP.later hl (h.dB t),h.de.trans ⟨rfl,rfl,rfl,by simp,fun k hk=>World.putObj_heap_other (fun e=>hk (e▸k2))⟩,h.cI,
  fun b1 o1 hd=>by have:=h.cK b1 o1 hd;simpa using this,fun m =>?_,h.cu,h.dx,h.eJ,h.cw,h.eQ,h.jT hl⟩
 simp only[ab.aQ];by_cases hm:m=n
 ·subst hm;simp only[if_true,cS];exact ⟨b,aq,k2,World.putObj_heap_same hlt,ho,k5⟩
 ·simp only[if_neg hm];exact (h.bx m).later hl rfl fun e b1 he hb=>⟨World.putObj_heap_other (fun e1=>hm (h.cu m n e _ b1 he aq hb (by rw[e1];rfl))),fun _ ho=>ho⟩
theorem aL.Lz{A:ab}(h:aL c A a w D E){n b:Nat}(aq:E n=some (.op b)):aL c ⟨A.t,fun m=>if m=n then none else A.o m⟩ a w D (fun m=>if m=n then none else E m):=by
 have hne:∀ {m:Nat} {e:bu},E m=some e→(∀ b,e≠.op b)→m≠n:=fun he h2 e'=>by
  subst e';rw[aq] at he;cases he;exact h2 _ rfl
 have hl:df w D E w D (fun m=>if m=n then none else E m):=by
  refine ⟨fun _ _ h=>h,fun _ _ _ _ h=>h,fun m b aK he =>?_,fun m aA l he=>⟨aA,l,?_,Z7 _,fun _=>rfl⟩,fun m b he =>?_,fun m b he =>?_,fun _ _ _ _ h=>h⟩
  ·simp only[if_neg (hne he (fun b=>by simp))];exact he
  ·simp only[if_neg (hne he (fun b=>by simp))];exact he
  ·simp only[if_neg (hne he (fun b=>by simp))];exact he
  ·simp only[if_neg (hne he (fun b=>by simp))];exact he
 refine ⟨h.sz,h.ec,fun t=>aP.later hl (h.dB t),h.de,h.cI,h.cK,fun m =>?_,fun m m' e e' b h1 h2 h3 h4 =>?_,fun m e hm =>?_,h.eJ,h.cw,h.eQ,h.fq⟩
 ·by_cases hm:m=n
  ·simp only[hm,if_true,cS]
  ·simp only[if_neg hm];exact (h.bx m).later hl (by simp only[if_neg hm]) fun _ _ _ _=>⟨rfl,fun _ ho=>ho⟩
 ·split at h1
  ·cases h1
  ·split at h2
   ·cases h2
   ·exact h.cu m m' e e' b h1 h2 h3 h4
 ·by_cases hmn:m=n
  ·left;simp only[hmn,if_true]
  ·simp only[if_neg hmn];exact h.dx m e hm
theorem aL.enter{ts:List (Nat×I)}{os0:List (Nat×ai)}(h:aL c (aw ts os0) a w D E)(hbase:c.dK=none)(hfree:aD os0 999999=none)(hE0:c.cd 999999=none){o:Obj}(ho:nW o=true) :
  ∃ E1,aL c (aw ts ((999999,.c6 o)::os0)) { a with defers := { target:=.collected w.heap.size,args := #[] } :: a.defers } ((w.alloc (.deferred (some []))).alloc o) D E1∧E1 999999=some (.op (w.heap.size+1))∧∀ xs vs,ak w D E xs vs→ak ((w.alloc (.deferred (some []))).alloc o) D E1 xs vs:=by
 have hb:Below w.heap.size w ((w.alloc (.deferred (some []))).alloc o):=((Below.refl _ w).alloc (Z7 _) _).alloc (by simp) _;have h1:=h.grow (D':=D) hb (fun _ _ h=>h) (fun _ _ h _=>h) (fun b o' hd=>by have:=h.cK b o' hd;simp;omega);obtain ⟨W,hW⟩:∃ W,W=(w.alloc (.deferred (some []))).alloc o:=⟨_,rfl⟩
 have hL:W.heap[w.heap.size+1]?=some o:=by
  rw[hW];have:=World.alloc_heap_new (w.alloc (.deferred (some []))) o;rwa [World.size_alloc] at this
 have hK:W.heap[w.heap.size]?=some (.deferred (some [])):=by
  rw[hW];exact (Below.heap_alloc _ _ _ (by simp)).trans (World.alloc_heap_new w _)
 rw[←hW] at h1 hb ⊢;have hEn:E 999999=none:=by have:=h.bx 999999;simp only[aw,hfree] at this;exact this
 have hl:df W D E W D (fun m=>if m=999999 then some (.op (w.heap.size+1)) else E m):=by
  refine ⟨fun _ _ h=>h,fun _ _ _ _ h=>h,fun m b aK he =>?_,fun m aA l he=>⟨aA,l,?_,Z7 _,fun _=>rfl⟩,fun m b he =>?_,fun m b he =>?_,fun _ _ _ _ h=>h⟩
  all_goals
   have:m≠999999:=fun e=>by rw[e,hEn] at he;cases he
   simp only[if_neg this];exact he
 have hsz:c.cM.heap.size≤w.heap.size:=h.de.size;have nb:∀ {m:Nat} {e:bu} {b:Nat},E m=some e→e.aA=some b→b<w.heap.size:=fun he hb'=>h.eX he hb';refine ⟨fun m=>if m=999999 then some (.op (w.heap.size+1)) else E m,⟨h1.sz,?_,fun t=>aP.later hl (h1.dB t),h1.de,h1.cI,h1.cK,fun m =>?_,fun m m' e e' b g1 g2 g3 g4 =>?_,fun m e hm =>?_,h1.eJ,h1.cw,h1.eQ,h1.fq⟩,by simp,fun xs vs hx=>ak.later hl xs vs (ak.later (df.grow hb fun _ _ h=>h) xs vs hx)⟩
 ·have hdf:=h1.ec;rw[hbase] at hdf ⊢;obtain ⟨Bs,k1,k2,k3⟩:=hdf;refine ⟨w.heap.size::Bs,by simp only[Z3];rw[←k1],List.nodup_cons.2 ⟨fun hin =>?_,k2⟩,fun B hB =>?_⟩
  ·have hdf':=h.ec;rw[hbase] at hdf';obtain ⟨Bs',j1,_,j3⟩:=hdf';have e1:Bs=Bs':=by
    have:Bs.map (fun B=>({ target:=.collected B,args := #[] } : Deferred))=Bs'.map (fun B => { target:=.collected B,args := #[] }):=by rw[←k1,←j1]
    exact (List.map_inj_right (fun x y hxy=>by simpa using hxy)).1 this
   rw[e1] at hin;have:=eI (j3 _ hin).2;omega
  ·rcases zy0.1 hB with rfl | hB
   ·exact ⟨hsz,hK⟩
   ·exact k3 B hB
 ·simp only[aw,aD];by_cases hm:m=999999
  ·subst hm;simp only[if_true,cS];exact ⟨_,rfl,.inl (by omega),hL,ho,fun o' hd=>by have:=h.cK _ o' hd;omega⟩
  ·simp only[if_neg hm];exact (h1.bx m).later hl (by simp only[if_neg hm]) fun _ _ _ _=>⟨rfl,fun _ ho=>ho⟩
 ·by_cases hm:m=999999 <;>by_cases hm':m'=999999
  ·rw[hm,hm']
  ·simp only[if_pos hm,v6] at g1;simp only[if_neg hm'] at g2;subst g1;simp only[bu.aA,v6] at g3;have:=nb g2 g4;omega
  ·simp only[if_neg hm] at g1;simp only[if_pos hm',v6] at g2;subst g2;simp only[bu.aA,v6] at g4;have:=nb g1 g3;omega
  ·simp only[if_neg hm] at g1;simp only[if_neg hm'] at g2;exact h.cu m m' e e' b g1 g2 g3 g4
 ·have hmn:m≠999999:=fun e=>by rw[e,hE0] at hm;cases hm
  simp only[if_neg hmn];exact h.dx m e hm
theorem cS.jj{M M':Nat→Prop}{n:Nat}{x:Option ai}(h:cS M w D E n x)(hM:∀ e b,E n=some e→e.aA=some b→M' b):cS M' w D E n x:=by
 unfold cS at *;split
 ·exact h
 ·obtain ⟨b,cs,T,h1,_,h3⟩:=h;exact ⟨b,cs,T,h1,hM _ b h1 rfl,h3⟩
 ·obtain ⟨aA,h1,h2,h3⟩:=h;refine ⟨aA,h1,h2,?_⟩;split
  ·exact h3
  ·obtain ⟨cs,pre,rest,_,h4⟩:=h3;exact ⟨cs,pre,rest,hM _ _ h1 rfl,h4⟩
 ·obtain ⟨b,h1,_,h3⟩:=h;exact ⟨b,h1,hM _ b h1 rfl,h3⟩
 ·obtain ⟨b,es,ck,h1,_,h3⟩:=h;exact ⟨b,es,ck,h1,hM _ b h1 rfl,h3⟩
 ·obtain ⟨r,b,es,ck,dN,se,la,h1,_,h3⟩:=h;exact ⟨r,b,es,ck,dN,se,la,h1,hM _ r h1 rfl,h3⟩
 ·obtain ⟨aA,h1,h2,h3⟩:=h;refine ⟨aA,h1,h2,?_⟩;split
  ·exact h3
  ·obtain ⟨cs,m,_,h4⟩:=h3;exact ⟨cs,m,hM _ _ h1 rfl,h4⟩
theorem aL.Cd{os:List (Nat×ai)} : ∀ (ps:List Nat) (vs:List Value) (xs:List I) (ts:List (Nat×I)) (a:Act),aL c (aw ts os) a w D E→(∀ p∈ps,p<c.n)→ak w D E xs vs→ps.length=vs.length →
  aL c (aw (sG ps xs ts) os) { a with tmps:=(ps.zip vs).foldl (fun t q=>t.setIfInBounds q.1 q.2) a.tmps } w D E
 | [],[],xs,ts,a,h,_,hv,_=>by
  cases xs with
  |nil=>exact h
  |cons x xs=>simp[ak] at hv
 | [],_::_,_,_,_,_,_,_,hl=>by simp at hl
 |_::_,[],_,_,_,_,_,_,hl=>by simp at hl
 |p::ps,v::vs,xs,ts,a,h,hp,hv,hl=>by
  cases xs with
  |nil=>simp[ak] at hv
  |cons x xs =>
   simp only[ak] at hv;obtain ⟨v',rest,cs,e,h1,h2,h3⟩:=hv;simp only[Y7] at e;obtain ⟨rfl,rfl⟩:=e;have h4:=h.put (hp p (by simp)) (fm h1 h2);rw[Br] at h4;have:=aL.Cd ps vs xs ((p,x)::ts) (a.put (some p) v) h4 (fun q hq=>hp q (by simp[hq])) h3 (by simpa using hl);exact this
end
end Go.Abs
namespace Go.Abs
open Go Go.RowKit
def hZ:br→Bool
 | .mv _ | .pick .. | .bin .. | .eqv .. | .conv .. | .un .. | .fl .. | .ix .. | .lenT _ | .bld .. | .ext .. | .mk .. | .nilC _ | .ptrE .. | .max2 .. | .prim .. =>true
 | .ld .. | .fa .. | .ia .. | .is .. | .len _ | .va .. | .bs .. | .sl .. | .cap _ | .bs0 _ | .lk .. | .b2s _=>true
 |_=>false
def sx:br→Bool
 | .alloc _ | .box _ | .aV .. | .call .. | .eY .. | .dD .. | .eE _=>true
 |op=>hZ op
def n9(hs:List FuncId):br→Bool
 | .alloc _ | .box _ | .eE _=>true
 | .call f _ => !hs.contains f
 |op=>hZ op
abbrev dU:=List (Nat×List Nat)
def gD(ar:dU)(s:Nat):Option (List Nat):=(ar.find? fun q=>q.1==s).map (·.2)
def dC(ar:dU)(A:ab):Prop:=∀ s ns,gD ar s=some ns→(A.t s).only (fun n=>ns.contains n)=true
def nY(ar:dU):ay→Option (List Nat)
 | .t s=>gD ar s
 | .c x=>if x.bw then some [] else none
def ql(a:Option (List Nat))(ns:List Nat):Bool:=match a with
 |some ms=>ms.all fun m=>ns.contains m
 |none=>false
def gV(ar:dU)(g:au):Bool:=match g.dst with
 |none=>true
 |some d=>match gD ar d with
  |none=>true
  |some ns=>match g.op with
   | .mv x | .nilC x | .fa _ _ x | .ia _ _ x _=>ql (nY ar x) ns
   | .bin .. | .len _ | .bs .. | .bs0 _ | .conv .. | .lenT _ | .prim .. | .b2s _=>true
   | .box _ | .alloc _ | .eE _=>ns.contains d
   | .is _ x _ | .ld _ x=>ql (nY ar x) []
   |_=>false
def lS:br→Option (List Nat)
 | .ld _ (.t x) | .fa _ _ (.t x) | .ia _ _ (.t x) _ | .is _ (.t x) _ | .len (.t x) | .va _ _ (.t x) | .sl _ (.t x) _ _ _ | .cap (.t x) | .lk _ _ _ (.t x) _ | .b2s (.t x)=>some [x]
 | .bs _ _ ps=>if (ps.all fun x=>match x with | .t _=>true | .c _=>false)=true then some (iC ps) else none
 | .bs0 _=>some []
 |op=>if op.fF=0∧hZ op=true then some [] else none
def qL(ar:dU)(g:au)(p:Nat→Bool):Bool:=match lS g.op with
 |some xs=>xs.all fun s=>match gD ar s with | some ns=>ns.all p | none=>false
 |none=>false
def mM(hs:List FuncId)(ar:dU)(g h:au):Bool:=n9 hs h.op||match h.op with
 | .aV _ (.t y) _=>match lS g.op with
  |some []=>true
  |_=>match gD ar y with
   |some ms=>qL ar g fun n => !ms.contains n
   |none=>false
 | .aV .. =>match lS g.op with
  |some []=>true
  |_=>false
 | .dD _ _ _ _ s _=>qL ar g (fun _=>false)||ql (nY ar s) []
 |_=>false
def mz(hs:List FuncId)(ar:dU)(g h:au):Bool:=hZ g.op&&(mM hs ar g h&&((match g.dst with
  |some d => !h.cg.contains d&&h.dst != some d
  |none=>true)&&(match h.dst with
  |some d => !g.cg.contains d
  |none=>true)))
theorem uW{op:br}(h:hZ op=true)(A:ab)(dst:Option Nat)(rest:List au)(k:ab→bV):aW A dst op rest k=b6 (aU A op) fun v=>k (A.aN dst v):=by
 cases op <;>first | rfl | cases h
inductive bH (P:Program) (Y:Value→List I→List (Nat×ai)→bX→Prop) (hs:List FuncId) (K:ab→Prop):bV→Prop where
 |done {A:ab} : K A→bH P Y hs K (.done A)
 |flat {f:FuncId} {avs cargs:List I} {a2:Option (List I)} {dst:Option Nat} {rest:List au} {A:ab} (r:I):aR P f cargs r→r.flat=true→bH P Y hs K (ao rest (A.aN dst r))→bH P Y hs K (.call f avs (some cargs) a2 dst rest A)
 |lead {f:FuncId} {avs cargs:List I} {a1:Option (List I)} {dst:Option Nat} {rest:List au} {A:ab} (r:I):aR P f cargs r→bH P Y hs K (ao rest (A.aN dst r))→bH P Y hs K (.call f avs a1 (some cargs) dst rest A)
 |bx {f:FuncId} {avs:List I} {a1 a2:Option (List I)} {dst:Option Nat} {rest:List au} {ts:List (Nat×I)} {os0:List (Nat×ai)} (ρ:List (Nat×Nat)) (cargs:List I) (post:bX):eL P f cargs [] post →
   eM ρ [] os0→fO false (aw ts os0) ρ [] avs cargs→(∀ r os',post r os'→dv false ρ [] os0 r os') →
   (∀ r os',post r os'→bH P Y hs K (ao rest ((aw ts (cX ρ os'++os0)).aN dst (r.aS (bq ρ)))))→bH P Y hs K (.call f avs a1 a2 dst rest (aw ts os0))
 |any {p:Nat→Prop} {k:Nat→bV} : (∀ m,p m→bH P Y hs K (k m))→bH P Y hs K (.any p k)
 |vx {f:FuncId} {avs:List I} {a1 a2:Option (List I)} {dst:Option Nat} {rest:List au} {ts:List (Nat×I)} {os0:List (Nat×ai)} (aB:Bool) (ρ:List (Nat×Nat)) (os:List (Nat×ai)) (cargs:List I) (post:bX):hs.contains f=true→eL P f cargs os post →
   eM ρ os os0→fO aB (aw ts (dO (ir ρ os) os0)) ρ os avs cargs→(∀ r os',post r os'→dv aB ρ os os0 r os') →
   (∀ r os',post r os'→bH P Y hs K (ao rest ((aw ts (cX ρ os'++os0)).aN dst (r.aS (bq ρ)))))→bH P Y hs K (.call f avs a1 a2 dst rest (aw ts os0))
 |Yx {v:Value} {avs:List I} {dst:Option Nat} {rest:List au} {ts:List (Nat×I)} {os0:List (Nat×ai)} (os:List (Nat×ai)) (cargs:List I) (post:bX):Y v cargs os post →
   eM [] os os0→fO false (aw ts (dO (ir [] os) os0)) [] os avs cargs→(∀ r os',post r os'→dv false [] os os0 r os') →
   (∀ r os',post r os'→bH P Y hs K (ao rest ((aw ts (cX [] os'++os0)).aN dst (r.aS (bq [])))))→bH P Y hs K (.kS v avs dst rest (aw ts os0))
theorem Ly(os:List (Nat×ai)):dO [] os=os:=by simp[dO]
section
variable {P:Program} {hs:List FuncId} {K:ab→Prop} {Y:Value→List I→List (Nat×ai)→bX→Prop}
theorem bH.qJ{p:Nat→Prop}{k:Nat→bV}(h:bH P Y hs K (.any p k)):∀ m,p m→bH P Y hs K (k m):=by cases h;assumption
theorem dC.put{ar:dU}{A B:ab}(h:dC ar A)(ht:∀ k,B.t k=A.t k){dst:Option Nat}{v:I}(hv:∀ d,dst=some d→∀ ns,gD ar d=some ns→v.only (fun n=>ns.contains n)=true):dC ar (B.aN dst v):=by
 intro s ns hs';cases dst with
 |none=>exact (ht s).symm▸h s ns hs'
 |some d =>
  simp only[ab.aN,ab.put];by_cases hd:s=d
  ·rw[if_pos hd];exact hv d rfl ns (hd▸hs')
  ·rw[if_neg hd,ht];exact h s ns hs'
theorem nk{ar:dU}{A:ab}(h:dC ar A){x:ay}{ns:List Nat}(hx:ql (nY ar x) ns=true):(af A x).only (fun n=>ns.contains n)=true:=by
 cases x with
 |c x =>
  simp only[nY] at hx;split at hx
  ·rename_i hc;exact lX _ x hc
  ·cases hx
 |t s =>
  simp only[nY] at hx;cases hl:gD ar s with
  |none=>rw[hl] at hx;cases hx
  |some ms =>
   rw[hl] at hx;simp only[ql,zz6] at hx;exact jm (fun n hn=>hx n (by simpa using hn)) _ (h s ms hl)
theorem GB{op:BinOp}{x y v:I}(p:Nat→Bool)(h:bF op x y=some v):v.only p=true:=by
 unfold bF at h
 (repeat' split at h) <;>first | (cases h;done) | (simp only[v6] at h;subst h;rfl)
theorem WX{q:tF}{xs:List I}{v:I}(p:Nat→Bool)(h:ef q xs=some v):v.only p=true:=by
 unfold ef at h
 (repeat' split at h) <;>first | (cases h;done) | (rename_i hc;simp only[v6] at h;subst h;simp only[I.only];exact lX _ _ hc.1) | (simp only[v6] at h;subst h;rfl) | (simp only[t7] at h;obtain ⟨_,_,rfl⟩:=h;rfl)
theorem Gi{x:Option (List I)}{v:I}(p:Nat→Bool)(h:kM x=some v):v.only p=true:=by
 unfold kM at h;split at h
 ·simp only[t7] at h;obtain ⟨_,_,rfl⟩:=h;rfl
 ·cases h
theorem sy{p:Nat→Bool} : ∀ {xs:List I} {i:Nat} {x:I},I.cJ p xs=true→xs[i]?=some x→x.only p=true
 | [],_,_,_,h=>by simp at h
 |a::xs,0,x,h,e=>by
  simp only[I.cJ,Z0] at h;simp only[List.getElem?_cons_zero,v6] at e;exact e▸h.1
 |a::xs,i+1,x,h,e=>by
  simp only[I.cJ,Z0] at h;exact sy (xs:=xs) h.2 (by simpa using e)
theorem BL{ar:dU}{A:ab}{g:au}(h:dC ar A)(hg:gV ar g=true){v:I}(hv:aU A g.op=some v):∀ d,g.dst=some d→∀ ns,gD ar d=some ns→v.only (fun n=>ns.contains n)=true:=by
 intro d hd ns hn;obtain ⟨dst,op,gd⟩:=g;simp only at hd hv;subst hd;simp only[gV,hn] at hg;cases op <;>simp only at hg <;>(try (cases hg;done)) <;>simp only[aU] at hv <;>(try (cases hv;done))
 case mv x=>simp only[v6] at hv;exact hv▸nk h hg
 case nilC x =>
  have:=nk h hg;generalize af A x=u at hv this;cases u <;>simp only[mF] at hv <;>first | (cases hv;done) | (simp only[v6] at hv;exact hv▸this)
 case bin op x y=>exact GB _ hv
 case conv k x=>split at hv <;>first | (cases hv;done) | (simp only[v6] at hv;subst hv;rfl)
 case prim p xs=>exact WX _ hv
 case is esz x i =>
  have hx:=nk h hg;split at hv
  case h_2=>cases hv
  split at hv
  ·rename_i sz es he;rw[he] at hx;simp only[I.only] at hx;split at hv
   ·simp only[t7] at hv;obtain ⟨u,hu,rfl⟩:=hv;simp only[I.only];exact jm (fun n hn=>by simp at hn) _ (sy hx hu)
   ·cases hv
  ·rename_i m l he;rw[he] at hx;simp[I.only] at hx
  ·rename_i m p sz lo l he;rw[he] at hx;simp[I.only] at hx
  ·cases hv
 case ld s x =>
  have hx:=nk h hg;split at hv
  case h_2=>cases hv
  rename_i u hu;split at hv
  case isFalse=>cases hv
  simp only[v6] at hv;subst hv;generalize af A x=z at hx hu;cases z <;>simp only[bQ] at hu <;>try (cases hu;done)
  ·simp only[v6] at hu;subst hu;simp only[I.only] at hx;exact jm (fun n hn=>by simp at hn) _ hx
  ·simp[I.only] at hx
 case b2s x=>exact Gi _ hv
 case lenT x=>split at hv <;>first | (cases hv;done) | (simp only[v6] at hv;subst hv;rfl)
 case len x=>(repeat' split at hv) <;>first | (cases hv;done) | (simp only[v6] at hv;subst hv;rfl)
 case bs0 e=>simp only[v6] at hv;subst hv;rfl
 case bs e ps =>
  split at hv
  ·split at hv
   ·rename_i hc;simp only[v6] at hv;subst hv;simp only[I.only];exact mJ _ _ hc.2
   ·cases hv
  ·cases hv
 case fa f off x =>
  have hx:=nk h hg;split at hv
  ·rename_i fs he;rw[he] at hx;simp only[I.only] at hx;split at hv
   ·rename_i u hu;split at hv
    ·simp only[v6] at hv;subst hv;simp only[I.only];exact sy hx hu
    ·cases hv
   ·cases hv
  ·rename_i n q he;rw[he] at hx;simp only[I.only] at hx;split at hv
   ·split at hv
    ·simp only[v6] at hv;subst hv;simpa only[I.only] using hx
    ·cases hv
   ·cases hv
  ·cases hv
 case ia n esz x i =>
  have hx:=nk h hg;split at hv
  case h_2=>cases hv
  split at hv
  case isFalse=>cases hv
  split at hv
  ·rename_i fs he;rw[he] at hx;simp only[I.only] at hx;split at hv
   ·simp only[t7] at hv;obtain ⟨u,hu,rfl⟩:=hv;simp only[I.only];exact sy hx hu
   ·cases hv
  ·rename_i m q he;rw[he] at hx;simp only[I.only] at hx;split at hv
   ·split at hv
    ·simp only[v6] at hv;subst hv;simpa only[I.only] using hx
    ·cases hv
   ·cases hv
  ·cases hv
def qz(A:ab)(dst:Option Nat)(s:I)(B:ab):Prop:=(∀ t,dst≠some t→B.t t=A.t t)∧(s.only (fun _=>false)=true→dj A B)
def mh(A:ab)(dst:Option Nat)(s:I)(R:(ab→bV)→bV):Prop :=
 (∀ k,R k=.fail)∨(∃ B,(∀ k,R k=k B)∧qz A dst s B)∨∃ (p:Nat→Prop) (bh:Nat→ab),(∀ k,R k=.any p fun m=>k (bh m))∧∀ m,qz A dst s (bh m)
theorem pW{A B:ab}{dst:Option Nat}{v:I}{t:Nat}(ht:∀ k,B.t k=A.t k)(h:dst≠some t):(B.aN dst v).t t=A.t t:=by
 cases dst with
 |none=>exact ht t
 |some d =>
  have:t≠d:=fun e=>h (by rw[e]);simp only[ab.aN,ab.put,if_neg this];exact ht t
theorem F0(A:ab)(dst:Option Nat)(esz bytes:Nat)(z s:I)(es ys:List I):mh A dst s (eS A dst esz bytes z es ys):=by
 cases dst with
 |none=>exact .inl fun _=>rfl
 |some d =>
  cases ho:A.o d with
  |some y=>exact .inl fun k=>by simp only[eS,ho]
  |none =>
   by_cases hc:(es.length+ys.length)*bytes≤140737488355328∧es.length+ys.length≤maxLen
   ·refine .inr (.inr ⟨_,fun m=>(A.aQ d (.box (.agg (es++(ys++List.replicate m z))))).aN (some d) (.view d [] esz 0 (es.length+ys.length)),fun k=>by simp only[eS,ho];rw[if_pos hc],fun m=>⟨fun t ht=>pW (A:=A) (B:=A.aQ d _) (fun _=>rfl) ht,fun _ n y hy =>?_⟩⟩);have:n≠d:=fun e=>by rw[e,ho] at hy;cases hy
    rw[gn];simp only[ab.aQ,if_neg this];exact hy
   ·exact .inl fun k=>by simp only[eS,ho];rw[if_neg hc]
theorem F4(A:ab)(dst:Option Nat)(esz bytes:Nat)(z s:I)(es ys:Option (List I)):mh A dst s (dV A dst esz bytes z s es ys):=by
 cases es with
 |none=>exact .inl fun _=>rfl
 |some es =>
  cases ys with
  |none=>exact .inl fun _=>rfl
  |some ys =>
   by_cases h0:ys=[]
   ·exact .inr (.inl ⟨A.aN dst s,fun k=>by simp only[dV,if_pos h0],fun t ht=>pW (A:=A) (fun _=>rfl) ht,fun _ n y hy=>by rw[gn];exact hy⟩)
   ·have gg:=fun s'=>F0 A dst esz bytes z s' es ys;cases s
    case nils=>simp only[mh,dV,if_neg h0];exact gg _
    case c0=>simp only[mh,dV,if_neg h0];exact gg _
    case view n p sz lo l =>
     cases ho:A.o n with
     |none=>exact .inl fun k=>by simp only[dV,if_neg h0,ho]
     |some y =>
      cases y with
      |box b =>
       cases hb:b.at p with
       |none=>exact .inl fun k=>by simp only[dV,if_neg h0,ho,hb]
       |some c =>
        cases c
        case agg fs =>
         by_cases h1:lo+l+ys.length≤fs.length
         ·by_cases h2:sz=esz∧I.cE ys=I.cE ((fs.drop (lo+l)).take ys.length)
          ·exact .inr (.inl ⟨(A.aQ n (.box (hG b p (lo+l) fs ys))).aN dst (.view n p esz lo (l+ys.length)),fun k=>by simp only[dV,if_neg h0,ho,hb,if_pos h1];rw[if_pos h2],fun t ht=>pW (A:=A) (B:=A.aQ n _) (fun _=>rfl) ht,fun h=>by simp[I.only] at h⟩)
          ·exact .inl fun k=>by simp only[dV,if_neg h0,ho,hb,if_pos h1];rw[if_neg h2]
         ·simp only[mh,dV,if_neg h0,ho,hb,if_neg h1];exact gg _
        all_goals exact .inl fun k=>by simp only[dV,if_neg h0,ho,hb]
      |_=>exact .inl fun k=>by simp only[dV,if_neg h0,ho]
    all_goals exact .inl fun k=>by simp only[dV,if_neg h0]
theorem xv(A:ab)(dst:Option Nat)(e esz bytes:Nat)(z:I)(s x:ay)(rest:List au):mh A dst (af A s) (aW A dst (.dD e esz bytes z s x) rest):=by
 generalize hs:af A s=gM;cases gM
 case own n l =>
  cases hx:af A x
  case slice sz ys =>
   cases ho:A.o n with
   |none=>exact .inl fun k=>by simp only[aW,hs,hx,ho]
   |some y =>
    cases y with
    |bJ T sz' es =>
     by_cases hc:vA e esz bytes l sz ys T sz' es
     ·exact .inr (.inl ⟨(A.aQ n (.bJ e esz (es++ys))).aN dst (.own n (es.length+ys.length)),fun k=>by simp only[aW,hs,hx,ho];rw[if_pos hc],fun t ht=>pW (A:=A) (B:=A.aQ n _) (fun _=>rfl) ht,fun h=>by simp[I.only] at h⟩)
     ·exact .inl fun k=>by simp only[aW,hs,hx,ho];rw[if_neg hc]
    |dJ T xs =>
     by_cases hc:vB e esz bytes l ys T xs z
     ·exact .inr (.inl ⟨(A.aQ n (.dJ e (xs++pz ys))).aN dst (.own n (xs.length+ys.length)),fun k=>by simp only[aW,hs,hx,ho];rw[if_pos hc],fun t ht=>pW (A:=A) (B:=A.aQ n _) (fun _=>rfl) ht,fun h=>by simp[I.only] at h⟩)
     ·exact .inl fun k=>by simp only[aW,hs,hx,ho];rw[if_neg hc]
    |_=>exact .inl fun k=>by simp only[aW,hs,hx,ho]
  all_goals exact .inl fun k=>by simp only[aW,hs,hx]
 all_goals (simp only[mh,aW,hs];exact F4 ..)
theorem vN{A:ab}{d:Nat}{v:I}{n:Nat}{y:ai}{dst:Option Nat}{u:I}(h:dst≠some d):((A.put d v).aQ n y).aN dst u=((A.aQ n y).aN dst u).put d v:=by
 cases dst with
 |none=>rfl
 |some e =>
  have:e≠d:=fun he=>h (by rw[he]);simp only[ab.aN,ab.put,ab.aQ,ab.mk.injEq,and_true]
  funext k
  by_cases h1:k=e <;>by_cases h2:k=d <;>simp_all
theorem Xe{A:ab}{d:Nat}{v:I}{dst:Option Nat}{u:I}(h:dst≠some d):(A.put d v).aN dst u=(A.aN dst u).put d v:=by
 cases dst with
 |none=>rfl
 |some e =>
  have:e≠d:=fun he=>h (by rw[he]);simp only[ab.aN,ab.put,ab.mk.injEq,and_true]
  funext k
  by_cases h1:k=e <;>by_cases h2:k=d <;>simp_all
theorem F1{A:ab}{d:Nat}{v:I}{dst:Option Nat}(h:dst≠some d)(esz bytes:Nat)(z:I)(es ys:List I)(k:ab→bV):eS (A.put d v) dst esz bytes z es ys k=eS A dst esz bytes z es ys fun B=>k (B.put d v):=by
 cases dst with
 |none=>rfl
 |some e =>
  simp only[eS];have:(A.put d v).o=A.o:=rfl;rw[this];cases A.o e with
  |some _=>rfl
  |none =>
   simp only;split
   ·simp only[vN h]
   ·rfl
theorem F5{A:ab}{d:Nat}{v:I}{dst:Option Nat}(h:dst≠some d)(esz bytes:Nat)(z s:I)(es ys:Option (List I))(k:ab→bV):dV (A.put d v) dst esz bytes z s es ys k=dV A dst esz bytes z s es ys fun B=>k (B.put d v):=by
 have ho:(A.put d v).o=A.o:=rfl;cases es with
 |none=>rfl
 |some es =>
  cases ys with
  |none=>rfl
  |some ys =>
   simp only[dV];split
   ·rw[Xe h]
   ·cases s <;>simp only[F1 h,ho]
    rename_i n p sz lo l;cases A.o n with
    |none=>rfl
    |some y =>
     cases y with
     |box b =>
      simp only;cases b.at p with
      |none=>rfl
      |some c =>
       cases c <;>simp only[vN h]
     |_=>rfl
theorem Ga{A:ab}{d:Nat}{v:I}{dst:Option Nat}(h:dst≠some d){e esz bytes:Nat}{z:I}{s x:ay}(hag:di A (A.put d v) (s.sl++x.sl))(rest rest':List au)(k:ab→bV) :
  aW (A.put d v) dst (.dD e esz bytes z s x) rest k=aW A dst (.dD e esz bytes z s x) rest' fun B=>k (B.put d v):=by
 have ho:(A.put d v).o=A.o:=rfl;have hsrc:∀ y,cP (A.put d v) esz y=cP A esz y:=fun y=>by cases y <;>rfl
 simp only[aW,cB hag.l,cB hag.r,hsrc];cases af A s <;>simp only[F5 h]
 rename_i n l;cases af A x <;>simp only[ho]
 cases A.o n with
 |none=>rfl
 |some y=>cases y <;>simp only[vN h]
theorem bH.za{ar:dU}{f:FuncId}{avs:List I}{a1 a2:Option (List I)}{dst:Option Nat}{rest:List au}{A:ab}(hi:dC ar A)(hd:∀ d,dst=some d→gD ar d=none)(h:bH P Y hs K (.call f avs a1 a2 dst rest A)) :
  aX P Y false (fun B=>bH P Y hs K (ao rest B)∧dC ar B) (.call f avs a1 a2 dst [] A):=by
 have no:∀ {v:I},∀ d,dst=some d→∀ ns,gD ar d=some ns→v.only (fun n=>ns.contains n)=true:=fun d e ns hn=>by rw[hd d e] at hn;cases hn
 cases h with
 |flat r hc hf hw=>exact .flat r hc hf (.done ⟨hw,hi.put (fun _=>rfl) no⟩)
 |lead r hc hw=>exact .lead r hc (.done ⟨hw,hi.put (fun _=>rfl) no⟩)
 |bx ρ cargs post hc hg ha hb hw=>exact .bx false ρ [] cargs post rfl hc hg (by simp only[ir,zz0,Ly];exact ha) hb fun r os' hp=>.done ⟨hw r os' hp,hi.put (B:=aw _ (cX ρ os'++_)) (fun _=>rfl) no⟩
 |vx aB ρ os cargs post _ hc hg ha hb hw=>exact .bx aB ρ os cargs post rfl hc hg ha hb fun r os' hp=>.done ⟨hw r os' hp,hi.put (B:=aw _ (cX ρ os'++_)) (fun _=>rfl) no⟩
theorem bH.H5{ar:dU}{v:Value}{avs:List I}{dst:Option Nat}{rest:List au}{A:ab}(hi:dC ar A)(hd:∀ d,dst=some d→gD ar d=none)(h:bH P Y hs K (.kS v avs dst rest A)) :
  aX P Y false (fun B=>bH P Y hs K (ao rest B)∧dC ar B) (.kS v avs dst [] A):=by
 have no:∀ {v:I},∀ d,dst=some d→∀ ns,gD ar d=some ns→v.only (fun n=>ns.contains n)=true:=fun d e ns hn=>by rw[hd d e] at hn;cases hn
 cases h with
 |Yx os cargs post hc hg ha hb hw=>exact .tn os cargs post rfl hc hg ha hb fun r os' hp=>.done ⟨hw r os' hp,hi.put (B:=aw _ (cX [] os'++_)) (fun _=>rfl) no⟩
theorem bH.one{ar:dU}{A:ab}{g:au}{rest:List au}(hi:dC ar A)(ho:sx g.op=true)(hL:gV ar g=true)(h:bH P Y hs K (aW A g.dst g.op rest (ao rest))):aX P Y false (fun B=>bH P Y hs K (ao rest B)∧dC ar B) (aW A g.dst g.op [] (ao [])):=by
 have hval:=fun v (hv:aU A g.op=some v)=>BL hi hL hv;obtain ⟨dst,op,gd⟩:=g;simp only at ho h hval ⊢;have pure:hZ op=true→aX P Y false (fun B=>bH P Y hs K (ao rest B)∧dC ar B) (aW A dst op [] (ao [])):=by
  intro hsm;rw[uW hsm] at h ⊢;cases hv:aU A op with
  |none=>rw[hv] at h;cases h
  |some v=>rw[hv] at h;exact .done ⟨h,hi.put (fun _=>rfl) (hval v hv)⟩
 have unl:(∀ ns d,dst=some d→gD ar d=some ns→gV ar ⟨dst,op,gd⟩=false)→∀ d,dst=some d→gD ar d=none:=fun h1 d hd=>by
  cases hn:gD ar d with
  |none=>rfl
  |some ns=>rw[h1 ns d hd hn] at hL;cases hL
 cases op with
 |alloc z =>
  cases dst with
  |none=>simp only[aW] at h;cases h
  |some d =>
   simp only[aW] at h ⊢;split at h
   case h_2=>cases h
   refine .done ⟨h,hi.put (B:=A.aQ d _) (dst:=some d) (fun _=>rfl) fun d' e ns hn =>?_⟩;simp only[v6] at e;subst e;simpa only[gV,hn,I.only] using hL
 |box x =>
  cases dst with
  |none=>simp only[aW] at h;cases h
  |some d =>
   simp only[aW] at h ⊢;split at h
   case h_2=>cases h
   split at h
   case isFalse=>cases h
   rename_i hv;rw[if_pos hv];refine .done ⟨h,hi.put (B:=A.aQ d _) (dst:=some d) (fun _=>rfl) fun d' e ns hn =>?_⟩;simp only[v6] at e;subst e;simpa only[gV,hn,I.only] using hL
 |aV s x v =>
  cases dst with
  |some d=>simp only[aW] at h;cases h
  |none =>
   simp only[aW] at h ⊢;split at h
   case h_2=>cases h
   rename_i n p hx;split at h
   case h_2=>cases h
   rename_i b hb;split at h
   case h_2=>cases h
   rename_i old hold;split at h
   case isFalse=>cases h
   rename_i hok;simp only[if_pos hok];exact .done ⟨h,fun s ns hn=>hi s ns hn⟩
 |eE x =>
  simp only[aW] at h ⊢;cases hse:lv (af A x) with
  |none=>rw[hse] at h;simp only[gZ] at h;cases h
  |some ys =>
   rw[hse] at h;cases dst with
   |none=>simp only[gZ] at h;cases h
   |some d =>
    simp only[gZ] at h ⊢;split at h
    case h_2=>cases h
    rename_i ho;refine .any rfl fun m hm=>.done ⟨h.qJ m hm,hi.put (B:=A.aQ d _) (dst:=some d) (fun _=>rfl) fun d' e ns hn =>?_⟩;simp only[v6] at e;subst e;simpa only[gV,hn,I.only] using hL
 |call f args=>exact bH.za hi (unl fun ns d e hn=>by subst e;simp only[gV,hn]) h
 |eY x args =>
  have hu:=unl fun ns d e hn=>by subst e;simp only[gV,hn]
  simp only[aW] at h ⊢;split at h
  ·exact bH.za hi hu h
  ·exact bH.H5 hi hu h
  ·cases h
 |dD e esz bytes z s x =>
  have hu:=unl fun ns d e hn=>by subst e;simp only[gV,hn]
  have rL:∀ B,qz A dst (af A s) B→dC ar B:=fun B hB t ns hn=>by
   rw[hB.1 t fun e=>by rw[hu t e] at hn;cases hn];exact hi t ns hn
  have hf:=xv A dst e esz bytes z s x;rcases hf rest with h1 | ⟨B,h1,h2⟩ | ⟨p,bh,h1,h2⟩
  ·rw[h1] at h;cases h
  ·rw[h1] at h;have:aW A dst (.dD e esz bytes z s x) [] (ao [])=ao [] B:=(show aW A dst (.dD e esz bytes z s x) [] (ao [])=aW A dst (.dD e esz bytes z s x) rest (ao []) from rfl).trans (h1 _);rw[this];exact .done ⟨h,rL B h2⟩
  ·rw[h1] at h;have:aW A dst (.dD e esz bytes z s x) [] (ao [])=.any p fun m=>ao [] (bh m):=(show aW A dst (.dD e esz bytes z s x) [] (ao [])=aW A dst (.dD e esz bytes z s x) rest (ao []) from rfl).trans (h1 _);rw[this];exact .any rfl fun m hm=>.done ⟨h.qJ m hm,rL _ (h2 m)⟩
 |_=>first | exact pure rfl | cases ho
def fg(g:au)(A:ab)(v:I):Prop:=(fx A g∧v=.undef)∨(pass A g∧aU A g.op=some v)
theorem bH.wy{A:ab}{g:au}{rest:List au}(hs':hZ g.op=true)(h:bH P Y hs K (ao (g::rest) A)):∃ v,fg g A v∧bH P Y hs K (ao rest (A.aN g.dst v)):=by
 have step:pass A g→bH P Y hs K (aW A g.dst g.op rest (ao rest))→∃ v,fg g A v∧bH P Y hs K (ao rest (A.aN g.dst v)):=by
  intro hp h;rw[uW hs'] at h;cases hv:aU A g.op with
  |none=>rw[hv] at h;cases h
  |some v=>rw[hv] at h;exact ⟨v,.inr ⟨hp,hv⟩,h⟩
 simp only[ao] at h;split at h
 ·rename_i hg;exact step (by simp only[pass,hg]) h
 ·rename_i t b hg;split at h
  ·rename_i b' hb;split at h
   ·rename_i hbb;subst hbb;exact step (by simp only[pass,hg];exact hb) h
   ·rename_i hbb;exact ⟨_,.inl ⟨by simp only[fx,hg];exact .inl (by rw[hb,tW hbb]),rfl⟩,h⟩
  ·rename_i hb;exact ⟨_,.inl ⟨by simp only[fx,hg];exact .inr hb,rfl⟩,h⟩
  ·cases h
theorem qK{A:ab}{g:au}{rest:List au}(hn:fx A g):ao (g::rest) A=ao rest (A.aN g.dst .undef):=by
 simp only[ao];cases hg:g.guard with
 |none=>simp only[fx,hg] at hn
 |some tb =>
  obtain ⟨t,b⟩:=tb;simp only[fx,hg] at hn;rcases hn with hn | hn
  ·simp only[hn];rw[if_neg (by cases b <;>simp)]
  ·simp only[hn]
theorem fg.to{A:ab}{g:au}{rest:List au}{v:I}(hs':hZ g.op=true)(h:fg g A v):ao (g::rest) A=ao rest (A.aN g.dst v):=by
 rcases h with ⟨hn,rfl⟩ | ⟨hp,hv⟩
 ·exact qK hn
 ·rw[mn hp,uW hs',hv];rfl
theorem Lf{A A':ab}{p:Nat→Bool}(ho:∀ n,p n=true→A'.o n=A.o n){x:I}(hx:x.only p=true):bQ A' x=bQ A x:=by
 cases x <;>simp only[bQ]
 rename_i n q;rw[ho n (by simpa[I.only] using hx)]
mutual
theorem L5{A A':ab}{p:Nat→Bool}(ho:∀ n,p n=true→A'.o n=A.o n):∀ {x:I},x.only p=true→ba false A' x=ba false A x
 | .own n k,h=>by simp only[ba];rw[ho n (by simpa[I.only] using h)]
 | .func f caps,h=>by simp only[ba];rw[rm ho (xs:=caps) (by simpa[I.only] using h)]
 | .agg fs,h=>by simp only[ba];rw[rm ho (xs:=fs) (by simpa[I.only] using h)]
 | .undef,_ | .cU,_ | .bool _,_ | .int _ _,_ | .aj _,_ | .nilp,_ | .cZ,_ | .cL,_ | .any,_ | .raw _,_ | .nils _,_ | .c0 _,_ | .slice _ _,_ | .tuple _,_ | .ref _,_ | .iface _ _,_ | .ptr _ _,_ | .view _ _ _ _ _,_ | .mref _,_ | .cR _,_ | .cW _ _,_=>by simp[ba]
theorem rm{A A':ab}{p:Nat→Bool}(ho:∀ n,p n=true→A'.o n=A.o n):∀ {xs:List I},I.cJ p xs=true→bE false A' xs=bE false A xs
 | [],_=>rfl
 |x::xs,h=>by
  simp only[I.cJ,Z0] at h;simp only[bE,L5 ho h.1,rm ho h.2]
end
theorem BU{p:Nat→Bool}{f:ay→I} : ∀ {xs:List ay},(∀ x∈xs,(f x).only p=true)→I.cJ p (xs.map f)=true
 | [],_=>rfl
 |x::xs,h=>by
  simp only[Z3,I.cJ,Z0];exact ⟨h x (by simp),BU fun y hy=>h y (by simp[hy])⟩
theorem Vs{A A':ab}{p:Nat→Bool}(ho:∀ n,p n=true→A'.o n=A.o n){x:I}(hx:x.only p=true):fK A' x=fK A x:=by
 cases x with
 |mref n=>simp only[fK];rw[ho n (by simpa[I.only] using hx)]
 |raw v=>cases v <;>first | rfl | (rename_i o;cases o <;>rfl)
 |_=>rfl
theorem WZ{A A':ab}{op:br}{xs:List Nat}{p:Nat→Bool}(hm:lS op=some xs)(h:di A A' op.cg)(hx:∀ s∈xs,(A.t s).only p=true)(ho:∀ n,p n=true→A'.o n=A.o n):aU A' op=aU A op:=by
 have jz:op.fF=0→aU A' op=aU A op:=fun hc=>vM hc h;have dl:=fun {x:I} (hx:x.only p=true)=>Lf ho hx;unfold lS at hm;split at hm
 ·rename_i s x;simp only[v6] at hm;subst hm;have e:=h x (by simp[br.cg,ay.sl]);simp only[aU,af,e,dl (hx x (by simp))]
 ·rename_i f off x;simp only[v6] at hm;subst hm;have e:=h x (by simp[br.cg,ay.sl]);have k:=hx x (by simp);simp only[aU,af,e];generalize A.t x=u at k ⊢;cases u with
  |ptr n q=>simp only[dl (x:=.ptr n q) k]
  |ref c=>cases c <;>rfl
  |_=>rfl
 ·rename_i n esz x i;simp only[v6] at hm;subst hm;have e:=h x (by simp[br.cg,ay.sl]);have ei:=cB (x:=i) (fun m hm=>h m (by simp[br.cg,hm]));have k:=hx x (by simp);simp only[aU,ei];generalize af A i=w;simp only[af,e];generalize A.t x=u at k ⊢;cases u with
  |ptr n q=>simp only[dl (x:=.ptr n q) k]
  |ref c=>cases c <;>rfl
  |_=>rfl
 ·rename_i esz x i;simp only[v6] at hm;subst hm;have e:=h x (by simp[br.cg,ay.sl]);have ei:=cB (x:=i) (fun m hm=>h m (by simp[br.cg,hm]));have k:=hx x (by simp);simp only[aU,ei];generalize af A i=w;simp only[af,e];generalize A.t x=u at k ⊢;cases u with
  |own n l=>simp only[ho n (by simpa[I.only] using k)]
  |view n q=>simp only[dl (x:=.ptr n q) (by simpa[I.only] using k)]
  |_=>rfl
 ·rename_i x;simp only[v6] at hm;subst hm;have e:=h x (by simp[br.cg,ay.sl]);have k:=hx x (by simp);simp only[aU,af,e];generalize A.t x=u at k ⊢;cases u with
  |own n l=>simp only[ho n (by simpa[I.only] using k)]
  |_=>rfl
 ·rename_i n esz x;simp only[v6] at hm;subst hm;have e:=h x (by simp[br.cg,ay.sl]);have k:=hx x (by simp);simp only[aU,af,e];generalize A.t x=u at k ⊢;cases u with
  |ptr n q=>simp only[dl (x:=.ptr n q) k]
  |ref c=>cases c <;>rfl
  |_=>rfl
 ·rename_i esz x lo hi mx;simp only[v6] at hm;subst hm;have e:=h x (by simp[br.cg,ay.sl]);have e1:=nO (x:=lo) (fun m hm=>h m (by simp[br.cg,hm]));have e2:=nO (x:=hi) (fun m hm=>h m (by simp[br.cg,hm]));have e3:=nO (x:=mx) (fun m hm=>h m (by simp[br.cg,hm]));have k:=hx x (by simp);simp only[aU,e1,e2,e3];generalize lo.map (af A)=w1;generalize hi.map (af A)=w2;generalize mx.map (af A)=w3;simp only[af,e];generalize A.t x=u at k ⊢;cases u with
  |view n q=>simp only[dl (x:=.ptr n q) (by simpa[I.only] using k)]
  |_=>rfl
 ·rename_i x;simp only[v6] at hm;subst hm;have e:=h x (by simp[br.cg,ay.sl]);have k:=hx x (by simp);simp only[aU,af,e];generalize A.t x=u at k ⊢;cases u with
  |view n q=>simp only[dl (x:=.ptr n q) (by simpa[I.only] using k)]
  |_=>rfl
 ·rename_i ty z ok x kk;simp only[v6] at hm;subst hm;have e:=h x (by simp[br.cg,ay.sl]);have ek:=cB (x:=kk) (fun m hm=>h m (by simp[br.cg,hm]));have k:=hx x (by simp);simp only[aU,ek];generalize af A kk=w;simp only[af,e,Vs ho k]
 ·rename_i x;simp only[v6] at hm;subst hm;have e:=h x (by simp[br.cg,ay.sl]);have k:=hx x (by simp);simp only[aU,af,e];generalize A.t x=u at k ⊢;cases u with
  |own n l=>simp only[cP,ho n (by simpa[I.only] using k)]
  |view n q=>simp only[cP,dl (x:=.ptr n q) (by simpa[I.only] using k)]
  |_=>rfl
 ·rename_i esz ps;split at hm
  case isFalse=>cases hm
  rename_i hall;simp only[v6] at hm;subst hm;have hev:ps.map (af A')=ps.map (af A):=j5 h;have hon:I.cJ p (ps.map (af A))=true:=BU fun x hx'=>by
   have h1:=zz6.1 hall x hx';cases x with
   |c _=>cases h1
   |t s=>exact hx s (by simp only[iC,List.mem_flatMap];exact ⟨_,hx',by simp[ay.sl]⟩)
  simp only[aU,hev,rm ho hon]
 ·rfl
 ·split at hm
  ·rename_i hc;exact jz hc.1
  ·cases hm
theorem xt{ar:dU}{A:ab}{g:au}{p:Nat→Bool}(hi:dC ar A)(h:qL ar g p=true):∃ xs,lS g.op=some xs∧∀ s∈xs,(A.t s).only p=true:=by
 unfold qL at h;split at h
 case h_2=>cases h
 rename_i xs hm;refine ⟨xs,hm,fun s hs' =>?_⟩;have h1:=zz6.1 h s hs';split at h1
 case h_2=>cases h1
 rename_i ns hn;exact jm (fun n h2=>zz6.1 h1 n (by simpa using h2)) _ (hi s ns hn)
theorem fg.vi{A A':ab}{g:au}{v:I}{xs:List Nat}{p:Nat→Bool}(h:fg g A v)(hm:lS g.op=some xs)(ha:di A A' g.cg)(hx:∀ s∈xs,(A.t s).only p=true)(ho:∀ n,p n=true→A'.o n=A.o n):fg g A' v:=by
 rcases h with ⟨h,rfl⟩ | ⟨h,k⟩
 ·exact .inl ⟨og ha h,rfl⟩
 ·exact .inr ⟨lY ha h,by rw[WZ hm (au.iO ha) hx ho];exact k⟩
theorem fg.rL{ar:dU}{A:ab}{g:au}{v:I}(hi:dC ar A)(hg:gV ar g=true)(h:fg g A v):dC ar (A.aN g.dst v):=by
 rcases h with ⟨_,rfl⟩ | ⟨_,k⟩
 ·exact hi.put (fun _=>rfl) fun _ _ _ _=>rfl
 ·exact hi.put (fun _=>rfl) (BL hi hg k)
theorem fg.cw{A A':ab}{g:au}{v:I}(h:fg g A v)(hu:dj A A')(ha:di A A' g.cg):fg g A' v:=by
 rcases h with ⟨h,rfl⟩ | ⟨h,k⟩
 ·exact .inl ⟨og ha h,rfl⟩
 ·exact .inr ⟨lY ha h,Ca hu (au.iO ha) k⟩
theorem AR{ar:dU}{g h:au}(hi:mz hs ar g h=true):hZ g.op=true∧mM hs ar g h=true∧(∀ d,g.dst=some d→d∉h.cg)∧(∀ d,g.dst=some d→h.dst≠some d)∧(∀ d,h.dst=some d→d∉g.cg):=by
 simp only[mz,Z0] at hi;obtain ⟨h1,h2,h3,h4⟩:=hi;refine ⟨h1,h2,fun d hd =>?_,fun d hd =>?_,fun d hd =>?_⟩
 ·rw[hd] at h3;simp at h3;exact h3.1
 ·rw[hd] at h3;simp at h3;exact h3.2
 ·rw[hd] at h4;simpa using h4
theorem xz{aB:Bool}{A A':ab}{ρ:List (Nat×Nat)}{os:List (Nat×ai)}(hu:dj A A'):∀ {xs cs:List I},fO aB A ρ os xs cs→fO aB A' ρ os xs cs
 | [],[],_=>trivial
 |x::xs,c::cs,h=>⟨h.1.imp id fun h=>zZ hu h,xz hu h.2⟩
 | [],_::_,h=>h.elim
 |_::_,[],h=>h.elim
theorem Vz{A:ab}{d:Option Nat}{v:I}{ts:List (Nat×I)}{os:List (Nat×ai)}(h:A.aN d v=aw ts os):∃ ts2,A=aw ts2 os∧∀ X:List (Nat×ai),(aw ts2 X).aN d v=aw ts X:=by
 cases d with
 |none=>exact ⟨ts,h,fun _=>rfl⟩
 |some d =>
  have ht:∀ k,(A.aN (some d) v).t k=b8 ts k:=fun k=>by rw[h];rfl
  have ho:A.o=aD os:=by
   have:(A.aN (some d) v).o=aD os:=by rw[h];rfl
   rwa [gn] at this
  refine ⟨(d,A.t d)::ts,?_,fun X =>?_⟩
  ·cases A with
   |mk t o =>
    simp only[aw,ab.mk.injEq];refine ⟨funext fun k =>?_,ho⟩;have:=ht k;simp only[ab.aN,ab.put] at this;simp only[b8];by_cases hk:k=d
    ·subst hk;simp
    ·rw[if_neg hk] at this;have hk':¬ d=k:=fun e=>hk e.symm;simp only[hk,if_false];exact this
  ·simp only[ab.aN,ab.put,aw,ab.mk.injEq,and_true]
   funext k
   have:=ht k;simp only[ab.aN,ab.put] at this;by_cases hk:k=d
   ·subst hk;simp at this ⊢;exact this
   ·have hk':¬ d=k:=fun e=>hk e.symm;simp only[b8,hk,if_false]
theorem WU{ρ:List (Nat×Nat)}{os0 os':List (Nat×ai)}{r:I}(hb:dv false ρ [] os0 r os'){n:Nat}{x:ai}(hx:aD os0 n=some x):aD (cX ρ os'++os0) n=some x:=by
 rw[r3];cases hp:pre ρ os' n with
 |none=>exact hx
 |some m =>
  obtain ⟨h1,h2⟩:=lh hp;have:=(hb.oc m h1 (by simp[aI,aD])).1;rw[h2,hx] at this;cases this
theorem bH.H3{A B:ab}{j:au}{v:I}{f:FuncId}{args:List ay}{dst:Option Nat}{rest:List au}(hj:hZ j.op=true)(hv:fg j A v)(hB:B=A.aN j.dst v)(hf:hs.contains f=false)(hag:di A B (iC args))(hd:∀ d,j.dst=some d→dst≠some d)(hr:∀ d,dst=some d→d∉j.cg)
  (h:bH P Y hs K (.call f (args.map (af B)) (bE true B (args.map (af B))) (bE false B (args.map (af B))) dst rest B)):bH P Y hs K (.call f (args.map (af A)) (bE true A (args.map (af A))) (bE false A (args.map (af A))) dst (j::rest) A):=by
 have eo:B.o=A.o:=by rw[hB,gn]
 have cw:dj B A:=fun n x hx=>by rwa [←eo]
 have up':dj A B:=fun n x hx=>by rwa [eo]
 have eav:args.map (af B)=args.map (af A):=j5 hag;rw[eav] at h;have cont:∀ r:I,bH P Y hs K (ao rest (B.aN dst r))→bH P Y hs K (ao (j::rest) (A.aN dst r)):=fun r hw=>by
  have h1:fg j (A.aN dst r) v:=hv.cw (fun n x hx=>by rwa [gn]) (lj hr);rw[h1.to hj,oq (fun d hd'=>fun e=>hd d e hd'),←hB];exact hw
 generalize e1:bE true B (args.map (af A))=a1 at h;generalize e2:bE false B (args.map (af A))=a2 at h;generalize hBm:B=B0 at h;cases h with
 |flat r hc hfl hw =>
  subst hBm;rw[j9 cw e1];exact .flat r hc hfl (cont r hw)
 |lead r hc hw =>
  subst hBm;rw[j9 cw e2];exact .lead r hc (cont r hw)
 |bx ρ cargs post hc hg ha hb hw =>
  rename_i ts os0;rw[hB] at hBm;obtain ⟨ts2,hA,hts⟩:=Vz hBm;have hA':=hA;clear cont;subst hA;refine .bx ρ cargs post hc hg (xz (A:=aw ts os0) (A':=aw ts2 os0) (fun n x hx=>hx) ha) hb fun r os' hp =>?_;have h1:fg j ((aw ts2 (cX ρ os'++os0)).aN dst (r.aS (bq ρ))) v:=hv.cw (fun n x hx=>by
   rw[gn];exact WU (hb r os' hp) hx) (fun k hk=>by
    have:=lj (A:=aw ts2 (cX ρ os'++os0)) (v:=r.aS (bq ρ)) hr k hk;rw[this];rfl)
  rw[h1.to hj,oq (fun d hd'=>fun e=>hd d e hd'),hts];exact hw r os' hp
 |vx aB ρ os cargs post hfs =>
  rw[hf] at hfs;cases hfs
theorem bH.qo{ar:dU}{A:ab}{j g:au}{rest:List au}(hinv:dC ar A)(hi:mz hs ar j g=true)(hw:bH P Y hs K (ao (j::g::rest) A)):bH P Y hs K (ao (g::j::rest) A):=by
 obtain ⟨hj,hl,i1,i2,i3⟩:=AR hi;obtain ⟨v,hv,hw⟩:=bH.wy hj hw;have ag:di (A.aN j.dst v) A g.cg:=(lj i1).symm;have ag':di A (A.aN j.dst v) g.cg:=lj i1;have cw:dj (A.aN j.dst v) A:=fun n x hx=>by rwa [gn] at hx
 have up':∀ (d:Option Nat) (u:I),dj A (A.aN d u):=fun d u n x hx=>by rwa [gn]
 by_cases hsg:hZ g.op=true
 ·obtain ⟨u,hu,hw⟩:=bH.wy hsg hw;rw[(hu.cw cw ag).to hsg,(hv.cw (up' _ _) (lj i3)).to hj,←oq i2];exact hw
 ·-- the guard
  have guard:(fx (A.aN j.dst v) g∧ao (g::rest) (A.aN j.dst v)=ao rest ((A.aN j.dst v).aN g.dst .undef))∨(pass (A.aN j.dst v) g∧ao (g::rest) (A.aN j.dst v)=aW (A.aN j.dst v) g.dst g.op rest (ao rest))∨ao (g::rest) (A.aN j.dst v)=.fail:=by
   cases hg:g.guard with
   |none=>exact .inr (.inl ⟨by simp only[pass,hg],by simp only[ao,hg]⟩)
   |some tb =>
    obtain ⟨t,b⟩:=tb;cases ht:(A.aN j.dst v).t t with
    |bool b' =>
     by_cases hbb:b'=b
     ·subst hbb;have hp:pass (A.aN j.dst v) g:=by simp only[pass,hg,ht]
      exact .inr (.inl ⟨hp,mn hp⟩)
     ·have hn:fx (A.aN j.dst v) g:=by simp only[fx,hg];exact .inl (by rw[ht,tW hbb])
      exact .inl ⟨hn,qK hn⟩
    |undef =>
     have hn:fx (A.aN j.dst v) g:=by simp only[fx,hg];exact .inr ht
     exact .inl ⟨hn,qK hn⟩
    |_=>exact .inr (.inr (by simp only[ao,hg,ht]))
  rcases guard with ⟨hn,he⟩ | ⟨hp,he⟩ | he
  ·rw[he] at hw;rw[qK (og ag hn),(hv.cw (up' _ _) (lj i3)).to hj,←oq i2];exact hw
  ·rw[he] at hw;rw[mn (lY ag hp)];obtain ⟨dst,op,gd⟩:=g;simp only at hw hsg i2 i3 ⊢;cases op with
   |alloc z =>
    cases dst with
    |none=>simp only[aW] at hw;cases hw
    |some d =>
    simp only[aW] at hw ⊢;split at hw
    case h_2=>cases hw
    rename_i ho;rw[gn] at ho;simp only[ho];have h1:fg j ((A.aQ d (.box z)).put d (.ptr d [])) v:=hv.cw (fun n y hy=>by
     have:n≠d:=fun he=>by rw[he,ho] at hy;cases hy
     simp only[ab.put,ab.aQ,this,if_false];exact hy) (fun k hk=>by
     have:k≠d:=fun he=>i3 d rfl (he▸hk);simp only[ab.put,ab.aQ,this,if_false])
    rw[h1.to hj];have e:((A.aN j.dst v).aQ d (.box z)).put d (.ptr d [])=((A.aQ d (.box z)).put d (.ptr d [])).aN j.dst v:=by
     cases hgd:j.dst with
     |none=>rfl
     |some e =>
      have hne:e≠d:=fun he=>i2 e hgd (by rw[he]);simp only[ab.aN,ab.put,ab.aQ,ab.mk.injEq,and_true]
      funext k
      by_cases h1:k=e <;>by_cases h2:k=d <;>simp_all
    rw[←e];exact hw
   |box x =>
    have ex:af (A.aN j.dst v) x=af A x:=cB (au.iO ag');cases dst with
    |none=>simp only[aW] at hw;cases hw
    |some d =>
    simp only[aW] at hw ⊢;split at hw
    case h_2=>cases hw
    rename_i ho;rw[gn] at ho;simp only[ho];rw[ex] at hw;split at hw
    case isFalse=>cases hw
    rename_i hval;rw[if_pos hval];have h1:fg j ((A.aQ d (.box (af A x))).put d (.ptr d [])) v:=hv.cw (fun n y hy=>by
     have:n≠d:=fun he=>by rw[he,ho] at hy;cases hy
     simp only[ab.put,ab.aQ,this,if_false];exact hy) (fun k hk=>by
     have:k≠d:=fun he=>i3 d rfl (he▸hk);simp only[ab.put,ab.aQ,this,if_false])
    rw[h1.to hj];have e:((A.aN j.dst v).aQ d (.box (af A x))).put d (.ptr d [])=((A.aQ d (.box (af A x))).put d (.ptr d [])).aN j.dst v:=by
     cases hgd:j.dst with
     |none=>rfl
     |some e =>
      have hne:e≠d:=fun he=>i2 e hgd (by rw[he]);simp only[ab.aN,ab.put,ab.aQ,ab.mk.injEq,and_true]
      funext k
      by_cases h1:k=e <;>by_cases h2:k=d <;>simp_all
    rw[←e];exact hw
   |eE x =>
    have ex:af (A.aN j.dst v) x=af A x:=cB (au.iO ag');simp only[aW] at hw ⊢;rw[ex] at hw;cases hse:lv (af A x) with
    |none=>rw[hse] at hw;simp only[gZ] at hw;cases hw
    |some ys =>
    rw[hse] at hw;cases dst with
    |none=>simp only[gZ] at hw;cases hw
    |some d =>
    simp only[gZ] at hw ⊢;rw[gn] at hw;split at hw
    case h_2=>cases hw
    rename_i ho;refine .any fun m hm =>?_;have hw:=hw.qJ m hm;generalize hbx:ai.box (.agg (ys++List.replicate m (.int .u8 0)))=aB at hw ⊢;generalize hvw:I.view d [] 1 0 ys.length=vw at hw ⊢;have h1:fg j ((A.aQ d aB).aN (some d) vw) v:=hv.cw (fun n y hy=>by
     have:n≠d:=fun he=>by rw[he,ho] at hy;cases hy
     simp only[ab.aN,ab.put,ab.aQ,this,if_false];exact hy) (fun k hk=>by
     have:k≠d:=fun he=>i3 d rfl (he▸hk);simp only[ab.aN,ab.put,ab.aQ,this,if_false])
    rw[h1.to hj];have e:((A.aN j.dst v).aQ d aB).aN (some d) vw=((A.aQ d aB).aN (some d) vw).aN j.dst v:=by
     cases hgd:j.dst with
     |none=>rfl
     |some e =>
      have hne:e≠d:=fun he=>i2 e hgd (by rw[he]);simp only[ab.aN,ab.put,ab.aQ,ab.mk.injEq,and_true]
      funext k
      by_cases h1:k=e <;>by_cases h2:k=d <;>simp_all
    rw[←e];exact hw
   |call f args =>
    simp only[aW] at hw ⊢;refine bH.H3 hj hv rfl (by simpa[mM,n9] using hl) (au.iO ag') i2 i3 hw
   |aV s y u =>
    cases dst with
    |some d=>simp only[aW] at hw;cases hw
    |none =>
    have ey:af (A.aN j.dst v) y=af A y:=cB (au.iO ag').l;have eu:af (A.aN j.dst v) u=af A u:=cB (au.iO ag').r;simp only[aW] at hw ⊢;rw[ey,eu,gn] at hw;cases hx:af A y <;>simp only[hx] at hw ⊢ <;>try (cases hw;done)
    rename_i n q;cases ho:A.o n with
    |none=>rw[ho] at hw;cases hw
    |some ob =>
    rw[ho] at hw;cases ob <;>simp only at hw ⊢ <;>try (cases hw;done)
    rename_i b;cases hb:b.at q with
    |none=>rw[hb] at hw;cases hw
    |some old =>
    rw[hb] at hw;simp only at hw ⊢;split at hw
    case isFalse=>cases hw
    rename_i hok;rw[if_pos hok];have h1:fg j (A.aQ n (.box (b.dp q (af A u)))) v:=by
     have none0:lS j.op=some []→fg j (A.aQ n (.box (b.dp q (af A u)))) v:=fun hm=>hv.vi (p:=fun _=>false) hm (fun _ _=>rfl) (fun s hs'=>by cases hs') (fun m hm=>by cases hm);cases y with
     |c y =>
      simp only[mM,n9,hZ,Bool.false_or] at hl;split at hl
      ·rename_i hm;exact none0 hm
      ·cases hl
     |t y =>
      simp only[mM,n9,hZ,Bool.false_or] at hl;split at hl
      ·rename_i hm;exact none0 hm
      ·split at hl
       case h_2=>cases hl
       rename_i ms hms;obtain ⟨xs,hm,hx2⟩:=xt hinv hl;refine hv.vi hm (fun _ _=>rfl) hx2 fun m hm2 =>?_;have hn:=hinv y ms hms;simp only[af] at hx;rw[hx] at hn;have:m≠n:=fun e=>by subst e;simp[I.only] at hn hm2;exact hm2 hn
       simp only[ab.aQ,if_neg this]
    rw[h1.to hj];have e:(A.aN j.dst v).aQ n (.box (b.dp q (af A u)))=(A.aQ n (.box (b.dp q (af A u)))).aN j.dst v:=by cases j.dst <;>rfl
    rw[←e];exact hw
   |dD e esz bytes z s x =>
    have hag:di A (A.aN j.dst v) (s.sl++x.sl):=au.iO ag';have he2:aW (A.aN j.dst v) dst (.dD e esz bytes z s x) rest (ao rest)=aW A dst (.dD e esz bytes z s x) (j::rest) fun B=>ao rest (B.aN j.dst v):=by
     cases hjd:j.dst with
     |none=>rfl
     |some d =>
      rw[hjd] at hag;exact Ga (fun e=>i2 d hjd e) hag rest (j::rest) (ao rest)
    rw[he2] at hw;have jB:∀ B,qz A dst (af A s) B→ao (j::rest) B=ao rest (B.aN j.dst v):=fun B hB=>by
     have hagB:di A B j.cg:=fun k hk=>hB.1 k fun e=>i3 k e hk;have:fg j B v:=by
      simp only[mM,n9,hZ,Bool.false_or,Bool.or_eq_true] at hl;rcases hl with hl | hl
      ·obtain ⟨xs,hm,hx2⟩:=xt hinv hl;exact hv.vi hm hagB hx2 fun m hm2=>by cases hm2
      ·have:=nk hinv hl;exact hv.cw (hB.2 (by simpa using this)) hagB
     rw[this.to hj]
    rcases xv A dst e esz bytes z s x (j::rest) with h1 | ⟨B,h1,h2⟩ | ⟨p,bh,h1,h2⟩
    ·rw[h1] at hw;cases hw
    ·rw[h1] at hw ⊢;rw[jB B h2];exact hw
    ·rw[h1] at hw ⊢;exact .any fun m hm=>by rw[jB _ (h2 m)];exact hw.qJ m hm
   |_=>first | exact absurd rfl hsg | (simp[mM,n9,hZ] at hl)
  ·rw[he] at hw;cases hw
theorem bH.oY{ar:dU}{g:au} : ∀ {l:List au} {r:List au} {A:ab},dC ar A→(∀ j∈l,mz hs ar j g=true∧gV ar j=true)→bH P Y hs K (ao (l++g::r) A)→bH P Y hs K (ao (g::(l++r)) A)
 | [],r,A,_,_,h=>h
 |j::l,r,A,hinv,hi,h=>by
  have hj:=(AR (hi j (by simp)).1).1;obtain ⟨v,hv,h2⟩:=bH.wy (g:=j) (rest:=l++g::r) hj h;have h3:=bH.oY (l:=l) (r:=r) (hv.rL hinv (hi j (by simp)).2) (fun k hk=>hi k (by simp[hk])) h2;refine bH.qo hinv (hi j (by simp)).1 ?_;rw[hv.to hj];exact h3
end
def sj:List Nat→Bool
 | []=>true
 |a::l => !l.contains a&&sj l
def qF(hs:List FuncId)(ar:dU)(gs:List au)(cl:List Nat):List Nat→List Nat→Bool
 |_,[]=>true
 |before,i::σ=>(before.all fun j=>(cl.getD i 0).testBit j||mz hs ar (gs.getD j default) (gs.getD i default))&&qF hs ar gs cl (i::before) σ
def sD(hs:List FuncId)(ar:dU)(on:List (List Nat))(gs:List au)(cl:List Nat)(σ:List Nat):Bool :=
 (Nat.beq σ.length gs.length&&(sj σ&&(σ.all (fun i=>decide (i<gs.length))&&((List.range gs.length).all (fun i=>σ.contains i)&&gs.all fun g=>sx g.op&&gV ar g))))&&(qF hs ar gs cl [] σ&&(List.range gs.length).all fun i=>(on.getD i []).all (fun k=>decide (k<i))&&Nat.beq (cl.getD i 0) (nl cl (on.getD i [])))
theorem Bx:∀ {l:List Nat},sj l=true→l.Nodup
 | [],_=>List.nodup_nil
 |a::l,h=>by
  simp only[sj,Z0,Bool.not_eq_true',List.contains_eq_mem,decide_eq_false_iff_not] at h;exact List.nodup_cons.2 ⟨h.1,Bx h.2⟩
theorem xn{hs:List FuncId}{ar:dU}{gs:List au}{cl:List Nat} : ∀ {σ before:List Nat},qF hs ar gs cl before σ=true→∀ s1 i s2,σ=s1++i::s2→∀ j,j∈before∨j∈s1→(cl.getD i 0).testBit j=true∨mz hs ar (gs.getD j default) (gs.getD i default)=true
 | [],_,_,s1,i,s2,e,_,_=>by cases s1 <;>cases e
 |a::σ,before,h,s1,i,s2,e,j,hj=>by
  simp only[qF,Z0,zz6,Bool.or_eq_true] at h;cases s1 with
  |nil =>
   simp only[Y6,Y7] at e;obtain ⟨rfl,rfl⟩:=e;rcases hj with hj | hj
   ·exact h.1 j hj
   ·cases hj
  |cons b s1 =>
   simp only[Y3,Y7] at e;obtain ⟨rfl,rfl⟩:=e;refine xn h.2 s1 i s2 rfl j ?_;rcases hj with hj | hj
   ·exact .inl (List.mem_cons_of_mem _ hj)
   ·rcases zy0.1 hj with hj | hj
    ·exact .inl (by rw[hj];exact List.mem_cons_self)
    ·exact .inr hj
def gY(σ:List Nat)(listed:Array Bool):List Nat:=σ.filter fun i => !listed.getD i true
def mP(gs:List au)(σ:List Nat)(listed:Array Bool):List au:=(gY σ listed).map fun i=>gs.getD i default
theorem Xr{σ:List Nat}{listed:Array Bool}{i:Nat}(hn:σ.Nodup)(hi:i∈σ)(hl:i<listed.size)(hu:listed.getD i true=false):∃ s1 s2,σ=s1++i::s2∧gY σ listed=(s1.filter fun j => !listed.getD j true)++i::(s2.filter fun j => !listed.getD j true) ∧
  gY σ (listed.setIfInBounds i true)=(s1.filter fun j => !listed.getD j true)++(s2.filter fun j => !listed.getD j true):=by
 obtain ⟨s1,s2,rfl⟩:=List.append_of_mem hi;have same:∀ j,j≠i→(listed.setIfInBounds i true).getD j true=listed.getD j true:=fun j hj=>getD_set_ne true (Ne.symm hj);have jC:(listed.setIfInBounds i true).getD i true=true:=by simp[hl]
 have hnd:=List.nodup_append.1 hn;have h1:∀ j∈s1,j≠i:=fun j hj=>hnd.2.2 j hj i List.mem_cons_self;have h2:∀ j∈s2,j≠i:=fun j hj e=>(List.nodup_cons.1 hnd.2.1).1 (e▸hj);refine ⟨s1,s2,rfl,?_,?_⟩
 ·simp only[gY,List.filter_append,List.filter_cons,hu,Bool.not_false,if_true]
 ·simp only[gY,List.filter_append,List.filter_cons,jC,Bool.not_true,Z5,if_false]
  congr 1
  ·exact List.filter_congr fun j hj=>by rw[same j (h1 j hj)]
  ·exact List.filter_congr fun j hj=>by rw[same j (h2 j hj)]
structure xi (hs:List FuncId) (ar:dU) (l:List Oper) (gs:List au) (σ:List Nat):Prop where
 VI:σ.Nodup
 lt:∀ i∈σ,i<gs.length
 all:∀ i,i<gs.length→i∈σ
 ok:∀ g∈gs,sx g.op=true∧gV ar g=true
 len:σ.length=gs.length
 kN:∀ i o,l[i]?=some o→∀ k∈dG o,k<i
 u4:∀ (S:Nat→Prop),(∀ i o,l[i]?=some o→S i→∀ k∈dG o,S k)→∀ s1 i s2 o,σ=s1++i::s2→l[i]?=some o→(∀ k∈dG o,S k)→∀ j∈s1,¬ S j→mz hs ar (gs.getD j default) (gs.getD i default)=true
theorem WQ{hs:List FuncId}{ar:dU}{l:List Oper}{gs:List au}{cl σ:List Nat}(hlen:gs.length=l.length)(h:sD hs ar (l.map dG) gs cl σ=true):xi hs ar l gs σ:=by
 simp only[sD,Z0,zz6,decide_eq_true_eq,List.mem_range,List.contains_eq_mem] at h;obtain ⟨⟨h1,h2,h3,h4,h5⟩,h6,h7⟩:=h;have bg:∀ i o,l[i]?=some o→(∀ k∈dG o,k<i)∧(∀ j,(cl.getD i 0).testBit j=true→j∈dG o∨∃ k∈dG o,(cl.getD k 0).testBit j=true):=by
  intro i o ho;have hi:i<l.length:=(Z6.1 ho).1;have h8:=h7 i (by omega);have hon:(l.map dG).getD i []=dG o:=by simp[Y8,ho]
  rw[hon] at h8;have hb:=Nat.eq_of_beq_eq_true h8.2;exact ⟨h8.1,fun j hj=>wO (by rw[←hb];exact hj)⟩
 refine ⟨Bx h2,h3,h4,h5,Nat.eq_of_beq_eq_true h1,fun i o ho=>(bg i o ho).1,?_⟩;intro S hS s1 i s2 o e ho hon j hj hnj;have key:∀ n i o,i≤n→l[i]?=some o→(∀ k∈dG o,S k)→∀ j,(cl.getD i 0).testBit j=true→S j:=by
  intro n
  induction n with
  |zero =>
   intro i o hi ho hon j hj;obtain ⟨h8,h9⟩:=bg i o ho;rcases h9 j hj with h | ⟨k,hk,_⟩
   ·exact hon j h
   ·have:=h8 k hk;omega
  |succ n ih =>
   intro i o hi ho hon j hj;obtain ⟨h8,h9⟩:=bg i o ho;rcases h9 j hj with h | ⟨k,hk,hjk⟩
   ·exact hon j h
   ·have hki:=h8 k hk;have hkl:k<l.length:=Nat.lt_trans hki (Z6.1 ho).1;obtain ⟨ok,hok⟩:∃ ok,l[k]?=some ok:=⟨l[k],Y1 hkl⟩
    exact ih k ok (by omega) hok (hS k ok hok (hon k hk)) j hjk
 rcases xn h6 s1 i s2 e j (.inr hj) with h | h
 ·exact absurd (key i i o (Z7 _) ho hon j h) hnj
 ·exact h
section
variable {c:b9}
theorem Tr{K:ab→Prop}{hs:List FuncId}{ar:dU}{bf:Array Oper}{Q:Exit→Act→World→Prop}{o:Oper}{g:au}{rest:List au}{A:ab}{a:Act}{w:World}{Kw:Act→World→Prop}(hg:kR c.P c.n bf o=some g)(hi:dC ar A)(ho:sx g.op=true∧gV ar g=true)(hwp:bH c.P c.Y hs K (ao (g::rest) A))(hs':bz c A a w)
  (hK:∀ B a' w',bH c.P c.Y hs K (ao rest B)→dC ar B→bz c B a' w'→Kw a' w'):if Region.wanted o (yielded bf a.tmps) then o.wpIn c.bh 9 c.P a w Kw Q else (∀ f,o.about c.P w a.eval=some f→c.bh.fn f)∧Kw (a.put o.dst undef) w:=by
 obtain ⟨h1,h2,h3,h4⟩:=nF hg;have step:bH c.P c.Y hs K (aW A g.dst g.op rest (ao rest))→o.wpIn c.bh 9 c.P a w Kw Q:=fun h =>
  rB h1 h2.symm (by rw[h2];exact h3) (bH.one (Y:=c.Y) hi ho.1 ho.2 h) hs' (fun B a' w' hw hs2=>by
   cases hw with
   |done hk=>exact hK B a' w' hk.1 hk.2 hs2)
 simp only[ao] at hwp;rcases h4 with ⟨h5,h6⟩ | ⟨j,b,t,h5,h6,h7⟩
 ·rw[h6] at hwp;have hw:Region.wanted o (yielded bf a.tmps)=true:=by simp[Region.wanted,h5]
  rw[hw,if_pos rfl];exact step hwp
 ·rw[h7] at hwp;simp only at hwp;split at hwp
  ·rename_i b' hb';rw[rH hs' h5 h6 hb'];split at hwp
   ·rename_i hbb;subst hbb;simp only[BEq.rfl,if_true];exact step hwp
   ·rename_i hbb;have:(b'==b)=false:=by simpa using hbb
    rw[this];simp only[Z5,if_false];exact ⟨fun f _=>kX c f,hK _ _ _ hwp (hi.put (fun _=>rfl) fun _ _ _ _=>rfl) (by rw[h2];exact hs'.l8 h3)⟩
  ·rename_i hb';rw[rI hs' h5 h6 hb'];simp only[Z5,if_false];exact ⟨fun f _=>kX c f,hK _ _ _ hwp (hi.put (fun _=>rfl) fun _ _ _ _=>rfl) (by rw[h2];exact hs'.l8 h3)⟩
  ·cases hwp
theorem FY{K:ab→Prop}{fs:List FuncId}{ar:dU}{bf:Array Oper}{gs:List au}{σ:List Nat}{Q:Exit→Act→World→Prop}(hQ:∀ B a w,K B→bz c B a w→Q .normal a w)(hgs:fh c.P c.n bf bf.toList=some gs)(hd:xi fs ar bf.toList gs σ) :
  ∀ (fuel:Nat) (listed:Array Bool) (A:ab) (a:Act) (w:World),listed.size=bf.size→(∀ i o,bf.toList[i]?=some o→listed.getD i false=true→∀ k∈dG o,listed.getD k false=true)→(gY σ listed).length≤fuel →
   dC ar A→bH c.P c.Y fs K (ao (mP gs σ listed) A)→bz c A a w→wpAnyIn c.bh 9 c.P .any bf Q fuel listed a w:=by
 obtain ⟨hlen,hat⟩:=lK hgs;have onOf_mem:∀ (o:Oper) (e:Edge),e∈o.after→Region.binds .any e=true→e.on∈dG o:=fun o e he hb=>by
  simp only[dG,zz3,List.mem_filter];exact ⟨e,⟨by simpa using he,hb⟩,rfl⟩
 have of_onOf:∀ (o:Oper) (k:Nat),k∈dG o→∃ e∈o.after,Region.binds .any e=true∧e.on=k:=fun o k hk=>by
  simp only[dG,zz3,List.mem_filter] at hk;obtain ⟨e,⟨h1,h2⟩,h3⟩:=hk;exact ⟨e,by simpa using h1,h2,h3⟩
 have hgl:gs.length=bf.size:=by rw[hlen,zz5]
 have last:∀ (listed:Array Bool) (A:ab) (a:Act) (w:World),listed.size=bf.size→Region.ready .any bf listed=[]→bH c.P c.Y fs K (ao (mP gs σ listed) A)→bz c A a w→Q .normal a w:=by
  intro listed A a w hsz hr hwp hs;have hnone:gY σ listed=[]:=by
   have all:∀ n,∀ i,i<n→i<bf.size→listed.getD i true=true:=by
    intro n
    induction n with
    |zero=>intro i hi;omega
    |succ n ih =>
     intro i hi his;cases hb:listed.getD i true with
     |true=>rfl
     |false =>
      exfalso
      have ho:bf[i]?=some bf[i]:=zy6 his;have:i∈Region.ready .any bf listed:=mem_ready.2 ⟨hb,bf[i],ho,fun e he hbd=>by
       have hlt:=hd.kN i bf[i] (by simp) e.on (onOf_mem _ e he hbd);have h1:=ih e.on (by omega) (by omega);have h2:e.on<listed.size:=by omega
       simpa[Array.getD_eq_getD_getElem?,h2] using h1⟩
      rw[hr] at this;cases this
   simp only[gY];refine List.filter_eq_nil_iff.2 fun i hi =>?_;have:=all (i+1) i (by omega) (by rw[←hgl];exact hd.lt i hi);simp only[this,Bool.not_true,Z5,not_false_eq_true]
  simp only[mP,hnone,zz0,ao] at hwp;cases hwp with
  |done hk=>exact hQ A a w hk hs
 intro fuel
 induction fuel with
 |zero =>
  intro listed A a w hsz hcl hcnt hinv hwp hs;have hnone:gY σ listed=[]:=List.length_eq_zero_iff.1 (by omega);have hr:Region.ready .any bf listed=[]:=by
   refine List.eq_nil_iff_forall_not_mem.2 fun i hi =>?_;obtain ⟨h1,o,ho,_⟩:=mem_ready.1 hi;have:i∈gY σ listed:=by
    simp only[gY,List.mem_filter,h1,Bool.not_false,and_true];exact hd.all i (by rw[hgl];exact (Y2.1 ho).1)
   rw[hnone] at this;cases this
  exact ⟨hr,last listed A a w hsz hr hwp hs⟩
 |succ fuel ih =>
  intro listed A a w hsz hcl hcnt hinv hwp hs;refine ⟨fun hr=>last listed A a w hsz hr hwp hs,fun i hi =>?_⟩;obtain ⟨hun,o,ho,hall⟩:=mem_ready.1 hi;have hin:i<bf.size:=(Y2.1 ho).1;obtain ⟨s1,s2,hσ,e1,e2⟩:=Xr hd.VI (hd.all i (by omega)) (by omega) hun;have hol:bf.toList[i]?=some o:=by simpa using ho
  obtain ⟨g,hgi,hcg⟩:=hat i o hol;have hon:∀ k∈dG o,listed.getD k false=true:=fun k hk=>by
   obtain ⟨e,h1,h2,h3⟩:=of_onOf o k hk;exact h3▸hall e h1 h2
  have hgd:gs.getD i default=g:=by simp[Y8,hgi]
  have hwp':bH c.P c.Y fs K (ao (g::mP gs σ (listed.setIfInBounds i true)) A):=by
   simp only[mP,e1,zz9,Z3,hgd] at hwp;simp only[mP,e2,zz9];refine bH.oY hinv (fun j hj =>?_) hwp;obtain ⟨k,hk,rfl⟩:=zz3.1 hj;obtain ⟨hk1,hk2⟩:=List.mem_filter.1 hk;have:=hd.u4 (fun k=>listed.getD k false=true) hcl s1 i s2 o hσ hol hon k hk1 (by
    have hks:k<listed.size:=by
     have:=hd.lt k (by rw[hσ];exact List.mem_append_left _ hk1);omega
    simp[Array.getD_eq_getD_getElem?,hks] at hk2 ⊢;exact hk2)
   rw[hgd] at this;refine ⟨this,(hd.ok _ ?_).2⟩;have hkl:=hd.lt k (by rw[hσ];exact List.mem_append_left _ hk1);rw[Y8,Y1 hkl];exact List.getElem_mem _
  unfold wpOpIn;rw[ho];refine Tr hcg hinv (hd.ok g (List.mem_of_getElem? hgi)) hwp' hs fun B a' w' hw hiB hs'=>ih _ B a' w' (by simpa using hsz) ?_ ?_ hiB hw hs'
  ·intro m om hom hm k hk;by_cases hmi:m=i
   ·subst hmi;rw[hol,v6] at hom;subst hom;exact getD_set_true (hon k hk)
   ·rw[getD_set_ne false (Ne.symm hmi)] at hm;exact getD_set_true (hcl m om hom hm k hk)
  ·have:(gY σ listed).length=(gY σ (listed.setIfInBounds i true)).length+1:=by
    rw[e1,e2];simp;omega
   omega
def kl(σ:List Nat)(gs:List au):List au:=σ.map fun i=>gs.getD i default
theorem U.Xo{Q:Exit→ab→Prop}{A:ab}{on:List (List Nat)}{gs:List au}(hs:List FuncId)(ar:dU)(cl σ:List Nat)(hd:sD hs ar on gs cl σ=true)(hi:dC ar A)(h:∀ K:ab→Prop,(∀ B,Q .normal B→K B)→bH c.P c.Y hs K (ao (kl σ gs) A)):U c (.bN (some on) gs) Q A:=by
 intro code hc a w hs';cases code <;>simp only[dL] at hc <;>try (first | (cases hc;done) | ((repeat' split at hc) <;>cases hc;done))
 rename_i id bf draw;split at hc
 ·rename_i gs' hgs;split at hc
  case isFalse=>cases hc
  rename_i hok;simp only[v6,bl.bN.injEq] at hc;obtain ⟨he,rfl⟩:=hc;cases draw with
  |false=>cases he
  |true =>
   simp only[cond_true,v6] at he;subst he;simp only[Bool.not_true,Bool.false_or] at hok;have hp:=WQ (lK hgs).1 hd;refine wpIn_region_any hok (FY (K:=Q .normal) (fun B a w hk hs=>⟨B,hk,hs⟩) hgs hp bf.size (Array.replicate bf.size false) A a _ (by simp) ?_ ?_ hi ?_ ?_)
   ·intro i o _ h
    exfalso
    simp only[Array.getD_eq_getD_getElem?,Array.getElem?_replicate] at h;split at h <;>simp at h
   ·refine Nat.le_trans (List.length_filter_le _ _) ?_;rw[hp.len,(lK hgs).1,zz5];exact Z7 _
   ·have hall:gY σ (Array.replicate bf.size false)=σ:=by
     simp only[gY];refine List.filter_eq_self.2 fun i hi =>?_;have h1:=hp.lt i hi;rw[(lK hgs).1,zz5] at h1;simp[h1]
    simp only[mP,hall];exact h _ fun _ hb=>hb
   ·obtain ⟨D,E,hs'⟩:=hs';exact ⟨D,E,hs'.grow (w' := { w with drawn:=w.drawn+1 }) ⟨rfl,rfl,rfl,Z7 _,fun _ _=>rfl⟩ (fun _ _ h=>h) (fun _ _ h _=>h) (fun b o h=>hs'.cK b o h)⟩
 ·cases hc
def jD(ts:List (Nat×I)):dU→Prop
 | []=>True
 |(s,ns)::ar=>(b8 ts s).only (fun n=>ns.contains n)=true∧jD ts ar
theorem dC.of{ts:List (Nat×I)}{os:List (Nat×ai)}{ar:dU}(h:jD ts ar):dC ar (aw ts os):=by
 intro s ns hn;simp only[aw]
 induction ar with
 |nil=>cases hn
 |cons q ar ih =>
  obtain ⟨s',ns'⟩:=q;simp only[jD] at h;simp only[gD,List.find?_cons] at hn;split at hn
  ·rename_i e;simp only[Z9,v6] at hn;simp only[beq_iff_eq] at e;subst e hn;exact h.1
  ·exact ih h.2 hn
end
end Go.Abs
namespace Go.Abs
open Go Go.RowKit
open Enc (enc)
theorem XO{P:Program}(w:World)(tS tR e:TypeId)(ht:P.underlying tS=some (.slice e))(size:Nat)(hz:∀ w,(Go.sizeOf e).run P w=.ok size w)
  (a b:Addr) (la ca lb cb:Nat) (hne:a.block≠b.block) (tA tB:TypeId) (kA kB:Nat) (hsa:w.shape? a.block=some (tA,kA+1)) (hsb:w.shape? b.block=some (tB,kB+1)) (hfb:w.frozen? b=false) (hfe:w.frozen? { block:=b.block,off:=kB+1 } = false) :
  (Extern.SlicesOverlaps.overlaps #[tS,tS] #[tR] #[.slice (some a) la ca,.slice (some b) lb cb]).run P w=.ok (.bool false) w:=by
 have hnb:(a.block != b.block)=true:=by simpa using hne
 have hnb':(a.block==b.block)=false:=by simpa using hne
 change Sem.run P (α:=Value) (do
  let some t := (#[tS, tS] : Array TypeId)[0]? | stuck "slices.overlaps: no parameter types"
  let .slice elem ← underlying t | stuck "slices.overlaps: slice type expected"
  let size ←sizeOf elem
  match (some a:Option Addr),(some b:Option Addr) with
  |some a,some b =>
   if la=0∨lb=0∨size=0 then pure (Value.bool false)
   else if a.block != b.block&&(←frozen a)&&(←frozen b) then unsupported .addressObserved
   else do
    if a.block != b.block then do
     noView a;noView b
     if ← mayBeOne a b then return Value.bool ((← choose (.extern "sameAddr.stringBytes" 2)) == 1)
    pure (Value.bool (a.block==b.block&&a.off<b.off+lb*size&&b.off<a.off+la*size))
  |_,_=>pure (Value.bool false)) w=_
 by_cases h0:la=0∨lb=0∨size=0
 ·simp[run_underlying ht,hz,h0]
 ·cases hfa:w.frozen? a <;>cases hfk:w.frozen? { block:=a.block,off:=kA+1 } <;>
   simp[run_underlying ht,hz,h0,hnb,hnb',frozen,noView,viewAt,mayBeOne,stringish,shape,Sem.run,hsa,hsb,hfa,hfb,hfe,hfk]
theorem DF{P:Program}(w:World)(tS tR e:TypeId)(ht:P.underlying tS=some (.slice e))(size:Nat)(hz:∀ w,(Go.sizeOf e).run P w=.ok size w)(a:Option Addr)(b:Addr)(ca lb cb:Nat) :
  (Extern.SlicesOverlaps.overlaps #[tS,tS] #[tR] #[.slice a 0 ca,.slice (some b) lb cb]).run P w=.ok (.bool false) w:=by
 cases a with
 |none =>
  change Sem.run P (α:=Value) (do
   let some t := (#[tS, tS] : Array TypeId)[0]? | stuck "slices.overlaps: no parameter types"
   let .slice elem ← underlying t | stuck "slices.overlaps: slice type expected"
   let size ←sizeOf elem
   pure (Value.bool false)) w=_
  simp[run_underlying ht,hz]
 |some a =>
  change Sem.run P (α:=Value) (do
   let some t := (#[tS, tS] : Array TypeId)[0]? | stuck "slices.overlaps: no parameter types"
   let .slice elem ← underlying t | stuck "slices.overlaps: slice type expected"
   let size ←sizeOf elem
   if (0:Nat)=0∨lb=0∨size=0 then pure (Value.bool false)
   else if a.block != b.block&&(←frozen a)&&(←frozen b) then unsupported .addressObserved
   else do
    if a.block != b.block then do
     noView a;noView b
     if ← mayBeOne a b then return Value.bool ((← choose (.extern "sameAddr.stringBytes" 2)) == 1)
    pure (Value.bool (a.block==b.block&&a.off<b.off+lb*size&&b.off<a.off+0*size))) w=_
  simp[run_underlying ht,hz]
theorem XY{w:World}{b o:Nat}{v:Value}(h:w.cell? ⟨b,o,none⟩=some v):∃ t k,w.shape? b=some (t,k+1):=by
 simp only[World.cell?] at h;cases hb:w.heap[b]? with
 |none=>rw[hb] at h;cases h
 |some ob =>
  rw[hb] at h;cases ob with
  |cells cs T fr =>
   simp only at h;have hlt:o<cs.size:=(Y2.1 (by simpa using h)).1;exact ⟨T,cs.size-1,by simp only[World.shape?,hb];congr 2;omega⟩
  |_=>cases h
theorem Ae{α:Type}[Enc α]{xs:List α}(h:xs≠[])(hs:(Enc.aK α).AY=false):(I.agg (xs.map Enc.enc)).aK.flat=false:=by
 cases xs with
 |nil=>exact absurd rfl h
 |cons x xs=>simp only[Z3,I.aK,I.cE,bM.flat,List.all_cons,Enc.iz,hs,Bool.false_and]
theorem Yv {P : Program} {f : FuncId} {fn : Func} {tS tR e : TypeId} (hf : P.funcs[f]? = some fn) (hname : (fn.name == "runtime.NumGoroutine") = false) (hb : fn.body.isNone = true) (hn : Extern.findNext fn = none) (he : Extern.find fn = some (Extern.SlicesOverlaps.overlaps #[tS, tS] #[tR]))
  (ht:P.underlying tS=some (.slice e)) (hi:(P.info? e).isSome=true) {A:ab} {n sz sz' lo k:Nat} {p:List Nat} {y:I} {es fs:List I} (hA:A.o n=some (.box y)) (hat:y.at p=some (.agg fs)) (hy:y.size≠0) (hsz:sz'≠0) (hfl:y.aK.flat=false):xl P A f [.slice sz' es,.view n p sz lo k] (.bool false):=by
 intro c a w D E vs hP hs hargs;subst hP;obtain ⟨i,hi⟩:=Y4.1 hi;have hz:∀ w,(Go.sizeOf e).run c.P w=.ok i.size w:=fun w=>by simp[sizeOf,typeInfo,hi]
 cases hargs with
 |cons h1 hrest =>
  cases hrest with
  |cons h2 hnil =>
   cases hnil;rename_i v1 v2;refine ⟨.bool false,?_,kd false⟩;rw[run_callFunc_extern hf hname hb hn he];obtain ⟨ad,cap,rfl,c1,c2,c3,c4⟩:=kz h1;obtain ⟨y',b,cs,T,off,d1,d2,d3,q1,q2,q3,q4,q5,q6,q7,q8,q9,q10,q11,q12,rfl⟩:=hs.view (fs:=fs) h2 (by simp only[bQ,hA,hat]);rw[hA] at q1;simp only[v6,ai.box.injEq] at q1;subst q1;rcases c3 with rfl | ⟨b1,off1,cs1,rfl,r1,iw⟩
   ·rw[zz8,DF w tS tR e ht i.size hz];rfl
   ·cases es with
    |nil=>rw[zz8,DF w tS tR e ht i.size hz];rfl
    |cons e0 es =>
     have hl:=az.length _ _ iw;have he0:=c4 e0 (by simp);have hpos:0<cs1.length:=by rw[hl];simp only[I.sizes];omega
     have hc:=r1 0 cs1[0] (Y1 hpos);obtain ⟨tA,kA,hsa⟩:=XY hc.1;have ho:=hs.bx n;rw[hA] at ho;obtain ⟨b',cs',T',k1,k2,k3,k4,k5⟩:=ho;rw[q2] at k1;simp only[v6,bu.aB.injEq,and_true] at k1;subst k1;have hne:b1≠b:=fun e1=>k5 _ (e1▸hc.2);have hcs:cs.size≠0:=by
      have:=ae.length _ _ q9;rw[zz5] at this;omega
     replace q3:=q3.plain hfl
     obtain ⟨kB,hkB⟩:∃ kB,cs.size=kB+1:=⟨cs.size-1,by omega⟩
     rw[XO w tS tR e ht i.size hz ⟨b1,off1,none⟩ ⟨b,off+lo*sz,none⟩ _ _ _ _ hne tA T kA kB hsa (by simp only[World.shape?,q3,hkB]) (by simp[World.frozen?,q3]) (by simp[World.frozen?,q3])];rfl
noncomputable def tL(A:ab)(d:Option Nat)(esz bytes:Nat)(z s:I)(rest:List au):I→bV
 | .int _ m=>oS A d esz bytes z m.toNat s (cP A esz s) (ao rest)
 |_=>.fail
theorem VO(A:ab)(d:Option Nat)(rest:List au)(e esz bytes:Nat)(z:I)(s n:ay):bn A d (.jt e esz bytes z s n) rest=tL A d esz bytes z (af A s) rest (af A n):=by
 simp only[bn,aW];cases af A n <;>rfl
theorem Wp(A:ab)(d:Option Nat)(rest:List au)(f:FuncId)(args:List ay):bn A d (.gv f args) rest=.gv f (args.map (af A)) d rest A:=rfl
def qT(A:ab):I→Option I
 | .nils _ | .c0 _=>some (.int .i64 ((0:Nat):Int))
 | .view n p _ lo _=>match en (dE p (A.o n)) with
  |some fs=>some (.int .i64 ((fs.length-lo:Nat):Int))
  |none=>none
 |_=>none
theorem VV(A:ab)(d:Option Nat)(rest:List au)(x:ay):bn A d (.cap x) rest=b6 (qT A (af A x)) (cD d rest A):=by
 simp only[bn,aW,aU];cases af A x <;>try rfl
 rename_i n p sz l0 k;simp only[qT,jy,ft];cases dE p (A.o n) with
 |none=>rfl
 |some c=>cases c <;>rfl
theorem lU(A:ab)(d:Option Nat)(rest:List au)(esz:Nat)(x y:ay):bn A d (.fQ esz x y) rest=j0 A d esz (ao rest) (af A x) (jS A esz (af A y)):=rfl
section
variable {α:Type} [Enc α] {P:Program} {Y:Value→List I→List (Nat×ai)→bX→Prop} {K:ab→Prop} {A:ab} {rest:List au} {esz bytes:Nat}
theorem H9{n lo k sz:Nat}{xs:List α}(ho:A.o n=some (.box (.agg (xs.map enc)))):qT A (.view n [] sz lo k)=some (.int .i64 ((xs.length-lo:Nat):Int)):=by
 have h2:(I.agg (xs.map (enc (α:=α)))).at []=some (.agg (xs.map enc)):=rfl;simp only[qT,dE,ho,h2,en,I.c7,Z2]
theorem nd{n lo k:Nat}{xs:List α}(ho:A.o n=some (.box (.agg (xs.map enc))))(h:lo+k≤xs.length):cP A esz (.view n [] esz lo k)=some (((xs.drop lo).take k).map enc):=by
 have h1:bQ A (.ptr n [])=some (.agg (xs.map enc)):=by simp only[bQ,ho];rfl
 simp only[cP,h1,Z2];rw[if_pos ⟨h,trivial⟩,List.map_take,List.map_drop]
theorem wo{xs ys:List α}(h:xs.length=ys.length):I.cE (xs.map enc)=I.cE (ys.map enc):=by
 rw[wq,wq,h]
theorem nJ{d:Option Nat}{n lo l c:Nat}{xs ys:List α}(ho:A.o n=some (.box (.agg (xs.map enc))))(hl:lo+l≤xs.length)(hc:min ys.length l=c) :
  j0 A d esz (ao rest) (.view n [] esz lo l) (some (ys.map enc))=ao rest ((A.aQ n (.box (.agg ((xs.take lo++(ys.take c++xs.drop (lo+c))).map enc)))).aN d (.int .i64 (c:Nat))):=by
 have h2:(I.agg (xs.map (enc (α:=α)))).at []=some (.agg (xs.map enc)):=rfl;have h1:I.cE ((ys.map (enc (α:=α))).take c)=I.cE (((xs.map (enc (α:=α))).drop lo).take c):=by
  rw[←List.map_take,←List.map_drop,←List.map_take];exact wo (by rw[Y0,Y0,List.length_drop];omega)
 have hc':min (ys.map (enc (α:=α))).length l=c:=by rw[Z2];exact hc
 simp only[j0,ho,h2,hc'];rw[if_pos ⟨rfl,by rw[hc'];exact h1⟩];have h3:((ys.map (enc (α:=α))).take c).length=c:=by rw[Y0,Z2];omega
 simp only[hG,fA,h3,zz9,List.map_take,List.map_drop]
theorem aX.Gc{d:Nat}(z:α)(hs:Enc.sz α=esz){n l m:Nat}{xs:List α}(ho:A.o n=some (.box (.agg (xs.map enc))))(hl:l≤xs.length)(hm:0<m)(hr:xs.length<l+m)(hf:A.o d=none)(hb:(l+m)*bytes≤140737488355328)(hml:l+m≤maxLen)
  (h:∀ q,aX P Y false K (ao rest ((A.aQ d (.box (.agg ((xs.take l++(List.replicate m z++List.replicate q z)).map enc)))).aN (some d) (.view d [] esz 0 (l+m))))):aX P Y false K (tL A (some d) esz bytes (enc z) (.view n [] esz 0 l) rest (.int .i64 (m:Nat))):=by
 have h1:=nd (A:=A) (esz:=esz) (lo:=0) (k:=l) ho (by omega);have h2:(I.agg (xs.map (enc (α:=α)))).at []=some (.agg (xs.map enc)):=rfl;have h4:(xs.take l).length=l:=by rw[Y0];omega
 simp only[tL,h1,List.drop_zero,oS,ho,h2,Z2,Int.toNat_natCast];rw[if_pos ⟨hm,by omega⟩];simp only[eS,hf,Z2,h4,List.length_replicate];rw[if_pos ⟨hb,hml⟩];refine .any rfl fun q _ =>?_;have:=h q;simp only[zz9,List.map_replicate] at this;exact this
theorem xu{d:Option Nat}{e:Nat}(z:I)(hs:Enc.sz α=esz){n l:Nat}{xs ys:List α}(hy:ys≠[])(ho:A.o n=some (.box (.agg (xs.map enc))))(hr:l+ys.length≤xs.length) :
  eN A d e esz bytes z (enc ys) rest (.view n [] esz 0 l)=ao rest ((A.aQ n (.box (.agg ((xs.take l++(ys++xs.drop (l+ys.length))).map enc)))).aN d (.view n [] esz 0 (l+ys.length))):=by
 have h1:=nd (A:=A) (esz:=esz) (lo:=0) (k:=l) ho (by omega);have h2:(I.agg (xs.map (enc (α:=α)))).at []=some (.agg (xs.map enc)):=rfl;have h3:I.cE (ys.map (enc (α:=α)))=I.cE (((xs.map (enc (α:=α))).drop l).take ys.length):=by
  rw[←List.map_drop,←List.map_take];exact wo (by rw[Y0,List.length_drop];omega)
 simp only[eN,h1,kD A esz ys hs,dV];rw[if_neg (by simpa using hy)];simp only[ho,h2,Z2,Z4];rw[if_pos hr,if_pos ⟨rfl,by rw[Z2,Z4];exact h3⟩];simp only[hG,fA,Z2,zz9,List.map_take,List.map_drop]
theorem aX.F2{d e:Nat}(z:α)(hs:Enc.sz α=esz){n l:Nat}{xs ys:List α}(hy:ys≠[])(ho:A.o n=some (.box (.agg (xs.map enc))))(hl:l≤xs.length)(hr:xs.length<l+ys.length)(hf:A.o d=none)(hb:(l+ys.length)*bytes≤140737488355328)(hml:l+ys.length≤maxLen)
  (h:∀ q,aX P Y false K (ao rest ((A.aQ d (.box (.agg ((xs.take l++(ys++List.replicate q z)).map enc)))).aN (some d) (.view d [] esz 0 (l+ys.length))))):aX P Y false K (eN A (some d) e esz bytes (enc z) (enc ys) rest (.view n [] esz 0 l)):=by
 have h1:=nd (A:=A) (esz:=esz) (lo:=0) (k:=l) ho (by omega);have h2:(I.agg (xs.map (enc (α:=α)))).at []=some (.agg (xs.map enc)):=rfl;have h4:(xs.take l).length=l:=by rw[Y0];omega
 simp only[eN,h1,List.drop_zero,kD A esz ys hs,dV];rw[if_neg (by simpa using hy)];simp only[ho,h2,Z2,Z4];rw[if_neg (by omega)];simp only[eS,hf,Z2,h4];rw[if_pos ⟨hb,hml⟩];refine .any rfl fun q _ =>?_;have:=h q;simp only[zz9,List.map_replicate] at this;exact this
theorem aX.F3{d e q0:Nat}(z:α){l:List α}(hs:Enc.sz α=esz)(hl:l≠[])(hf:A.o d=none)(hb:l.length*bytes≤140737488355328)(hml:l.length≤maxLen)
  (h:∀ m,aX P Y false K (ao rest ((A.aQ d (.box (.agg ((l++List.replicate m z).map enc)))).aN (some d) (.view d [] esz 0 l.length)))):aX P Y false K (eN A (some d) e esz bytes (enc z) (enc l) rest (.nils q0)):=by
 have hne:l.map (enc (α:=α))≠[]:=by simpa using hl
 have h1:cP A esz (.nils q0)=some []:=rfl;simp only[eN,h1,kD A esz l hs,dV,if_neg hne,eS,hf,zz8,Z4,Z2,if_pos (y6 hb hml),Y6];refine .any rfl fun m _ =>?_;have:=h m;simp only[zz9,List.map_replicate] at this;exact this
end
theorem X1{n:Nat}{p:List Nat}{sz k total i:Nat}(h:i≤k)(hk:k≤total):∃ y,iB n p sz 0 k total (some (.int .i64 i)) none none=some y:=by
 simp only[iB,gy];rw[if_pos ⟨by omega,by omega,by omega⟩];split <;>exact ⟨_,rfl⟩
theorem Bn(k:Nat):b8 [] k=.cU:=rfl
def fV(ar:List Nat):List (Nat×I)→List (Nat×I)
 | []=>[]
 |(s,v)::ts=>if ar.contains s=true then (s,v)::fV ar ts else fV ar ts
theorem UW(ar:List Nat):fV ar []=[]:=rfl
theorem UU(ar:List Nat)(s:Nat)(v:I)(ts:List (Nat×I)):fV ar ((s,v)::ts)=if ar.contains s=true then (s,v)::fV ar ts else fV ar ts:=rfl
theorem Bm(ar:List Nat)(t:Nat):∀ ts,b8 (fV ar ts) t=.cU∨b8 (fV ar ts) t=b8 ts t
 | []=>.inl rfl
 |(s,v)::ts=>by
  simp only[fV];have ih:=Bm ar t ts;by_cases hs:ar.contains s=true
  ·rw[if_pos hs];simp only[b8];split
   ·exact .inr rfl
   ·exact ih
  ·rw[if_neg hs];simp only[b8];split
   ·rename_i e;subst e
    left
    have:∀ ts,b8 (fV ar ts) t=.cU:=by
     intro ts
     induction ts with
     |nil=>rfl
     |cons q ts ih2 =>
      obtain ⟨s',v'⟩:=q;simp only[fV];split
      ·rename_i h';simp only[b8];have:t≠s':=fun e=>hs (e▸h');rw[if_neg this];exact ih2
      ·exact ih2
    exact this ts
   ·exact ih
theorem U.pF(ar:List Nat){c:b9}{x:bl}{Q:Exit→ab→Prop}{ts:List (Nat×I)}{os:List (Nat×ai)}(h:U c x Q (aw (fV ar ts) os)):U c x Q (aw ts os):=by
 refine U.sub ?_ h;rintro cc a w ⟨D,E,hs⟩;refine ⟨D,E,hs.sz,hs.ec,fun t =>?_,hs.de,hs.cI,hs.cK,hs.bx,hs.cu,hs.dx,hs.eJ,hs.cw,hs.eQ,hs.fq⟩;simp only[aw];rcases Bm ar t ts with e | e
 ·rw[e];simp[aP]
 ·rw[e];exact hs.dB t
theorem A1:(∀ ar,fV ar []=[])∧(∀ ar s v ts,fV ar ((s,v)::ts)=if ar.contains s=true then (s,v)::fV ar ts else fV ar ts)∧(∀ (a:Nat) l b,(a::l).contains b=(b==a||l.contains b))∧(∀ b:Nat,([]:List Nat).contains b=false)∧(∀ b,(false||b)=b)∧(∀ b,(true||b)=true)∧(∀ b,(b||true)=true)∧(∀ b,(b||false)=b)∧((false=true)=False) :=
 ⟨UW,UU,fun _ _ _=>List.contains_cons,fun _=>rfl,fun _=>rfl,fun _=>rfl,fun b=>by cases b <;>rfl,fun b=>by cases b <;>rfl,by simp⟩
end Go.Abs
namespace Go.Abs
open Go Go.RowKit
open Enc (enc)
def vj:Option ai→Option (List I×List I)
 |some (.bZ ks vs)=>some (ks,vs)
 |_=>none
noncomputable def vt(A:ab)(n:Nat)(rest:List au):Option (List I×List I)→bV
 |some (ks,vs)=>ao rest (A.aQ n (.bZ ks vs))
 |none=>.fail
noncomputable def vr(A:ab)(n:Nat)(ty:bY)(k v:I)(rest:List au):Option ai→bV
 |some (.bZ ks vs)=>vt A n rest (pN ty k v ks vs)
 |_=>.fail
noncomputable def vq(A:ab)(ty:bY)(k v:I)(rest:List au):I→bV
 | .mref n=>vr A n ty k v rest (A.o n)
 |_=>.fail
noncomputable def vp(A:ab)(d:Nat)(rest:List au):Option ai→bV
 |none=>ao rest ((A.aQ d (.bZ [] [])).put d (.mref d))
 |some _=>.fail
open Classical in
noncomputable def sd(A:ab)(d bytes:Nat)(z:I)(rest:List au):I→bV
 | .int _ n=>if 0≤n∧n.toNat*bytes≤281474976710656∧n.toNat≤maxLen then ao rest ((A.aQ d (.box (.agg (List.replicate n.toNat z)))).put d (.view d [] 1 0 n.toNat)) else .fail
 |_=>.fail
noncomputable def sc(A:ab)(d bytes:Nat)(z n:I)(rest:List au):Option ai→bV
 |none=>sd A d bytes z rest n
 |some _=>.fail
noncomputable def vX(A:ab)(d:Nat)(rest:List au):I→bV
 | .cW ks vs=>ao rest ((A.aQ d (.it ks vs (List.range ks.length) none)).put d (.cR d))
 |_=>.fail
noncomputable def sT(A:ab)(d:Nat)(x:I)(rest:List au):Option ai→bV
 |none=>vX A d rest x
 |some _=>.fail
def uy:Option ai→Option I
 |some (.it ks vs _ cur)=>rh ks vs cur
 |_=>none
def ux(A:ab):I→Option I
 | .cR n=>uy (A.o n)
 |_=>none
open Classical in
noncomputable def BA(A:ab)(d:Option Nat)(n:Nat)(rest:List au):Option ai→bV
 |some (.it ks vs left _)=>if left=[] then ao rest (A.aN d (.tuple [.bool false])) else
   .any (fun i=>i∈left) fun i=>match ks[i]?,vs[i]? with
    |some kk,some x=>ao rest ((A.aQ n (.it ks vs (left.filter (· != i)) (some i))).aN d (.tuple [.bool true,kk,x]))
    |_,_=>.fail
 |_=>.fail
noncomputable def vv(A:ab)(d:Option Nat)(rest:List au):I→bV
 | .cR n=>BA A d n rest (A.o n)
 |_=>.fail
section
variable (d:Option Nat) (rest:List au) (A:ab)
theorem Wf(x:ay):bn A d (.nilC x) rest=b6 (mF (af A x)) (cD d rest A):=rfl
theorem Wj(neg:Bool)(x y:ay):bn A d (.ptrE neg x y) rest=b6 (lZ neg (gT (af A x)) (gT (af A y))) (cD d rest A):=rfl
theorem V9(ty:bY)(z:I)(ok:Bool)(m k:ay):bn A d (.lk ty z ok m k) rest=b6 (pI ty z ok (af A k) (fK A (af A m))) (cD d rest A):=rfl
theorem Vu(n:Nat):fK A (.mref n)=vj (A.o n):=by
 simp only[fK];cases A.o n with
 |none=>rfl
 |some y=>cases y <;>rfl
theorem Wd(ty:bY)(m k v:ay):bn A none (.jH ty m k v) rest=vq A ty (af A k) (af A v) rest (af A m):=by
 simp only[bn,aW];cases af A m <;>rfl
theorem Wb(d:Nat):bn A (some d) .ke rest=vp A d rest (A.o d):=by
 simp only[bn,aW];cases A.o d <;>rfl
theorem Wc(d e bytes:Nat)(z:I)(n:ay):bn A (some d) (.jl e bytes z n) rest=sc A d bytes z (af A n) rest (A.o d):=by
 simp only[bn,aW];cases A.o d with
 |some _=>rfl
 |none=>simp only[sc];cases af A n <;>rfl
theorem Wk(d:Nat)(x:ay):bn A (some d) (.jP x) rest=sT A d (af A x) rest (A.o d):=by
 simp only[bn,aW];cases A.o d with
 |some _=>rfl
 |none=>simp only[sT];cases af A x <;>rfl
theorem VY(x:ay):bn A d (.ent x) rest=b6 (ux A (af A x)) (cD d rest A):=by
 simp only[bn,aW,aU];cases af A x <;>rfl
theorem Wh(x:ay):bn A d (.jI x) rest=vv A d rest (af A x):=by
 simp only[bn,aW];cases af A x <;>rfl
end
theorem r6 :
  (∀ d rest A x,bn A d (.nilC x) rest=b6 (mF (af A x)) (cD d rest A))∧(∀ n p,mF (.ptr n p)=some (.ptr n p))∧(∀ x,mF (.ref x)=some (.ref x)) ∧
  (∀ d rest A neg x y,bn A d (.ptrE neg x y) rest=b6 (lZ neg (gT (af A x)) (gT (af A y))) (cD d rest A))∧(gT .nilp=some true)∧(∀ n p,gT (.ptr n p)=some false)∧(∀ x,gT (.ref x)=some false) ∧
  (lZ false (some true) (some true)=some (.bool true))∧(lZ false (some false) (some true)=some (.bool false))∧(lZ true (some true) (some true)=some (.bool false))∧(lZ true (some false) (some true)=some (.bool true)) ∧
  (∀ d rest A ty z ok m k,bn A d (.lk ty z ok m k) rest=b6 (pI ty z ok (af A k) (fK A (af A m))) (cD d rest A))∧(∀ A n,fK A (.mref n)=vj (A.o n))∧(∀ A ks vs,fK A (.cW ks vs)=some (ks,vs))∧(∀ ks vs,vj (some (.bZ ks vs))=some (ks,vs)) ∧
  (∀ ty z ok k ks vs,pI ty z ok k (some (ks,vs))=pJ ok (pK ty z k ks vs))∧(∀ v b,pJ false (some (v,b))=some v)∧(∀ v b,pJ true (some (v,b))=some (.tuple [v,.bool b])) ∧
  (∀ rest A ty m k v,bn A none (.jH ty m k v) rest=vq A ty (af A k) (af A v) rest (af A m))∧(∀ A ty k v rest n,vq A ty k v rest (.mref n)=vr A n ty k v rest (A.o n))∧(∀ A n ty k v rest ks vs,vr A n ty k v rest (some (.bZ ks vs))=vt A n rest (pN ty k v ks vs)) ∧
  (∀ A n rest ks vs,vt A n rest (some (ks,vs))=ao rest (A.aQ n (.bZ ks vs))) ∧
  (∀ rest A d,bn A (some d) .ke rest=vp A d rest (A.o d))∧(∀ A d rest,vp A d rest none=ao rest ((A.aQ d (.bZ [] [])).put d (.mref d))) ∧
  (∀ rest A d e bytes z n,bn A (some d) (.jl e bytes z n) rest=sc A d bytes z (af A n) rest (A.o d))∧(∀ A d bytes z n rest,sc A d bytes z n rest none=sd A d bytes z rest n) ∧
  (∀ rest A d x,bn A (some d) (.jP x) rest=sT A d (af A x) rest (A.o d))∧(∀ A d x rest,sT A d x rest none=vX A d rest x)∧(∀ A d rest ks vs,vX A d rest (.cW ks vs)=ao rest ((A.aQ d (.it ks vs (List.range ks.length) none)).put d (.cR d))) ∧
  (∀ d rest A x,bn A d (.ent x) rest=b6 (ux A (af A x)) (cD d rest A))∧(∀ A n,ux A (.cR n)=uy (A.o n))∧(∀ ks vs l cur,uy (some (.it ks vs l cur))=rh ks vs cur) ∧
  (∀ d rest A x,bn A d (.jI x) rest=vv A d rest (af A x))∧(∀ A d rest n,vv A d rest (.cR n)=BA A d n rest (A.o n)) :=
 ⟨Wf,fun _ _=>rfl,fun _=>rfl,Wj,rfl,fun _ _=>rfl,fun _=>rfl,rfl,rfl,rfl,rfl,V9,Vu,fun _ _ _=>rfl,fun _ _=>rfl,fun _ _ _ _ _ _=>rfl,fun _ _=>rfl,fun _ _=>rfl,
  fun rest A ty m k v=>Wd rest A ty m k v,fun _ _ _ _ _ _=>rfl,fun _ _ _ _ _ _ _ _=>rfl,fun _ _ _ _ _=>rfl,fun rest A d=>Wb rest A d,fun _ _ _=>rfl,fun rest A d e bytes z n=>Wc rest A d e bytes z n,fun _ _ _ _ _ _=>rfl,
  fun rest A d x=>Wk rest A d x,fun _ _ _ _=>rfl,fun _ _ _ _ _=>rfl,VY,fun _ _=>rfl,fun _ _ _ _=>rfl,Wh,fun _ _ _ _=>rfl⟩
theorem sf{A:ab}{d bytes:Nat}{z:I}{rest:List au}{n:Nat}(h1:n*bytes≤281474976710656)(h2:n≤maxLen):sd A d bytes z rest (.int .i64 n)=ao rest ((A.aQ d (.box (.agg (List.replicate n z)))).put d (.view d [] 1 0 n)):=by
 simp only[sd,Int.toNat_natCast];rw[if_pos ⟨Int.natCast_nonneg n,h1,h2⟩]
section
variable {α:Type} [Enc α]
theorem X8{A:ab}{n i:Nat}{xs:List α}(v u:α){rest:List au}(hA:Enc.gi α=false)(h:i<xs.length):ep A none n [i] (.agg (xs.map enc)) (enc v) rest (some (enc u))=ao rest (A.aQ n (.box (.agg ((xs.set i v).map enc)))):=by
 rw[fC (eZ v) (by rw[LC,hA];rfl) ((eB v).trans (eB u).symm)];have h2:(xs.map (enc (α:=α)))[i]?=some (enc (xs[i])):=by simp[h]
 simp only[I.dp,h2,List.map_set]
end
theorem UO{m sz lo l i:Nat}{fs:List I}(h:i<l):mA m [] sz lo l sz (i:Int) (some fs)=some (.ptr m [lo+i]):=by rw[UN h];rfl
theorem zg:(∀ {α:Type} [Enc α] (x:α),(enc x).bw=true)∧(∀ n p z lo k,(I.view n p z lo k).bw=false)∧(∀ n,(I.mref n).bw=false)∧(∀ n p,(I.ptr n p).bw=false)∧(∀ n k,(I.own n k).bw=false) :=
 ⟨@j4,fun _ _ _ _ _=>rfl,fun _=>rfl,fun _ _=>rfl,fun _ _=>rfl⟩
end Go.Abs
namespace Go.Abs
open Go Go.RowKit
def qU(on:List (List Nat)):List Nat:=on.foldl (fun acc ks=>acc++[nl acc ks]) []
def uq(d:Option (List (List Nat)))(gs:List au):Bool:=match d with
 |none=>true
 |some on=>rf on gs (qU on)
section
variable {c:b9} {Q:Exit→ab→Prop} {A:ab} {d:Option (List (List Nat))} {on:List (List Nat)} {gs:List au}
theorem U.gW(hd:uq d gs=true)(h:∀ K:ab→Prop,(∀ B,Q .normal B→K B)→aX c.P c.Y d.isSome K (ao gs A)):U c (.bN d gs) Q A:=by
 cases d with
 |none=>exact U.bN (cl:=[]) rfl h
 |some on=>exact U.bN (cl:=qU on) hd h
theorem U.dI{y:bl}(hd:uq d gs=true)(h:∀ K:ab→Prop,(∀ B,U c y Q B→K B)→aX c.P c.Y d.isSome K (ao gs A)):U c (.seq (.bN d gs) y) Q A :=
 U.seq (U.gW hd h)
theorem U.l9(hs:List FuncId)(ar:dU)(σ:List Nat)(hd:sD hs ar on gs (qU on) σ=true)(hi:dC ar A)(h:∀ K:ab→Prop,(∀ B,Q .normal B→K B)→bH c.P c.Y hs K (ao (kl σ gs) A)):U c (.bN (some on) gs) Q A :=
 U.Xo hs ar (qU on) σ hd hi h
def fE(c:b9):bl→(Exit→ab→Prop)→ab→Prop
 | .seq x y,Q,A=>fE c x (cQ (fun B=>U c y Q B) Q) A
 | .block id x,Q,A=>fE c x (kP id Q) A
 | .skip,Q,A=>Q .normal A
 | .exit id,Q,A=>Q (.exit id) A
 | .ret,Q,A=>Q .ret A
 | .cond b x y,Q,A=>av (af A b) (U c x Q A) (U c y Q A)
 |x,Q,A=>U c x Q A
def UL:bl→Bool
 | .seq _ _ | .block _ _ | .skip | .exit _ | .ret | .cond _ _ _=>true
 |_=>false
theorem fE.tO:∀ (x:bl) {Q:Exit→ab→Prop} {A:ab},fE c x Q A→U c x Q A
 | .seq x y,_,_,h=>U.seq (fE.tO x h)
 | .block id x,_,_,h=>U.block (fE.tO x h)
 | .skip,_,_,h=>U.skip h
 | .exit _,_,_,h=>U.exit h
 | .ret,_,_,h=>U.ret h
 | .cond _ _ _,_,_,h=>U.gC h
 | .bN _ _,_,_,h | .loop _,_,_,h | .scope _,_,_,h | .label,_,_,h | .oV,_,_,h | .mU _ _ _ _,_,_,h=>h
theorem U.of{x:bl}(_:UL x=true)(h:fE c x Q A):U c x Q A:=fE.tO x h
theorem aH :
  (∀ c x y Q A,fE c (.seq x y) Q A=fE c x (cQ (fun B=>U c y Q B) Q) A)∧(∀ c id x Q A,fE c (.block id x) Q A=fE c x (kP id Q) A)∧(∀ c Q A,fE c .skip Q A=Q .normal A)∧(∀ c id Q A,fE c (.exit id) Q A=Q (.exit id) A)∧(∀ c Q A,fE c .ret Q A=Q .ret A) ∧
  (∀ c b x y Q A,fE c (.cond b x y) Q A=av (af A b) (U c x Q A) (U c y Q A))∧(∀ c d gs Q A,fE c (.bN d gs) Q A=U c (.bN d gs) Q A)∧(∀ c x Q A,fE c (.loop x) Q A=U c (.loop x) Q A)∧(∀ c f ps x y Q A,fE c (.mU f ps x y) Q A=U c (.mU f ps x y) Q A) ∧
  (∀ k Q A,cQ k Q .normal A=k A)∧(∀ k Q A,cQ k Q .ret A=Q .ret A)∧(∀ k Q A i,cQ k Q (.exit i) A=Q (.exit i) A)∧(∀ i Q A,kP i Q .normal A=Q .normal A)∧(∀ i Q A,kP i Q .ret A=Q .ret A)∧(∀ i Q A j,kP i Q (.exit j) A=if j=i then Q .normal A else Q (.exit j) A) ∧
  (∀ p q,av (.bool true) p q=p)∧(∀ p q,av (.bool false) p q=q)∧(type_of% @A1) :=
 ⟨fun _ _ _ _ _=>rfl,fun _ _ _ _ _=>rfl,fun _ _ _=>rfl,fun _ _ _ _=>rfl,fun _ _ _=>rfl,fun _ _ _ _ _ _=>rfl,fun _ _ _ _ _=>rfl,fun _ _ _ _=>rfl,fun _ _ _ _ _ _ _=>rfl,fun _ _ _=>rfl,fun _ _ _=>rfl,fun _ _ _ _=>rfl,fun _ _ _=>rfl,fun _ _ _=>rfl,fun _ _ _ _=>rfl,
  fun p q=>by simp[av],fun p q=>by simp[av],A1⟩
theorem av.aF{t:Bool}{p q:Prop}(h1:t=true→p)(h2:t=false→q):av (.bool t) p q:=⟨h1,h2⟩
theorem U.aG{g:au}{r:List au}(hd:uq d gs=true)(e:gs=g::r)(h:∀ K:ab→Prop,(∀ B,Q .normal B→K B)→aX c.P c.Y d.isSome K (ao (g::r) A)):U c (.bN d gs) Q A :=
 U.gW hd (e▸h)
theorem aX.aE(ar:List Nat){P:Program}{Y:Value→List I→List (Nat×ai)→bX→Prop}{dr:Bool}{x:bl}{K:ab→Prop}{ts:List (Nat×I)}{os:List (Nat×ai)}(hK:∀ B,U c x Q B→K B)(h:U c x Q (aw (fV ar ts) os)):aX P Y dr K (.done (aw ts os)) :=
 .done (hK _ (U.pF ar h))
theorem bH.aE(ar:List Nat){P:Program}{Y:Value→List I→List (Nat×ai)→bX→Prop}{hs:List FuncId}{x:bl}{K:ab→Prop}{ts:List (Nat×I)}{os:List (Nat×ai)}(hK:∀ B,U c x Q B→K B)(h:U c x Q (aw (fV ar ts) os)):bH P Y hs K (.done (aw ts os)) :=
 .done (hK _ (U.pF ar h))
end
section
variable {c:b9} {A:ab} {o:Oper}
theorem yX{P:Program}{m:Nat}{bf:Array Oper}{l:List Oper}{gs:List au}(h:fh P m bf (o::l)=some gs):∃ g gs',gs=g::gs'∧kR P m bf o=some g∧fh P m bf l=some gs':=by
 simp only[fh] at h;split at h
 ·rename_i g gs' h1 h2;simp only[v6] at h;exact ⟨g,gs',h.symm,h1,h2⟩
 ·cases h
end
def sV(P:Program)(f:FuncId)(ch:List PanicEntry)(vs:Array Value)(w:World)(R:Ending→World→Prop):Prop :=
 Calls P f vs w fun e w'=>e=.panicked ch∧R (.returned (.tuple #[])) w'
theorem sV.mono{P:Program}{f:FuncId}{ch:List PanicEntry}{vs:Array Value}{w:World}{R R':Ending→World→Prop}(h:sV P f ch vs w R)(hr:∀ e w',R e w'→R' e w'):sV P f ch vs w R' :=
 Calls.mono h fun _ _ q=>⟨q.1,hr _ _ q.2⟩
def oo(post:List (Nat×ai)→Prop):bX:=fun r os'=>r=.tuple []∧post os'
def oI(P:Program)(f:FuncId)(ch:List PanicEntry)(args:List I)(os:List (Nat×ai))(post:List (Nat×ai)→Prop):Prop :=
 dM P f=true∧mi (sV P f ch) (fun w _ E=>ew P w (bR E)) args os (oo post)
def vJ(ch:List PanicEntry)(post:List (Nat×ai)→Prop):Exit→ab→Prop
 | .panic ch',A=>ch'=ch∧iF [] (oo post) A
 |_,_=>False
theorem Be{P:Program}{n:Nat}{w:World}{D:aJ}{E:aM}{Y:Value→List I→List (Nat×ai)→bX→Prop}{post:List (Nat×ai)→Prop}{fn:Func}{A:ab}{D':aJ}{E':aM}{ch:List PanicEntry}(h:iF [] (oo post) A){R:World→Prop}(hR:∀ v w',kJ w D E (oo post) v w'→R w') :
  ∀ (ds:List Deferred) (a:Act) (w':World),a.defers=ds→aL ⟨P,w,D,n,bR E,E,Y,none,none⟩ A a w' D' E'→LeavesInM Fence.wide 9 P fn a.tmps (fun e w'=>e=.panicked ch∧R w') ds (.panicking ch) w'
 | [],a,w',_,hs=>by
  obtain ⟨v,h1,h2⟩:=hs.rV (fn := { fn with results := #[] }) (rs:=[]) rfl h;exact ⟨rfl,hR v w' h2⟩
 |d::ds,a,w',hd,hs=>by
  obtain ⟨Bs,h1,_⟩:=hs.ec;rw[hd] at h1;cases Bs with
  |nil=>cases h1
  |cons B Bs =>
   simp only[Z3,Y7] at h1;obtain ⟨rfl,rfl⟩:=h1;obtain ⟨k1,k2⟩:=hs.zh rfl hd;exact ⟨by simp,.inl ⟨B,_,rfl,run_takeDeferred k1,Be h hR _ { a with defers:=Bs.map _ } _ rfl k2⟩⟩
theorem Vi{w:World}{D:aJ}{E:aM}{post:List (Nat×ai)→Prop}{v:Value}{w':World}(h:kJ w D E (oo post) v w'):∃ v' D' E' r os',Ending.returned (.tuple #[])=.returned v'∧oo post r os'∧aP w' D' E' r v'∧iW (fun b=>w.heap.size≤b∨bR E b) w' D' E' (aD os') ∧
   ej (fun b=>w.heap.size≤b∨bR E b) w w'∧(∀ b o,D b o→D' b o)∧(∀ b o,D' b o→b<w'.heap.size)∧(∀ b o,D' b o→b<w.heap.size→¬ bR E b→D b o) ∧
   (∀ n e,E n=some e→aI os' n=true→∃ e',E' n=some e'∧e.e8 e')∧fN w D w':=by
 obtain ⟨D',E',r,os',h1,h2,h3⟩:=h;refine ⟨_,D',E',r,os',rfl,h1,?_,h3⟩;obtain ⟨rfl,_⟩:=h1;simp only[aP];exact ⟨[],by simp,by simp[ak]⟩
theorem oI.mk{P:Program}{f:FuncId}{fn:Func}{x:bl}{ch:List PanicEntry}{args:List I}{os:List (Nat×ai)}{post:List (Nat×ai)→Prop}(hf:P.funcs[f]?=some fn)(hcall:dM P f=true)(hc:(fn.body.bind (dL P fn.ntmps))=some x)
  (hn:args.length≤fn.ntmps) (hn2:fn.ntmps≤1000000) (hos:∀ m,aI os m=true→1000000≤m) (h:I.gu args→∀ (w:World) (D:aJ) (E:aM),U ⟨P,w,D,fn.ntmps,bR E,E,fw,none,none⟩ x (vJ ch post) (aw (bA 0 args) os)):oI P f ch args os post:=by
 obtain ⟨body,hb,hc'⟩:=zy5.1 hc;refine ⟨hcall,fun w D E vs hl hD ho hv =>?_⟩;have hlen:=qe hv;have hsim:=wE (P:=P) (n:=fn.ntmps) (Y:=fw) hD ho hv (by omega) (fun m hm=>⟨Nat.le_trans hn2 (hos m hm),hos m hm⟩) (oG hl);refine (callsIn_wide (n:=9)).1 (callsIn_of_wp_marks hf hb trivial ?_);refine wpIn_mono (((h (ox _ _ hv) w D E).sub (te args os)) body hc' _ w ⟨D,E,hsim⟩) ?_;rintro e a w' ⟨A,hq,D',E',hs⟩;cases e <;>simp only[vJ] at hq
 obtain ⟨rfl,hq⟩:=hq;exact Be hq (fun v w' h=>Vi h) a.defers a w' rfl hs
section
variable {c:b9} {A:ab} {Q:Exit→ab→Prop}
theorem rF{dr:Bool}{K:ab→Prop}{bf:Array Oper}{Q:Exit→Act→World→Prop}{l2:List Oper}(hQ:∀ B a w,K B→bz c B a w→wpListIn c.bh 9 c.P bf Q l2 a w):∀ (l:List Oper) (gs:List au) (A:ab) (a:Act) (w:World),fh c.P c.n bf l=some gs→aX c.P c.Y dr K (ao gs A) →
  bz c A a w→wpListIn c.bh 9 c.P bf Q (l++l2) a w
 | [],gs,A,a,w,hc,hwp,hs=>by
  simp only[fh,v6] at hc;subst hc;simp only[ao] at hwp;cases hwp with
  |done hk=>exact hQ A a w hk hs
 |o::l,gs,A,a,w,hc,hwp,hs=>by
  simp only[fh] at hc;split at hc
  case h_2=>cases hc
  rename_i g gs' hg hgs;simp only[v6] at hc;subst hc;obtain ⟨h1,h2,h3,h4⟩:=nF hg;have step:aX c.P c.Y dr K (aW A g.dst g.op gs' (ao gs'))→o.wpIn c.bh 9 c.P a w (wpListIn c.bh 9 c.P bf Q (l++l2)) Q:=fun h =>
   rB h1 h2.symm (by rw[h2];exact h3) h hs (fun B a' w' hw hs'=>rF hQ l gs' B a' w' hgs hw hs')
  simp only[Y3,wpListIn];simp only[ao] at hwp;rcases h4 with ⟨h5,h6⟩ | ⟨j,b,t,h5,h6,h7⟩
  ·rw[h6] at hwp;have hw:Region.wanted o (yielded bf a.tmps)=true:=by simp[Region.wanted,h5]
   rw[hw,if_pos rfl];exact step hwp
  ·rw[h7] at hwp;simp only at hwp;split at hwp
   ·rename_i b' hb';rw[rH hs h5 h6 hb'];split at hwp
    ·rename_i hbb;subst hbb;simp only[BEq.rfl,if_true];exact step hwp
    ·rename_i hbb;have:(b'==b)=false:=by simpa using hbb
     rw[this];simp only[Z5,if_false];exact ⟨fun f _=>kX c f,rF hQ l gs' _ _ w hgs hwp (by rw[h2];exact hs.l8 h3)⟩
   ·rename_i hb';rw[rI hs h5 h6 hb'];simp only[Z5,if_false];exact ⟨fun f _=>kX c f,rF hQ l gs' _ _ w hgs hwp (by rw[h2];exact hs.l8 h3)⟩
   ·cases hwp
theorem yW{P:Program}{m:Nat}{bf:Array Oper}{g:au}{gs2:List au} : ∀ {l:List Oper} {gs1:List au},fh P m bf l=some (gs1++g::gs2)→∃ l1 o l2,l=l1++o::l2∧fh P m bf l1=some gs1∧kR P m bf o=some g
 | [],gs1,h=>by simp[fh] at h
 |o::l,[],h=>by
  obtain ⟨g',gs',e,h1,h2⟩:=yX h;simp only[Y6,Y7] at e;obtain ⟨rfl,rfl⟩:=e;exact ⟨[],o,l,rfl,rfl,h1⟩
 |o::l,k::gs1,h=>by
  obtain ⟨g',gs',e,h1,h2⟩:=yX h;simp only[Y3,Y7] at e;obtain ⟨rfl,rfl⟩:=e;obtain ⟨l1,o',l2,rfl,q1,q2⟩:=yW h2;exact ⟨o::l1,o',l2,rfl,by simp only[fh,h1,q1],q2⟩
inductive oN (P:Program) (Q:Exit→ab→Prop) (f:FuncId) (avs:List I):ab→Prop where
 |mk {ts:List (Nat×I)} {os0:List (Nat×ai)} (aB:Bool) (ρ:List (Nat×Nat)) (os:List (Nat×ai)) (cargs:List I) (ch:List PanicEntry) (post:List (Nat×ai)→Prop):oI P f ch cargs os post→eM ρ os os0→fO aB (aw ts (dO (ir ρ os) os0)) ρ os avs cargs →
  (∀ os',post os'→dv aB ρ os os0 (.tuple []) os')→(∀ os',post os'→Q (.panic ch) (aw ts (cX ρ os'++os0)))→oN P Q f avs (aw ts os0)
inductive lG (P:Program) (Q:Exit→ab→Prop):br→ab→Prop where
 |call {f:FuncId} {args:List ay} {A:ab} : oN P Q f (args.map (af A)) A→lG P Q (.call f args) A
 |eY {x:ay} {args:List ay} {f:Nat} {caps:List I} {A:ab} : af A x=.func f caps→oN P Q (j6 f) (gB f (args.map (af A)) caps) A→lG P Q (.eY x args) A
 |kj {x:ay} {t:TypeId} {A:ab} : af A x=.iface t (.agg [])→Q (.panic [{ v:=.iface t (.agg #[]),recovered:=false }]) A→lG P Q (.prim .kj [x]) A
theorem vK{o:Oper}{g:br}{f:FuncId}{avs:List I}{vs:List Value}{a:Act}{w:World}{D:aJ}{E:aM}{Kw:Act→World→Prop}(hop0:cA c.P o=some g)(h:oN c.P Q f avs A)(hs:aL c A a w D E)(hall:dS (aP w D E) avs vs)
  (hrun:dM c.P f=true→(execOp a.eval o).run c.P w=.ok (.enter f vs.toArray) w):o.wpIn c.bh 9 c.P a w Kw (rX c Q):=by
 cases h with
 |mk aB ρ os cargs ch post hspec hgv ha hb hrest =>
  have hu:=hspec.2.use hs aB (fun h=>h.mono) ⟨fun _ _=>hs.nZ,fun _=>hs.nZ⟩ hgv ha (fun r os' hp=>by obtain ⟨rfl,hp⟩:=hp;exact hb os' hp) hall;refine ⟨iX,?_⟩;rw[jq hop0,hrun hspec.1,Oper.uponIn_enter];refine ⟨uk c,zc (Calls.mono hu ?_)⟩;rintro e w' ⟨rfl,v,r,os',D2,E2,he,⟨rfl,hp⟩,hs',hv,_⟩;exact ⟨_,hrest os' hp,D2,E2,hs'⟩
theorem WN{o:Oper}{g:br}{a:Act}{w:World}{Kw:Act→World→Prop}(hop:cA c.P o=some g)(h:lG c.P Q g A)(hsim:bz c A a w):o.wpIn c.bh 9 c.P a w Kw (rX c Q):=by
 have hop0:=hop;obtain ⟨D,E,hs⟩:=hsim;cases h with
 |call h =>
  unfold cA at hop;split at hop <;>try (first | (simp at hop;done) | ((repeat' split at hop) <;>simp at hop;done))
  rename_i f' xs ts ho;split at hop
  case isFalse=>simp at hop
  simp only[t7,br.call.injEq] at hop;obtain ⟨ys,hys,rfl,rfl⟩:=hop;have e:xs.map a.eval=(xs.toList.map a.eval).toArray:=by apply Array.ext';simp
  refine vK (vs:=xs.toList.map a.eval) hop0 h hs (jW hs xs.toList ts.toList ys hys) fun hc =>?_;simp only[execOp,ho,resolve,Act.eval,Deferred.ofValue,Sem.run_bind,Sem.run_pure,Result.andThen_ok,invoke,Array.append_empty,Array.empty_append,ma hc];rw[←e]
 |eY hx h =>
  rename_i x args f caps;unfold cA at hop;split at hop <;>try (first | (simp at hop;done) | ((repeat' split at hop) <;>simp at hop;done))
  rename_i y xs ts _ ho;split at hop
  case h_2=>cases hop
  rename_i y' ys h1 h2;simp only[v6,br.eY.injEq] at hop;obtain ⟨rfl,rfl⟩:=hop;have hv:=bp hs h1;rw[hx] at hv;obtain ⟨cs,q1,q2⟩:=hv;simp only[ae] at q2;obtain ⟨vs,q3,q4⟩:=q2;have hval:a.eval y=iL f vs:=by simpa[aY,I.isAgg,q3] using q1.symm
  have e:xs.map a.eval=(xs.toList.map a.eval).toArray:=by apply Array.ext';simp
  have hargs:=jW hs xs.toList ts.toList ys h2;rcases Nat.lt_or_ge f 1000000 with hf | hf
  ·rw[uG hf,uF hf] at h;rw[lO hf] at hval;refine vK (vs:=xs.toList.map a.eval++vs) hop0 h hs (hargs.append (ou q4)) fun hc =>?_;simp only[execOp,ho,resolve,hval,Deferred.ofValue,Sem.run_bind,Sem.run_pure,Result.andThen_ok,invoke,Array.empty_append,ma hc];rw[e];simp
  ·obtain ⟨g,rfl⟩:∃ g:Nat,f=g+1000000:=⟨Nat.sub f 1000000,(Nat.sub_add_cancel hf).symm⟩
   rw[zS,zR] at h;rw[pn] at hval;refine vK (vs:=vs++xs.toList.map a.eval) hop0 h hs ((ou q4).append hargs) fun hc =>?_;simp only[execOp,ho,resolve,hval,Deferred.ofValue,Sem.run_bind,Sem.run_pure,Result.andThen_ok,invoke,Array.append_empty,ma hc];rw[e];simp

 |kj hx hq =>
  rename_i x t;unfold cA at hop;split at hop <;>try (first | (simp at hop;done) | ((repeat' split at hop) <;>simp at hop;done))
  rename_i x0 ho;simp only[t7,br.prim.injEq,Y7,and_true,true_and] at hop;obtain ⟨y,hy,rfl⟩:=hop;have hv:=bp hs hy;rw[hx] at hv;obtain ⟨cs,q1,q2⟩:=hv;simp only[ae] at q2;obtain ⟨u,cs',q3,q4,q5⟩:=q2;simp only[az] at q5;subst q5;have hu:u=.agg #[]:=by simpa[aY,I.isAgg] using q4
  have hval:a.eval x0=.iface t (.agg #[]):=by simpa[aY,I.isAgg,q3,hu] using q1.symm
  have hrun:(execOp a.eval o).run c.P w=.halt (.panic (.iface t (.agg #[]))) w:=by simp[execOp,ho,hval,Instr.panic,goPanic]
  refine ⟨iX,?_⟩;rw[jq hop0,hrun,Oper.uponIn_panic];exact ⟨A,hq,D,E,hs⟩
theorem U.Xn{gs:List au}(k:Nat){g:br}{dst:Option Nat}(hk:gs=gs.take k++⟨dst,g,none⟩::gs.drop (k+1))(h:∀ K:ab→Prop,(∀ B,lG c.P Q g B→K B)→aX c.P c.Y false K (ao (gs.take k) A)):U c (.bN none gs) Q A:=by
 intro code hc a w hs;cases code <;>simp only[dL] at hc <;>try (first | (cases hc;done) | ((repeat' split at hc) <;>cases hc;done))
 rename_i id bf draw;split at hc
 case h_2=>cases hc
 rename_i gs' hgs;split at hc
 case isFalse=>cases hc
 simp only[v6,bl.bN.injEq] at hc;obtain ⟨hdr,rfl⟩:=hc;cases draw with
 |true=>simp at hdr
 |false =>
  refine wpIn_region_list ?_;rw[hk] at hgs;obtain ⟨l1,o,l2,hl,h1,h2⟩:=yW hgs;rw[hl];refine rF (K:=lG c.P Q g) (fun B a' w' hp hs' =>?_) l1 _ A a w h1 (h _ fun _ hb=>hb) hs;obtain ⟨q1,q2,q3,q4⟩:=nF h2;have wn:Region.wanted o (yielded bf a'.tmps)=true:=by
   rcases q4 with ⟨a5,_⟩ | ⟨_,_,_,_,_,a5⟩
   ·simp[Region.wanted,a5]
   ·simp at a5
  simp only[wpListIn,wn,if_true];exact WN q1 hp hs'
theorem U.lp{gs gs1 gs2:List au}{g:br}{dst:Option Nat}(e:gs=gs1++⟨dst,g,none⟩::gs2)(h:∀ K:ab→Prop,(∀ B,lG c.P Q g B→K B)→aX c.P c.Y false K (ao gs1 A)):U c (.bN none gs) Q A:=by
 subst e;refine U.Xn gs1.length (g:=g) (dst:=dst) ?_ fun K hK =>?_
 ·simp
 ·simpa using h K hK
end
section
variable {P:Program} {n:Nat} {w:World} {D:aJ} {E:aM} {rs:List bt} {post:bX} {fn:Func} {ch:List PanicEntry} {f:FuncId} {N b:Nat}
theorem n5{bh:Fence}{m:Nat}{tmps:Array Value}{R R':Ending→World→Prop}(hr:∀ e w,R e w→R' e w):∀ (ds:List Deferred) (u:FrameMode) (w:World),LeavesInM bh m P fn tmps R ds u w→LeavesInM bh m P fn tmps R' ds u w
 | [],u,w,h=>by
  cases u with
  |run=>exact h
  |returning=>obtain ⟨v,h1,h2⟩:=h;exact ⟨v,h1,hr _ _ h2⟩
  |panicking c=>exact hr _ _ h
 |d::ds,u,w,h=>by
  obtain ⟨h1,h2⟩:=h;refine ⟨h1,?_⟩;rcases h2 with ⟨r,w',k1,k2,k3⟩ | ⟨k1,fv,cap,g,args,k2,k3,k4,k5⟩
  ·exact .inl ⟨r,w',k1,k2,n5 hr ds u w' k3⟩
  ·refine .inr ⟨k1,fv,cap,g,args,k2,k3,k4,k5.mono fun e u' w' h =>?_⟩;cases e with
   |returned v=>exact n5 hr ds _ w' h
   |panicked c=>exact n5 hr ds _ w' h
   |outgrown=>exact hr _ _ h
def qd(P:Program)(fn:Func)(rest:Code)(slots:List Nat)(a:Act)(vs:Array Value)(w:World)(R:Ending→World→Prop):Prop :=
 vs.toList=slots.map (fun t=>a.tmps.getD t undef)→rest.wpIn Fence.wide 9 P (bodyPostM Fence.wide 9 P fn R) a w
theorem qd.mono{rest:Code}{slots:List Nat}{a:Act}{vs:Array Value}{w:World}{R R':Ending→World→Prop}(h:qd P fn rest slots a vs w R)(hr:∀ e w,R e w→R' e w):qd P fn rest slots a vs w R':=fun hv=>by
 refine wpIn_mono (h hv) fun e a' w' q =>?_;cases e <;>simp only[bodyPostM] at q ⊢ <;>first
  |exact n5 hr _ _ _ q
  |exact hr _ _ q
  |exact q
theorem Ez{w:World}{D:aJ}{E:aM}(g:Nat→Value):∀ (slots:List Nat) (args:List I),ak w D E args (slots.map g)→∀ t,aP w D E (b8 (slots.zip args) t) (g t)
 | [],args,h,t=>by simp[b8,aP]
 |s::slots,[],h,t=>by simp[b8,aP]
 |s::slots,x::args,h,t=>by
  simp only[ak,Z3] at h;obtain ⟨v,rest,cs,e,h1,h2,h3⟩:=h;simp only[Y7] at e;obtain ⟨rfl,rfl⟩:=e;simp only[List.zip_cons_cons,b8];split
  ·rename_i hk;subst hk;exact fm h1 h2
  ·exact Ez g slots args h3 t
end
abbrev qX(P:Program)(w:World)(D:aJ)(n:Nat)(E:aM)(b:Option (List Deferred)):b9:=⟨P,w,D,n,bR E,E,fw,none,b⟩
theorem aL.Vg{P:Program}{n:Nat}{w:World}{D:aJ}{E:aM}{dK:Option (List Deferred)}{post:bX}{A:ab}{a:Act}{w':World}{D':aJ}{E':aM}{r:I}{v:Value}{os:List (Nat×ai)}
  (hs:aL (qX P w D n E dK) A a w' D' E') (h1:∀ m z,aD os m=some z→A.o m=some z∧z.only (aI os)=true∧z.ed=true) (hf:r.flat=true) (hv:aP w' D' E' r v) (hp:post r os):kJ w D E post v w':=by
 obtain ⟨D2,E2,hw,e2,e2n,q1,q2,q3,q4,q5,q6⟩:=hs.vg h1;exact ⟨D2,E2,r,os,hp,aP.flat hf hv,q1,q2,q3,q4,q5,q6⟩
def jM(b:Nat):Value:=.pointer (some ⟨b,0,none⟩)
def qA(P:Program)(f:FuncId)(k:Nat):Prop:=dM P f=true∧∀ (bs:List Nat) (w:World),bs.length=k →
 CallsDIn Fence.wide 8 P f (bs.map jM).toArray .returning w fun e u' w'=>(∃ v,e=.returned v)∧u'=.returning∧w'=w
def mZ(A:ab):List Nat→List I→ab
 |N::Ns,z::zs=>mZ (A.aQ N (.box z)) Ns zs
 |_,_=>A
def kH(E:aM):List Nat→List Nat→List I→Prop
 | [],[],[]=>True
 |N::Ns,b::bs,z::zs=>E N=some (.aB b z.aK)∧kH E Ns bs zs
 |_,_,_=>False
def nv(A:ab):List Nat→List I→Prop
 | [],[]=>True
 |N::Ns,z::zs=>(∃ x,A.o N=some (.box x)∧x.aK=z.aK)∧nv A Ns zs
 |_,_=>False
def qw(P:Program)(f:FuncId)(ch:List PanicEntry)(zs:List I):Prop:=dM P f=true∧∀ (c:b9) (A:ab) (a:Act) (w:World) (D:aJ) (E:aM) (Ns bs:List Nat),c.P=P→aL c A a w D E→kH E Ns bs zs→nv A Ns zs →
 CallsDIn Fence.wide 8 P f (bs.map jM).toArray (.panicking ch) w fun e u' w'=>(∃ v,e=.returned v)∧settle u'=.returning∧aL c (mZ A Ns zs) a w' D E
def jx(f:FuncId)(vs:List Value):Deferred := { target:=.fn (.func f) vs.toArray,args := #[] }
def pY(rs:List bt)(post:bX)(ch:List PanicEntry)(Ns:List Nat)(zs:List I):Exit→ab→Prop
 | .ret,A=>nv A Ns zs∧iF rs post A
 | .panic ch',A=>ch'=ch∧nv A Ns zs∧iF rs post (mZ A Ns zs)
 |_,_=>False
theorem kH.len{E:aM} : ∀ {Ns bs:List Nat} {zs:List I},kH E Ns bs zs→bs.length=zs.length∧Ns.length=zs.length
 | [],[],[],_=>⟨rfl,rfl⟩
 |_::Ns,_::bs,_::zs,h=>by
  have:=kH.len h.2;simp[this.1,this.2]
 | [],_::_,_,h=>h.elim
 | [],[],_::_,h=>h.elim
 |_::_,[],_,h=>h.elim
 |_::_,_::_,[],h=>h.elim
section
variable {P:Program} {n:Nat} {w:World} {D:aJ} {E:aM} {rs:List bt} {post:bX} {fn:Func} {ch:List PanicEntry} {f:FuncId} {Ns bs:List Nat} {zs:List I}
theorem xN{A:ab}{a:Act}{w':World}{D':aJ}{E':aM}{dK:Option (List Deferred)}(hs:aL ⟨P,w,D,n,bR E,E,fw,none,dK⟩ A a w' D' E'):∀ {Ns bs:List Nat} {zs:List I},kH E Ns bs zs→nv A Ns zs→kH E' Ns bs zs
 | [],[],[],_,_=>trivial
 |N::Ns,b::bs,z::zs,h,hx=>by
  refine ⟨?_,xN hs h.2 hx.2⟩;obtain ⟨x,hx,_⟩:=hx.1;have hob:cS _ w' D' E' N (some (.box x)):=hx▸hs.bx N;rcases hs.uO (n:=N) (e:=.aB b z.aK) h.1 rfl with k | k
  ·exact absurd k (pP hob)
  ·exact k
 | [],_::_,_,h,_=>h.elim
 | [],[],_::_,h,_=>h.elim
 |_::_,[],_,h,_=>h.elim
 |_::_,_::_,[],h,_=>h.elim
theorem Bf(hrs:fP P fn.results.toList=some rs)(hEN:kH E Ns bs zs){A:ab}{D':aJ}{E':aM}{u:FrameMode}(hx:nv A Ns zs)
  (hcase:(u=.returning∧iF rs post A∧qA P f zs.length)∨(u=.panicking ch∧iF rs post (mZ A Ns zs)∧qw P f ch zs)) :
  ∀ (ds:List Deferred) (a:Act) (w':World),a.defers=ds→aL ⟨P,w,D,n,bR E,E,fw,none,some [jx f (bs.map jM)]⟩ A a w' D' E'→LeavesInM Fence.wide 9 P fn a.tmps (fun e w'=>∃ v,e=.returned v∧kJ w D E post v w') ds u w'
 | [],a,w',hd,hs=>by
  have h1:a.defers=[jx f (bs.map jM)]:=hs.ec;rw[hd] at h1;cases h1
 |d::ds,a,w',hd,hs=>by
  have h1:a.defers=[jx f (bs.map jM)]:=hs.ec;rw[hd] at h1;simp only[Y7] at h1;obtain ⟨rfl,rfl⟩:=h1;refine ⟨by rcases hcase with ⟨rfl,_⟩ | ⟨rfl,_⟩ <;>simp,.inr ⟨fun _=>by decide,.func f,(bs.map jM).toArray,f,(bs.map jM).toArray,rfl,?_,fun _ _=>trivial,?_⟩⟩
  ·have hcb:dM P f=true:=by rcases hcase with ⟨_,_,h⟩ | ⟨_,_,h⟩ <;>exact h.1
   simp only[jx,invoke,ma hcb,Array.empty_append]
  ·rcases hcase with ⟨rfl,hr,hi⟩ | ⟨rfl,hr,hc⟩
   ·refine (hi.2 bs w' hEN.len.1).mono ?_;rintro e u' w'' ⟨⟨v,rfl⟩,rfl,rfl⟩;obtain ⟨v,h1,h2⟩:=hs.rV hrs hr;exact ⟨v,h1,v,rfl,h2⟩
   ·refine (hc.2 _ A a w' D' E' Ns bs rfl hs (xN hs hEN hx) hx).mono ?_;rintro e u' w'' ⟨⟨v,rfl⟩,hu,hs2⟩;obtain ⟨v,h1,h2⟩:=hs2.rV hrs hr;simp only[hu];exact ⟨v,h1,v,rfl,h2⟩
theorem B8{w:World}{D:aJ}{E:aM} : ∀ {Ns:List Nat} {zs:List I} {vs:List Value},dS (aP w D E) (Ns.map fun N=>.ptr N []) vs→(∀ q∈Ns.zip zs,∃ b,E q.1=some (.aB b q.2.aK))→Ns.length=zs.length→∃ bs,vs=bs.map jM∧kH E Ns bs zs
 | [],[],_,.nil,_,_=>⟨[],rfl,trivial⟩
 |N::Ns,z::zs,_,.cons h hs,hb,hl=>by
  obtain ⟨bs,rfl,h2⟩:=B8 (zs:=zs) hs (fun q hq=>hb q (by simp[hq])) (by simpa using hl);obtain ⟨b,aq⟩:=hb (N,z) (by simp);obtain ⟨b',aK,off,p1,p2,rfl⟩:=ky h;simp only at aq;rw[aq] at p1;simp only[v6,bu.aB.injEq] at p1;obtain ⟨rfl,rfl⟩:=p1;have hoff:off=0:=by
   cases hz:z.aK <;>rw[hz] at p2 <;>simpa[bM.off] using p2.symm
  subst hoff;exact ⟨b::bs,rfl,aq,h2⟩
 | [],_::_,_,_,_,hl=>by simp at hl
 |_::_,[],_,_,_,hl=>by simp at hl
theorem qG{α:Type}{R:I→Value→Prop}{f:α→I}{g:α→Value}(h:∀ x,R (f x) (g x)):∀ l:List α,dS R (l.map f) (l.map g)
 | []=>.nil
 |x::l=>.cons (h x) (qG h l)
theorem Xz{rest:Code}{x:bl}{slots:List Nat}{a:Act}{args:List I}{os:List (Nat×ai)}{tss:List Nat}(hrs:fP P fn.results.toList=some rs)(hx:dL P n rest=some x)(hsz:a.tmps.size=n)(hd:a.defers=[jx f (tss.map fun t=>a.tmps.getD t undef)])(hos:∀ m,aI os m=true→n≤m∧1000000≤m)
  (hts:tss.map (b8 (slots.zip args))=Ns.map fun N=>.ptr N []) (hl:Ns.length=zs.length) (hN:∀ q∈Ns.zip zs,∃ y,aD os q.1=some (.box y)∧y.aK=q.2.aK) (hi:qA P f zs.length) (hc:qw P f ch zs)
  (hAW:∀ (w:World) (D:aJ) (E:aM) (d:Deferred),U ⟨P,w,D,n,bR E,E,fw,none,some [d]⟩ x (pY rs post ch Ns zs) (aw (slots.zip args) os)):mi (qd P fn rest slots a) (fun w _ E=>ew P w (bR E)) args os post:=by
 intro w D E vs hl0 hD ho hv hvs;have hvs':vs=slots.map (fun t=>a.tmps.getD t undef):=by simpa using hvs
 subst hvs';have htm:=Ez (fun t=>a.tmps.getD t undef) slots args hv;have hp:=qG htm tss;rw[hts] at hp;obtain ⟨bs,hbs,hat⟩:=B8 (zs:=zs) hp (fun q hq=>by
  obtain ⟨y,h1,h2⟩:=hN q hq;have hob:cS _ w D E q.1 (some (.box y)):=h1▸ho.bx q.1;obtain ⟨b',cs,T,e1,_⟩:=hob;exact ⟨b',by rw[e1,h2]⟩) hl
 rw[hbs] at hd;have hsim:aL ⟨P,w,D,n,bR E,E,fw,none,some [jx f (bs.map jM)]⟩ (aw (slots.zip args) os) a w D E:=by
  refine ⟨hsz,hd,htm,ej.refl _ _,fun _ _ h _=>h,hD,fun m =>?_,ho.cu,fun m e h=>.inr ⟨e,h,.refl e⟩,fun m hm =>?_,fun _ _ h=>h,oG hl0,.refl _ _⟩
  ·have h:=ho.bx m;simp only[aw];cases hx:aD os m with
   |none=>rw[hx] at h;exact h
   |some x=>rw[hx] at h;exact cS.jj h fun e b he hb=>.inr ⟨m,e,he,hb⟩
  ·refine hos m ?_;cases hx:aD os m with
   |none=>have h:=ho.bx m;rw[hx] at h;exact absurd h hm
   |some x=>simp[aI,hx]
 refine wpIn_mono ((hAW w D E _) rest hx a w ⟨D,E,hsim⟩) ?_;rintro e a' w' ⟨A,hq,D',E',hs⟩;have ba:∀ e w',(∃ v,e=Ending.returned v∧kJ w D E post v w')→∃ v D' E' r os',e=.returned v∧post r os'∧aP w' D' E' r v∧iW (fun b=>w.heap.size≤b∨bR E b) w' D' E' (aD os') ∧
   ej (fun b=>w.heap.size≤b∨bR E b) w w'∧(∀ b o,D b o→D' b o)∧(∀ b o,D' b o→b<w'.heap.size)∧(∀ b o,D' b o→b<w.heap.size→¬ bR E b→D b o) ∧
   (∀ n e,E n=some e→aI os' n=true→∃ e',E' n=some e'∧e.e8 e')∧fN w D w':=fun e w' ⟨v,h1,D',E',r,os',h2⟩=>⟨v,D',E',r,os',h1,h2⟩
 cases e <;>simp only[pY] at hq
 ·obtain ⟨h1,h2⟩:=hq;exact n5 ba _ _ _ (Bf (ch:=ch) hrs hat h1 (.inl ⟨rfl,h2,hi⟩) a'.defers a' w' rfl hs)
 ·obtain ⟨rfl,h1,h2⟩:=hq;exact n5 ba _ _ _ (Bf hrs hat h1 (.inr ⟨rfl,h2,hc⟩) a'.defers a' w' rfl hs)
end
def oC:List ay→Option (List Nat)
 | []=>some []
 | .t n::l=>(oC l).map (n :: ·)
 |_=>none
theorem EA:∀ {l:List ay} {ts:List Nat},oC l=some ts→l=ts.map .t
 | [],ts,h=>by simp only[oC,v6] at h;subst h;rfl
 | .t n::l,ts,h=>by
  simp only[oC,t7] at h;obtain ⟨r,h1,rfl⟩:=h;rw[EA h1];rfl
 | .c _::_,_,h=>by simp[oC] at h
def uj(P:Program)(n:Nat):Code→Option (bl×FuncId×List Nat×Nat×bl)
 | .seq iv (.seq (.region _ bf false) rest)=>match bf.toList with
  | [o1,o2]=>match kR P n bf o1,o2.op with
   |some ⟨some t5,.mk g caps,none⟩,.defer { callee:=.value (.tmp t),args,.. } =>if t=t5∧args = #[]∧o2.guard=none∧o2.dst=none then (match dL P n iv,dL P n rest,oC caps with
     |some x0,some x,some tss=>some (x0,g,tss,t5,x)
     |_,_,_=>none)
    else none
   |_,_=>none
  |_=>none
 |_=>none
structure FH (P:Program) (n:Nat) (x:bl) (rs:List bt) (post:bX) (ch:List PanicEntry) (g:FuncId) (tss:List Nat) (t5:Nat) (tsl:List (Nat×I)) (os0:List (Nat×ai)) (ρ:List (Nat×Nat)) (os1:List (Nat×ai)) (slots:List Nat) (cargs:List I) (Ns:List Nat) (zs:List I) (post1:bX):Prop where
 bg:tss.map (b8 tsl)=Ns.map fun N=>.ptr (bq ρ N) []
 AK:eM ρ os1 os0
 arg:fO false (aw ((t5,.func g (Ns.map fun N=>.ptr (bq ρ N) []))::tsl) (dO (ir ρ os1) os0)) ρ os1 (slots.map (b8 ((t5,.func g (Ns.map fun N=>.ptr (bq ρ N) []))::tsl))) cargs
 xE:∀ r os',post1 r os'→dv false ρ os1 os0 r os'
 D9:tss.map (b8 (slots.zip cargs))=Ns.map fun N=>.ptr N []
 len:Ns.length=zs.length
 box:∀ q∈Ns.zip zs,∃ y,aD os1 q.1=some (.box y)∧y.aK=q.2.aK
 lP:∀ m,aI os1 m=true→n≤m∧1000000≤m
 rest:∀ (w:World) (D:aJ) (E:aM) (d:Deferred),U ⟨P,w,D,n,bR E,E,fw,none,some [d]⟩ x (pY rs post1 ch Ns zs) (aw (slots.zip cargs) os1)
 kN:∀ r os',post1 r os'→∃ osF,r.flat=true∧r.aS (bq ρ)=r∧(∀ m z,aD osF m=some z→aD (cX ρ os'++os0) m=some z∧z.only (aI osF)=true∧z.ed=true)∧post r osF
theorem B9{w:World}{D:aJ}{E:aM}{ρ:List (Nat×Nat)} : ∀ {Ns:List Nat} {vs vs':List Value},dS (aP w D E) (Ns.map fun N=>.ptr (bq ρ N) []) vs→dS (aP w D E) (Ns.map fun N=>.ptr (bq ρ N) []) vs'→vs=vs'
 | [],_,_,.nil,.nil=>rfl
 |N::Ns,_,_,.cons h hs,.cons h' hs'=>by
  obtain ⟨b1,sh1,off1,p1,p2,rfl⟩:=ky h;obtain ⟨b2,sh2,off2,q1,q2,rfl⟩:=ky h';rw[p1] at q1;simp only[v6,bu.aB.injEq] at q1;obtain ⟨rfl,rfl⟩:=q1;rw[p2] at q2;simp only[v6] at q2;subst q2;rw[B9 hs hs']
theorem eL.Wq{P:Program}{f:FuncId}{fn:Func}{x0 x:bl}{g:FuncId}{tss:List Nat}{t5:Nat}{rs:List bt}{args:List I}{os:List (Nat×ai)}{post:bX}{ch:List PanicEntry}{zs:List I}(hf:P.funcs[f]?=some fn)(hcall:dM P f=true)(hc:(fn.body.bind (uj P fn.ntmps))=some (x0,g,tss,t5,x))
  (hrs:fP P fn.results.toList=some rs) (hn:args.length≤fn.ntmps) (hn2:fn.ntmps≤1000000) (hos:∀ m,aI os m=true→1000000≤m) (hi:qA P g zs.length) (hca:qw P g ch zs) (hts:tss.contains t5=false)
  (h:I.gu args→∀ (w:World) (D:aJ) (E:aM),U ⟨P,w,D,fn.ntmps,bR E,E,fw,none,some []⟩ x0 (cQ (fun B=>∃ tsl os0 ρ os1 slots cargs Ns post1,B=aw tsl os0∧FH P fn.ntmps x rs post ch g tss t5 tsl os0 ρ os1 slots cargs Ns zs post1) (fun _ _=>False)) (aw (bA 0 args) os)):eL P f args os post:=by
 obtain ⟨body,hb,hc⟩:=zy5.1 hc;refine ⟨hcall,fun w D E vs hl hD ho hv =>?_⟩;have hlen:=qe hv;have s0:=wE (P:=P) (n:=fn.ntmps) (Y:=fw) hD ho hv (by omega) (fun m hm=>⟨Nat.le_trans hn2 (hos m hm),hos m hm⟩) (oG hl);have hsim:aL (qX P w D fn.ntmps E (some [])) (nj args os) { tmps:=vs.toArray++Array.replicate (fn.ntmps-vs.toArray.size) undef,defers:=[] } w D E :=
  ⟨s0.sz,rfl,s0.dB,s0.de,s0.cI,s0.cK,s0.bx,s0.cu,s0.dx,s0.eJ,s0.cw,oG hl,s0.fq⟩
 obtain ⟨RR,hRR⟩:∃ RR:Ending→World→Prop,RR=fun e w'=>∃ v,e=.returned v∧kJ w D E post v w':=⟨_,rfl⟩
 refine Calls.mono (R:=RR) ?_ (fun e w' q=>by rw[hRR] at q;obtain ⟨v,he,D',E',r,os',k⟩:=q;exact ⟨v,D',E',r,os',he,k⟩);refine (callsIn_wide (n:=9)).1 (callsIn_of_wp_marks hf hb trivial ?_);unfold uj at hc;split at hc
 case h_2=>cases hc
 rename_i iv id bf rest;split at hc
 case h_2=>cases hc
 rename_i o1 o2 hops;split at hc
 case h_2=>cases hc
 rename_i t5' g' caps t dargs _ hg1 ho2;split at hc
 case isFalse=>cases hc
 rename_i hok;obtain ⟨ht,hda,hgd,hdst⟩:=hok;split at hc
 case h_2=>cases hc
 rename_i y0 y tss' hx0 hx htt;simp only[v6,Prod.mk.injEq] at hc;obtain ⟨e1,e2,e3,e4,e5⟩:=hc;subst e4 ht hda e1 e2 e3 e5;have hcaps:=EA htt;subst hcaps;refine wpIn_seq ?_;have hw0:=((h (ox _ _ hv) w D E).sub (te args os)) iv hx0 _ w ⟨D,E,hsim⟩;refine wpIn_mono hw0 ?_;rintro e a1 w1 ⟨B,hq,D1,E1,hs1⟩;cases e <;>simp only[cQ] at hq
 obtain ⟨tsl,os0,ρ,os1,slots,cargs,Ns,post1,rfl,R⟩:=hq;simp only[Exit.then];refine wpIn_seq (wpIn_region_list ?_);rw[hops];obtain ⟨q1,q2,q3,q4⟩:=nF hg1;simp only at q1 q2;have wn1:∀ a:Act,Region.wanted o1 (yielded bf a.tmps)=true:=fun a=>by
  rcases q4 with ⟨a5,_⟩ | ⟨_,_,_,_,_,a5⟩
  ·simp[Region.wanted,a5]
  ·simp at a5
 have wn2:∀ a:Act,Region.wanted o2 (yielded bf a.tmps)=true:=fun a=>by simp[Region.wanted,hgd]
 simp only[wpListIn,wn1,if_true];have hmk:aU (aw tsl os0) (.mk g' (tss'.map .t))=some (.func g' (Ns.map fun N=>.ptr (bq ρ N) [])):=by
  have e:(tss'.map ay.t).map (af (aw tsl os0))=Ns.map fun N=>.ptr (bq ρ N) []:=by
   rw[←R.bg,List.map_map];rfl
  simp only[aU,e];rw[if_pos];simp[I.cC]
 have d1:=(Cb (c:=qX P w D fn.ntmps E (some [])) q1 hmk).does q3;rw[←q2] at d1;refine d1.wp q1 ⟨D1,E1,hs1⟩ fun a2 w2 hs2 =>?_;obtain ⟨D2,E2,hs2⟩:=hs2;simp only[wn2,if_true];rw[Bt] at hs2
 -- the deferred call
 have hglt:=zb hi.1;have hfv:=hs2.dB t;simp only[aw,b8,if_true] at hfv;obtain ⟨fc,f1,f2⟩:=hfv;simp only[ae] at f2;obtain ⟨fvs,f3,f4⟩:=f2;have hval:a2.tmps.getD t undef=.func (.func g') #[] fvs.toArray:=by
  rw[←lO hglt];simpa[aY,I.isAgg,f3] using f1.symm
 have htl:tss'.map (b8 ((t,.func g' (Ns.map fun N=>.ptr (bq ρ N) []))::tsl))=Ns.map fun N=>.ptr (bq ρ N) []:=by
  rw[←R.bg];refine List.map_congr_left fun k hk =>?_;simp only[b8];rw[if_neg];intro e;have:tss'.contains k=true:=by simpa using hk
  rw[e,hts] at this;cases this
 have hfvs:fvs=tss'.map fun k=>a2.tmps.getD k undef:=by
  refine B9 (w:=w2) (D:=D2) (E:=E2) (ρ:=ρ) (ou f4) ?_;have:=qG (f:=b8 ((t,.func g' (Ns.map fun N=>.ptr (bq ρ N) []))::tsl)) (g:=fun k=>a2.tmps.getD k undef) (fun k=>hs2.dB k) tss'
  rwa [htl] at this
 have hdf:a2.defers=[]:=hs2.ec;obtain ⟨a3,ha3⟩:∃ a3:Act,a3 = { a2 with defers:=[jx g' (tss'.map fun k=>a2.tmps.getD k undef)] } :=⟨_,rfl⟩
 have hrun:(o2.semAt Fence.wide.round a2.eval).run P w2=.ok (.defer (jx g' (tss'.map fun k=>a2.tmps.getD k undef))) w2:=by
  show (execOp a2.eval o2).run P w2=_
  have he:a2.eval (.tmp t)=.func (.func g') #[] fvs.toArray:=hval;simp[execOp,ho2,resolve,he,Deferred.ofValue,jx,hfvs]
 refine ⟨fun _ _=>trivial,?_⟩;rw[hrun,Oper.uponIn_defer,hdf,hdst];simp only[Exit.then];have hput:({ tmps:=a2.tmps,defers:=[jx g' (tss'.map fun k=>a2.tmps.getD k undef)] } : Act).put none undef=a3:=by rw[ha3];rfl
 rw[hput]
 -- the rest
 have hand:=Xz (P:=P) (n:=fn.ntmps) (fn:=fn) (f:=g') (Ns:=Ns) (zs:=zs) (ch:=ch) (slots:=slots) (a:=a3) (args:=cargs) (os:=os1) (tss:=tss') hrs hx (by rw[ha3];exact hs2.sz) (by rw[ha3]) R.lP R.D9 R.len R.box hi hca R.rest;have hs3:aL (qX P w D fn.ntmps E (some [jx g' (tss'.map fun k=>a2.tmps.getD k undef)])) (aw ((t,.func g' (Ns.map fun N=>.ptr (bq ρ N) []))::tsl) os0) a3 w2 D2 E2:=by
  rw[ha3];exact ⟨hs2.sz,rfl,hs2.dB,hs2.de,hs2.cI,hs2.cK,hs2.bx,hs2.cu,hs2.dx,hs2.eJ,hs2.cw,oG hl,hs2.fq⟩
 have hall:∀ l:List Nat,dS (aP w2 D2 E2) (l.map (b8 ((t,.func g' (Ns.map fun N=>.ptr (bq ρ N) []))::tsl))) (l.map fun k=>a3.tmps.getD k undef):=fun l=>qG (fun k=>hs3.dB k) l;have hus:=hand.use hs3 false (fun h hr=>h.mono hr) ⟨(fun h=>by cases h),fun _=>hs3.nZ⟩ R.AK R.arg R.xE (hall slots);refine qd.mono hus ?_ (by simp);rintro e w' ⟨v,r,os',D4,E4,rfl,hp,hs4,hv4,_⟩;rw[hRR];obtain ⟨osF,g1,g2,g3,g4⟩:=R.kN r os' hp;rw[g2] at hv4;exact ⟨v,rfl,hs4.Vg g3 g1 hv4 g4⟩
end Go.Abs
namespace Go.Abs
open Go Go.RowKit
open Enc (enc)
def js(w:World):aJ:=fun b _=>b<w.heap.size
structure qD (P:Program) (t:TypeId) (α:Type) [Enc α]:Prop where
 cells:P.cellsOf t=Enc.sz α
 sE:0<Enc.sz α
 mK:∀ {H:Type} {enc0:TypeId×Value→H} {w:World} {fuel:Nat} {cs:List Value} {x:DataW H×List MemPlace},DataW.trod enc0 P w 0 (fun _=>true) true fuel t cs=some x→∃ a:α,ae w (js w) cd (enc a) cs
theorem WI{P:Program}{t:TypeId}(ht:P.underlying t=some (.int .i64))(hc:P.cellsOf t=1):qD P t Int :=
 ⟨hc,by decide,fun h=>by
  obtain ⟨n,rfl,_,hw⟩:=DataW.trod_int ht h;refine ⟨n,?_⟩;rw[uu,ae];simp only[Lit.wf,Z0,decide_eq_true_eq] at hw;exact ⟨rfl,hw.1,hw.2⟩⟩
theorem FP(a:Addr)(i j:Nat):(a.add i).add j=a.add (i+j):=by
 unfold Addr.add;by_cases hi:i=0 <;>by_cases hj:j=0 <;>simp[hi,hj,Nat.add_assoc]
end Go.Abs
namespace Go.Abs
open Go Go.RowKit Go.ChangeShapes
open Enc (enc)
def rP(P:Program)(t:TypeId)(l:List (TypeId×Nat)):Bool:=match P.underlying t with
 |some (.struct fs)=>fs.toList.map (fun f=>(f.type,f.offset))==l
 |_=>false
def AV(P:Program)(t:TypeId)(n:Nat)(e:TypeId):Bool:=match P.underlying t with
 |some (.array n' e')=>n'==n&&e'==e
 |_=>false
theorem UI{P:Program}{t:TypeId}{n:Nat}{e:TypeId}(h:AV P t n e=true):P.underlying t=some (.array n e):=by
 unfold AV at h;split at h
 ·rename_i n' e' ht;simp only[Z0,beq_iff_eq] at h;rw[ht,h.1,h.2]
 ·cases h
theorem UK{P:Program}{t:TypeId}{l:List (TypeId×Nat)}(h:rP P t l=true):∃ fs,P.underlying t=some (.struct fs)∧fs.toList.map (fun f=>(f.type,f.offset))=l:=by
 unfold rP at h;split at h
 ·rename_i fs ht;exact ⟨fs,ht,by simpa using h⟩
 ·cases h
theorem WT{H:Type}{enc0:TypeId×Value→H}{P:Program}{f:Func}{s:ChangeSpec}{apart jA handsOn again:Bool}{W W':World}{args:Array Value}{v:Value}{ds gs:List (DataW H)}{before pa pv:List MemPlace}
  (hW:DataW.Whole enc0 P f.params.toList s.vars apart W args.toList ds gs before)
  (hres:∀ (b:Nat) (sp:Nat→Bool) (hd:Bool),DataW.TrodAll enc0 P W' b sp hd f.resultTypes.toList (v.resultList f.resultTypes.size) (s.fn H (ds++gs)).results [])
  (hargs:∀ sp:Nat→Bool,(∀ p∈before,sp p.block=true)→DataW.TrodAll enc0 P W' 0 sp true f.params.toList args.toList (s.fn H (ds++gs)).args pa)
  (hvars:∀ sp:Nat→Bool,(∀ p∈before,sp p.block=true)→DataW.TrodVars enc0 P W' sp s.vars (s.fn H (ds++gs)).vars pv)
  (hps:before=pa++pv) (hb:Below W.heap.size W W')
  (hok:∀ (j:Nat) (t:TypeId) (r:Value),f.resultTypes[j]?=some t→(v.resultList f.resultTypes.size)[j]?=some r→Value.okWide P W' .any 0 t r) :
  s.post enc0 P f apart jA handsOn again W args v W':=by
 have hlt:∀ p∈before,p.block<W.heap.size:=fun p hp=>by simpa using hW.lt p hp
 have hold:∀ p∈before,(fun b=>decide (b<W.heap.size)) p.block=true:=fun p hp=>by simpa using hlt p hp
 refine ⟨ds,gs,before,[],pa,pv,hW,hres _ _ _,hargs _ hold,hvars _ hold,World.keptBut_mono (fun p hp=>⟨hp,?_⟩) (hb.frame (· ∈ before)),fun _ =>?_⟩
 ·rw[hps,zz7] at hp;exact Or.inr hp
 ·obtain ⟨_,_,_,_,_,hz,hn⟩:=hW;refine ⟨hok,_,_,([]++pa)++pv,⟨[]++pa,pv,trodAll_append (hargs _ (fun _ _=>rfl)) (hres _ _ _),hvars _ (fun _ _=>rfl),rfl,?_,?_⟩,?_⟩
  ·intro b off hp;have hp':MemPlace.cell b off∈before:=by rw[hps];simpa using hp
   rw[hb.frozen (p:=⟨b,off,none⟩) (hlt _ hp')];exact hz b off hp'
  ·intro ha;have:=hn ha;rw[hps] at this;simpa using this
  ·intro p hp _;rw[hps];simpa using hp
theorem U0{P:Program}{f:FuncId}{fn:Func}{s:ChangeSpec}{H:Type}{enc0:TypeId×Value→H}{W:World}{ds gs:List (DataW H)}{before:List MemPlace}{xs:List I}{tb:TypeId}{v0 v1 v2:Value}{t0 t1 t2:TypeId}{d0 d1 d2:DataW H}{p0 p1 p2:List MemPlace}{again handsOn jA:Bool}
  (hl:laidOutB P=true) (hpar:fn.params.toList=[t0,t1,t2]) (hds:ds=[d0,d1,d2]) (hgs:gs=[]) (hbef:before=p0++p1++p2)
  (hvars:s.vars=[]) (hfn:s.fn H [d0,d1,d2] = { results:=[.lit (.bool true)],args:=[d0,d1,d2] }) (hres:fn.resultTypes = #[tb]) (htb:P.underlying tb=some .bool)
  (hW:DataW.Whole enc0 P fn.params.toList s.vars false W #[v0,v1,v2].toList ds gs before)
  (h0:DataW.Trod enc0 P W 0 (fun _=>true) true t0 v0 d0 p0) (h1:DataW.Trod enc0 P W 0 (fun _=>true) true t1 v1 d1 p1) (h2:DataW.Trod enc0 P W 0 (fun _=>true) true t2 v2 d2 p2)
  (hr:∀ t∈[t0,t1,t2],P.readableRec t=true∧t<P.types.size)
  (hctr:aR P f xs (enc true)) (hlaid:ew P W (fun _=>False)) (hv:ak W (js W) cd xs [v0,v1,v2]) :
  Calls P f #[v0,v1,v2] W fun e W'=>∃ v,e=.returned v∧s.post enc0 P fn false jA handsOn again W #[v0,v1,v2] v W':=by
 subst hds hgs;refine (hctr.2 W (js W) [v0,v1,v2] hlaid (fun _ _ h=>h) hv).mono fun e W' ⟨v,D',he,hrv,hb,_,_⟩=>⟨v,he,?_⟩
 have hvb:v=.bool true:=kv hrv;subst hvb;have hlt:∀ x∈before,x.block<W.heap.size:=fun x hx=>by simpa using hW.lt x hx
 rw[hbef] at hlt;refine WT (pa:=p0++(p1++p2)) (pv:=[]) hW (fun _ _ _ =>?_) (fun sp hsp =>?_) (fun _ _ =>?_) (by rw[hbef];simp) hb ?_
 ·simp only[List.append_nil,hfn,hres];exact trodAll_mk1 (shut_bool htb true)
 ·simp only[List.append_nil,hfn,hpar];rw[hbef] at hsp;have aV:∀ {t:TypeId} {v:Value} {d:DataW H} {p:List MemPlace},t∈[t0,t1,t2]→DataW.Trod enc0 P W 0 (fun _=>true) true t v d p→(∀ x∈p,x∈p0++p1++p2)→DataW.Trod enc0 P W' 0 sp true t v d p:=fun ht h hp =>
   WideElems.Trod_stays hl (hr _ ht).1 (hr _ ht).2 h (fun x hx=>hb.same (hlt x (hp x hx))) (fun x hx=>hsp x (hp x hx))
  exact trodAll_mk3 (aV (by simp) h0 fun x hx=>by simp[hx]) (aV (by simp) h1 fun x hx=>by simp[hx]) (aV (by simp) h2 fun x hx=>by simp[hx])
 ·simp only[List.append_nil,hfn,hvars];rfl
 ·intro j t r hj hv';rw[hres] at hj hv'
  match j,hj,hv' with
  |0,hj,hv' =>
   simp[Value.resultList] at hj hv';subst hj;subst hv';simp[Value.okWide,htb,Cell.okWide,Cell.ok]
def FG(P:Program)(u:TypeId)(n:Nat)(S:I→Prop):Prop:=P.cellsOf u=n ∧
 ∀ {H:Type} {enc0:TypeId×Value→H} {w:World} {fuel:Nat} {cs:List Value} {x:DataW H×List MemPlace},DataW.trod enc0 P w 0 (fun _=>true) true fuel u cs=some x→∃ v,S v∧ae w (js w) cd v cs
def Wt(P:Program):Nat→List (TypeId×Nat)→List (Nat×(I→Prop))→Prop
 |_,[],[]=>True
 |o,(u,off)::l,(n,S)::Ss=>off=o∧FG P u n S∧Wt P (o+n) l Ss
 |_,_,_=>False
def nA:List (Nat×(I→Prop))→List I→Prop
 | [],[]=>True
 |(_,S)::Ss,v::vs=>S v∧nA Ss vs
 |_,_=>False
theorem iZ{n:Nat}{S:I→Prop}{Ss:List (Nat×(I→Prop))} : ∀ {vs:List I},nA ((n,S)::Ss) vs→∃ v vs',vs=v::vs'∧S v∧nA Ss vs'
 | [],h=>h.elim
 |v::vs,h=>⟨v,vs,rfl,h.1,h.2⟩
theorem qH:∀ {vs:List I},nA [] vs→vs=[]
 | [],_=>rfl
 |_::_,h=>h.elim
def qm:List (Nat×(I→Prop))→Nat
 | []=>0
 |(n,_)::Ss=>n+qm Ss
end Go.Abs
