/-
  A part of the proof that the law RollJoins returns true for every input; five variables of Go's library start as the text lays them (the card ties them); conditions: none beyond the statement's own. (part 3 of 6)
-/
import Derived.Test.YtoffnnjbplgnaaaGreatDoorChecked
import Derived.KernelRfl
import Derived.RangeFuncIn
import Derived.Laws.Externs
import Derived.RecoverIn
import Derived.ProofKit
import Derived.Test.YtoffnnjbplgnaaaGreatDoorNeb
set_option linter.unusedSimpArgs false
set_option linter.unusedVariables false
set_option maxHeartbeats 16000000
set_option maxRecDepth 100000
namespace Go.Abs
open Go Go.RowKit
def bG(ts:List (Nat×I)):List (Nat×I)→Prop
 | []=>True
 |(k,v)::r=>bP ts k=v∧bG ts r
def bJ(os:List (Nat×ai)):List (Nat×ai)→Prop
 | []=>True
 |(k,v)::r=>aE os k=some v∧bJ os r
def bF(p:Nat→Bool):List (Nat×I)→Prop
 | []=>True
 |(_,v)::r=>v.only p=true∧bF p r
theorem wV{ts:List (Nat×I)} : ∀ {ts':List (Nat×I)},bG ts ts'→∀ k,bP ts' k=.cV∨bP ts' k=bP ts k
 | [],_,k=>.inl rfl
 |(j,v)::r,h,k=>by
  simp only[bG] at h;simp only[bP];split
  ·rename_i hk;subst hk;exact .inr h.1.symm
  ·exact wV h.2 k
theorem EY{os:List (Nat×ai)} : ∀ {os':List (Nat×ai)},bJ os os'→∀ k,aE os' k=none∨aE os' k=aE os k
 | [],_,k=>.inl rfl
 |(j,v)::r,h,k=>by
  simp only[bJ] at h;simp only[aE];split
  ·rename_i hk;subst hk;exact .inr h.1.symm
  ·exact EY h.2 k
theorem vM{p:Nat→Bool} : ∀ {ts:List (Nat×I)},bF p ts→∀ k,(bP ts k).only p=true
 | [],_,k=>by simp[bP,I.only]
 |(j,v)::r,h,k=>by
  simp only[bF] at h;simp only[bP];split
  ·exact h.1
  ·exact vM h.2 k
theorem Cr{p:Nat→Bool} : ∀ {os:List (Nat×ai)},bA p os→∀ k x,aE os k=some x→x.only p=true
 | [],_,k,x,hx=>by simp[aE] at hx
 |(j,v)::r,h,k,x,hx=>by
  simp only[bA] at h;simp only[aE] at hx;split at hx
  ·simp only[v6] at hx;subst hx;exact h.1
  ·exact Cr h.2 k x hx
theorem bl.b6{ts ts':List (Nat×I)}{os os':List (Nat×ai)}(h1:bG ts ts')(h2:bJ os os')(h3:bF (al os') ts')(h4:bA (al os') os'):bl (aq ts os) (aq ts' os'):=by
 rintro c a w ⟨D,E,hs⟩;have hp:∀ n,al os' n=true→(if al os' n then E n else none)=E n:=fun n hn=>by simp[hn]
 refine ⟨D,fun n=>if al os' n then E n else none,hs.sz,hs.eb,fun t =>?_,hs.de,hs.cK,hs.cO,fun n =>?_,fun n m e e' b h1 h2 h3 h4 =>?_,fun n e hn =>?_,hs.eD,hs.cA,hs.eS,hs.ft⟩
 ·have:=wV h1 t;rcases this with h | h
  ·simp only[aq];rw[h];simp[aR]
  ·refine aR.dD (p:=al os') hp (vM h3 t) ?_;have:=hs.dF t;simp only[aq] at *;rw[h];exact this
 ·have ho:=hs.bB n;simp only[aq] at *;rcases EY h2 n with h | h
  ·rw[h];simp[cJ,al,h]
  ·rw[h];by_cases hin:aE os n=none
   ·rw[hin];simp[cJ,al,h,hin]
   ·have ao:(if al os' n then E n else none)=E n:=hp n (by simp[al,h];cases hh:aE os n <;>simp_all);cases hx:aE os n with
    |none=>exact absurd hx hin
    |some x =>
     have hon:=Cr h4 n x (h.trans hx);rw[hx] at ho;cases x with
     |box x =>
      obtain ⟨b,cs,T,k1,k2,k3,k4,k5⟩:=ho;exact ⟨b,cs,T,ao.trans k1,k2,k3,ae.dD hp _ _ (by simpa[ai.only] using hon) k4,k5⟩
     |bQ T sz es =>
      obtain ⟨aG,k1,k2,k3⟩:=ho;refine ⟨aG,ao.trans k1,k2,?_⟩;cases aG with
      |none=>exact k3
      |some bc =>
       obtain ⟨b,cap⟩:=bc;obtain ⟨cs,pre,rest,q1,q2,q3,q4,q5⟩:=k3;exact ⟨cs,pre,rest,q1,q2,q3,aH.dD hp _ _ (by simpa[ai.only] using hon) q4,q5⟩
     |dL T xs =>
      obtain ⟨aG,k1,k2,k3⟩:=ho;exact ⟨aG,ao.trans k1,k2,k3⟩
     |c6 x =>
      obtain ⟨b,k1,k2⟩:=ho;exact ⟨b,ao.trans k1,k2⟩
     |cg ks vs =>
      obtain ⟨b,es,ck,k1,k2,k3,k4,k5,k6,k7⟩:=ho;simp only[ai.only,Z0] at hon;exact ⟨b,es,ck,ao.trans k1,k2,k3,k4,ar.dD hp _ _ hon.1 k5,ar.dD hp _ _ hon.2 k6,k7⟩
     |it ks vs left cur =>
      obtain ⟨r,b,es,ck,dK,se,la,k1,k2,k3,k4,k5,k6,k7⟩:=ho;simp only[ai.only,Z0] at hon;exact ⟨r,b,es,ck,dK,se,la,ao.trans k1,k2,k3,k4,ar.dD hp _ _ hon.1 k5,ar.dD hp _ _ hon.2 k6,k7⟩
 ·refine hs.cz n m e e' b ?_ ?_ h3 h4
  ·split at h1
   ·exact h1
   ·cases h1
  ·split at h2
   ·exact h2
   ·cases h2
 ·by_cases hi:al os' n=true
  ·simp only[hi,if_true];exact hs.dw n e hn
  ·simp only[hi];exact .inl rfl
def bD:Nat→List I→List (Nat×I)
 |_,[]=>[]
 |k,a::aS9=>(k,a)::bD (k+1) aS9
theorem BU:∀ (aS9:List I) (k t:Nat),bP (bD k aS9) t=if t<k then .cV else (aS9[t-k]?).getD .cV
 | [],k,t=>by simp[bD,bP]
 |a::aS9,k,t=>by
  simp only[bD,bP,BU aS9 (k+1) t];by_cases h:t=k
  ·subst h;simp
  ·rw[if_neg h];by_cases h2:t<k
   ·rw[if_pos (by omega),if_pos h2]
   ·rw[if_neg (by omega),if_neg h2,show t-k=(t-(k+1))+1 from by omega];simp
theorem tn(args:List I)(os:List (Nat×ai)):bl (nv args os) (aq (bD 0 args) os):=by
 rintro c a w ⟨D,E,hs⟩;refine ⟨D,E,hs.sz,hs.eb,fun t =>?_,hs.de,hs.cK,hs.cO,hs.bB,hs.cz,hs.dw,hs.eD,hs.cA,hs.eS,hs.ft⟩;have:=hs.dF t;simp only[aq,BU,nv,Nat.not_lt_zero,if_false,Nat.sub_zero] at *;cases h:args[t]? with
 |none=>simp[aR]
 |some x=>simpa[zz5,h] using this
theorem Zs(args:List I):bl (nu args) (aq (bD 0 args) []):=tn args []
theorem B1(ts:List (Nat×I))(os:List (Nat×ai))(d:Nat)(v:I):(aq ts os).put d v=aq ((d,v)::ts) os:=rfl
theorem B3(ts:List (Nat×I))(os:List (Nat×ai))(d:Nat)(v:I):(aq ts os).aP (some d) v=aq ((d,v)::ts) os:=rfl
theorem WO(A:ab)(v:I):A.aP none v=A:=rfl
theorem vy(ts:List (Nat×I))(os:List (Nat×ai))(d:Nat)(x:ai):(aq ts os).aS d x=aq ts ((d,x)::os):=rfl
theorem WQ(ts:List (Nat×I))(os:List (Nat×ai))(k:Nat):(aq ts os).t k=bP ts k:=rfl
theorem WN(ts:List (Nat×I))(os:List (Nat×ai))(k:Nat):(aq ts os).o k=aE os k:=rfl
theorem bH(j:Nat)(v:I)(r:List (Nat×I))(k:Nat):bP ((j,v)::r) k=if k=j then v else bP r k:=rfl
theorem cw(j:Nat)(v:ai)(r:List (Nat×ai))(k:Nat):aE ((j,v)::r) k=if k=j then some v else aE r k:=rfl
theorem WD(k:Nat):aE [] k=none:=rfl
theorem Mt(A:ab)(k:Nat):af A (.t k)=A.t k:=rfl
theorem Ms(A:ab)(x:I):af A (.c x)=x:=rfl
noncomputable def cE(d:Option Nat)(rest:List az)(A:ab)(v:I):b9:=av rest (A.aP d v)
theorem Wd(d:Option Nat)(rest:List az)(A:ab)(v:I):cE d rest A v=av rest (A.aP d v):=rfl
theorem Hf(v:I)(k:I→b9):cm (some v) k=k v:=rfl
theorem Gv(A:ab):av [] A=.done A:=rfl
noncomputable def bq(A:ab)(d:Option Nat)(op:bw)(rest:List az):b9:=aW A d op rest (av rest)
noncomputable def fZ(x:I)(b:Bool)(d:Option Nat)(op:bw)(rest:List az)(A:ab):b9 :=
 match x with
 | .bool b'=>if b'=b then bq A d op rest else av rest (A.aP d .undef)
 | .undef=>av rest (A.aP d .undef)
 |_=>.fail
theorem aZ.guard{P:Program}{Y:Value→List I→List (Nat×ai)→cd→Prop}{dr:Bool}{K:ab→Prop}{x b:Bool}{d:Option Nat}{op:bw}{rest:List az}{A:ab}(h1:x=b→aZ P Y dr K (bq A d op rest))(h2:x = !b→aZ P Y dr K (av rest (A.aP d .undef))):aZ P Y dr K (fZ (.bool x) b d op rest A):=by
 unfold fZ;by_cases h:x=b
 ·simp only[if_pos h];exact h1 h
 ·simp only[if_neg h];exact h2 (by cases x <;>cases b <;>simp_all)
def I.dc:I→Option (List I)
 | .agg fs=>some fs
 |_=>none
def nJ(p:List Nat):Option I→Option I
 |some f=>f.at p
 |none=>none
def kS(i:Nat)(p:List Nat):Option (List I)→Option I
 |some fs=>nJ p fs[i]?
 |none=>none
theorem pf(c:I):c.at []=some c:=by cases c <;>rfl
theorem GN(c:I)(i:Nat)(p:List Nat):c.at (i::p)=kS i p c.dc:=by
 cases c <;>first | rfl | (rename_i fs;simp only[I.at,kS,I.dc,nJ])
def qt(fs:List I)(i:Nat)(p:List Nat)(v:I):Option I→I
 |some f=>.agg (fs.set i (f.dy p v))
 |none=>.agg fs
def oM(c:I)(i:Nat)(p:List Nat)(v:I):Option (List I)→I
 |some fs=>qt fs i p v fs[i]?
 |none=>c
theorem fI(c v:I):c.dy [] v=v:=by cases c <;>rfl
theorem wC(c:I)(i:Nat)(p:List Nat)(v:I):c.dy (i::p) v=oM c i p v c.dc:=by
 cases c <;>first | rfl | (rename_i fs;simp only[I.dy,oM,I.dc];cases fs[i]? <;>rfl)
def dH(p:List Nat):Option ai→Option I
 |some (.box c)=>c.at p
 |_=>none
def fE(A:ab):I→Option I
 | .ref x=>some x
 | .ptr n p=>dH p (A.o n)
 |_=>none
theorem jF(A:ab)(x:I):bZ A x=fE A x:=by
 cases x <;>first | rfl | (rename_i n p;simp only[bZ,fE];cases A.o n with | none=>rfl | some y=>cases y <;>rfl)
def lX(s:Option Nat)(x:I):Option I:=if b8 s x=true then some x else none
def fH(s:Option Nat):Option I→Option I
 |some x=>lX s x
 |none=>none
open Classical in
noncomputable def fR(fs:List I)(f off:Nat)(y:I):Option I:=if f<fs.length∧I.sizes (fs.take f)=off then some y else none
noncomputable def pA(n:Nat)(p:List Nat)(f off:Nat):Option (List I)→Option I
 |some fs=>fR fs f off (.ptr n (p++[f]))
 |none=>none
noncomputable def pz(fs:List I)(f off:Nat):Option I→Option I
 |some v=>fR fs f off (.ref v)
 |none=>none
noncomputable def rz(f off:Nat):Option (List I)→Option I
 |some fs=>pz fs f off fs[f]?
 |none=>none
def eB:Option I→Option (List I)
 |some x=>x.dc
 |none=>none
noncomputable def lP(A:ab)(f off:Nat):I→Option I
 | .ref c=>rz f off c.dc
 | .ptr n p=>pA n p f off (eB (dH p (A.o n)))
 |_=>none
theorem Yf(A:ab)(f off:Nat)(x:aF):aV A (.fa f off x)=lP A f off (af A x):=by
 simp only[aV];generalize af A x=y;cases y with
 |ref c =>
  cases c <;>simp only[lP,I.dc,rz]
  rename_i fs;cases h:fs[f]? with
  |none=>simp[pz]
  |some v =>
   have hl:f<fs.length:=(Z6.1 h).1;simp only[pz,fR,hl,true_and]

 |ptr n p =>
  simp only[lP,jF,fE];cases dH p (A.o n) with
  |none=>simp[eB,pA]
  |some c =>
   cases c <;>simp only[eB,I.dc,pA]
   simp only[fR]

 |_=>simp only[lP]
noncomputable def rD(f off:Nat)(s:Option Nat):Option (List I)→Option I
 |some fs=>match fs[f]? with
  |some v=>(fR fs f off v).bind (lX s)
  |none=>none
 |none=>none
theorem Yg(A:ab)(f off:Nat)(s:Option Nat)(x:aF):aV A (.fl f off s x)=rD f off s (af A x).dc:=by
 simp only[aV];generalize af A x=y;cases y <;>simp only[rD,I.dc]
 rename_i fs;cases h:fs[f]? with
 |none=>rfl
 |some v =>
  have hl:f<fs.length:=(Z6.1 h).1;simp only[fR,hl,true_and];by_cases h1:I.sizes (fs.take f)=off <;>by_cases h2:b8 s v=true <;>simp[h1,h2,lX]
open Classical in
noncomputable def iz(k:Int)(n:Nat)(y:Option I):Option I:=if 0≤k∧k<n then y else none
noncomputable def iU(n esz:Nat)(fs:List I)(y:Option I):Option I:=if gK n esz fs=true then y else none
noncomputable def oc(n esz:Nat)(k:Int):Option (List I)→Option I
 |some fs=>iU n esz fs ((fs[k.toNat]?).map .ref)
 |none=>none
noncomputable def pH(n esz m:Nat)(p:List Nat)(k:Int):Option (List I)→Option I
 |some fs=>iU n esz fs (some (.ptr m (p++[k.toNat])))
 |none=>none
noncomputable def mF(A:ab)(n esz:Nat)(k:Int):I→Option I
 | .ref c=>iz k n (oc n esz k c.dc)
 | .ptr m p=>iz k n (pH n esz m p k (eB (dH p (A.o m))))
 |_=>none
noncomputable def pG(A:ab)(n esz:Nat)(x:I):I→Option I
 | .int _ k=>mF A n esz k x
 |_=>none
theorem Yh(A:ab)(n esz:Nat)(x i:aF):aV A (.ia n esz x i)=pG A n esz (af A x) (af A i):=by
 simp only[aV];generalize af A x=y;generalize af A i=z;cases z <;>simp only[pG]
 rename_i kk k;cases y with
 |ref c =>
  simp only[mF,iz];split
  ·cases c <;>simp only[I.dc,oc,iU]
  ·rfl
 |ptr m p =>
  simp only[mF,iz,jF,fE];split
  ·cases dH p (A.o m) with
   |none=>simp[eB,pH]
   |some c=>cases c <;>simp only[eB,I.dc,pH,iU]
  ·rfl
 |_=>simp only[mF];split <;>rfl
open Classical in
noncomputable def mH(m:Nat)(p:List Nat)(sz lo l esz:Nat)(k:Int):Option (List I)→Option I
 |some _=>if sz=esz∧0≤k∧k<l then some (.ptr m (p++[lo+k.toNat])) else none
 |none=>none
open Classical in
noncomputable def jm(A:ab)(esz:Nat)(k:Int):I→Option I
 | .slice sz es=>if sz=esz∧0≤k∧k<es.length then (es[k.toNat]?).map .ref else none
 | .own m l=>match A.o m with
  |some (.bQ _ sz es)=>if l=es.length∧sz=esz∧0≤k∧k<es.length then (es[k.toNat]?).map .ref else none
  |_=>none
 | .view m p sz lo l=>mH m p sz lo l esz k (eB (dH p (A.o m)))
 |_=>none
noncomputable def pL(A:ab)(esz:Nat)(x:I):I→Option I
 | .int _ k=>jm A esz k x
 |_=>none
theorem Yi(A:ab)(esz:Nat)(x i:aF):aV A (.is esz x i)=pL A esz (af A x) (af A i):=by
 simp only[aV];generalize af A x=y;generalize af A i=z;cases z <;>simp only[pL]
 cases y <;>simp only[jm]
 ·split <;>simp_all
 ·rename_i m p sz lo l;simp only[jF,fE];cases dH p (A.o m) with
  |none=>rfl
  |some c=>cases c <;>simp only[eB,I.dc,mH]
noncomputable def mI(n esz:Nat)(s:Option Nat)(k:Int):Option (List I)→Option I
 |some fs=>iz k n (iU n esz fs (fH s fs[k.toNat]?))
 |none=>none
noncomputable def pO(n esz:Nat)(s:Option Nat)(x:I):I→Option I
 | .int _ k=>mI n esz s k x.dc
 |_=>none
theorem Yj(A:ab)(n esz:Nat)(s:Option Nat)(x i:aF):aV A (.ix n esz s x i)=pO n esz s (af A x) (af A i):=by
 simp only[aV];generalize af A x=y;generalize af A i=z;cases z <;>simp only[pO]
 rename_i kk k;cases y <;>simp only[I.dc,mI]
 case agg fs =>
  simp only[iz,iU];split
  ·split
   ·cases fs[k.toNat]? <;>rfl
   ·rfl
  ·rfl
 all_goals (split <;>rfl)
def jP(A:ab):I→Option I
 | .slice _ es=>some (.int .i64 es.length)
 | .nils _=>some (.int .i64 0)
 | .c0 _=>some (.int .i64 0)
 | .own m l=>match A.o m with | some (.bQ _ _ es)=>if l=es.length then some (.int .i64 es.length) else none | _=>none
 | .view _ _ _ _ k=>some (.int .i64 k)
 |_=>none
theorem Yl(A:ab)(x:aF):aV A (.len x)=jP A (af A x):=by
 simp only[aV];generalize af A x=y;cases y <;>rfl
open Classical in
noncomputable def qB(n esz:Nat)(fs:List I)(y:I):Option I:=if gK n esz fs=true∧n≤maxLen∧n≠0 then some y else none
noncomputable def qC(n esz m:Nat)(p:List Nat):Option (List I)→Option I
 |some fs=>qB n esz fs (.view m p esz 0 n)
 |none=>none
noncomputable def Fe(n esz:Nat):Option (List I)→Option I
 |some fs=>qB n esz fs (.slice esz fs)
 |none=>none
noncomputable def nz(A:ab)(n esz:Nat):I→Option I
 | .ptr m p=>qC n esz m p (eB (dH p (A.o m)))
 | .ref c=>Fe n esz c.dc
 |_=>none
theorem Ym(A:ab)(n esz:Nat)(x:aF):aV A (.va n esz x)=nz A n esz (af A x):=by
 simp only[aV];generalize af A x=y;cases y with
 |ptr m p =>
  simp only[nz,jF,fE];cases dH p (A.o m) with
  |none=>simp[eB,qC]
  |some c=>cases c <;>simp only[eB,I.dc,qC,qB] <;>(split <;>simp_all)
 |ref c=>cases c <;>simp only[nz,I.dc,Fe,qB] <;>(split <;>simp_all)
 |_=>simp only[nz]
theorem Yk(A:ab)(s:Option Nat)(x:aF):aV A (.ld s x)=fH s (fE A (af A x)):=by
 simp only[aV,jF];cases fE A (af A x) <;>simp only[fH,lX]
noncomputable def qc(A:ab)(d:Option Nat)(a b:aF)(rest:List az):I→b9
 | .bool t=>av rest (A.aP d (if t then af A a else af A b))
 |_=>.fail
noncomputable def qA(op:UnOp)(x:I):Option I:=match op,x with
  | .not,.bool b=>some (.bool !b)
  | .neg,.int k n=>some (.int k (k.wrap (0-n)))
  | .xor,.int k n=>some (.int k (nQ k n))
  |_,_=>none
def uL(i:Nat):I→Option I
 | .tuple fs=>fs[i]?
 |_=>none
def uv(k:IntKind):I→Option I
 | .int _ n=>some (.int k (k.wrap n))
 |_=>none
noncomputable def tU(A:ab)(d:Nat)(z:I)(rest:List az):Option ai→b9
 |none=>av rest ((A.aS d (.box z)).put d (.ptr d []))
 |some _=>.fail
noncomputable def re(A:ab)(d:Nat)(z:I)(rest:List az)(v:Bool):b9:=if v=true then av rest ((A.aS d (.box z)).put d (.ptr d [])) else .fail
noncomputable def qZ(A:ab)(d:Nat)(z:I)(rest:List az):Option ai→b9
 |none=>re A d z rest z.cD
 |some _=>.fail
open Classical in
noncomputable def eO(A:ab)(s:Option Nat)(n:Nat)(p:List Nat)(b v:I)(rest:List az):Option I→b9
 |some old=>if vL s v old then av rest (A.aS n (.box (b.dy p v))) else .fail
 |none=>.fail
noncomputable def tm(A:ab)(s:Option Nat)(n:Nat)(p:List Nat)(v:I)(rest:List az):Option ai→b9
 |some (.box b)=>eO A s n p b v rest (b.at p)
 |_=>.fail
noncomputable def tl(A:ab)(s:Option Nat)(v:I)(rest:List az):I→b9
 | .ptr n p=>tm A s n p v rest (A.o n)
 |_=>.fail
noncomputable def po(A:ab)(d:Option Nat)(args:List I)(rest:List az):I→b9
 | .func f caps=>.call (kg f) (gL f args caps) (bL true A (gL f args caps)) (bL false A (gL f args caps)) d rest A
 | .raw v=>.kY v args d rest A
 |_=>.fail
section
variable (d:Option Nat) (rest:List az) (A:ab)
theorem Gj(op:bw):av (⟨d,op,none⟩::rest) A=bq A d op rest:=rfl
theorem Gk(op:bw)(t:Nat)(b:Bool):av (⟨d,op,some (t,b)⟩::rest) A=fZ (A.t t) b d op rest A:=rfl
theorem U7(op:bw):fZ (.bool true) true d op rest A=bq A d op rest:=by simp[fZ]
theorem U4(op:bw):fZ (.bool false) false d op rest A=bq A d op rest:=by simp[fZ]
theorem U6(op:bw):fZ (.bool true) false d op rest A=av rest (A.aP d .undef):=by simp[fZ]
theorem U5(op:bw):fZ (.bool false) true d op rest A=av rest (A.aP d .undef):=by simp[fZ]
theorem U8(op:bw)(b:Bool):fZ .undef b d op rest A=av rest (A.aP d .undef):=rfl
theorem Xx(x:aF):bq A d (.mv x) rest=av rest (A.aP d (af A x)):=rfl
theorem XB(c a b:aF):bq A d (.pick c a b) rest=qc A d a b rest (af A c):=by
 simp only[bq,aW,aV];cases af A c <;>simp only[cm,qc]
theorem W8(op:BinOp)(x y:aF):bq A d (.bin op x y) rest=cm (bN op (af A x) (af A y)) (cE d rest A):=rfl
theorem Xi(ty:cj)(neg:Bool)(x y:aF):bq A d (.eqv ty neg x y) rest=cm ((b7 ty (af A x) (af A y)).map fun b=>.bool (if neg then !b else b)) (cE d rest A):=rfl
theorem XG(op:UnOp)(x:aF):bq A d (.un op x) rest=cm (qA op (af A x)) (cE d rest A):=rfl
theorem Xg(k:IntKind)(x:aF):bq A d (.conv k x) rest=cm (uv k (af A x)) (cE d rest A):=by
 simp only[bq,aW,aV];cases af A x <;>rfl
theorem Xp(s:Option Nat)(x:aF):bq A d (.ld s x) rest=cm (fH s (fE A (af A x))) (cE d rest A):=by rw[←Yk];rfl
theorem Xk(f off:Nat)(x:aF):bq A d (.fa f off x) rest=cm (lP A f off (af A x)) (cE d rest A):=by rw[←Yf];rfl
theorem Xl(f off:Nat)(s:Option Nat)(x:aF):bq A d (.fl f off s x) rest=cm (rD f off s (af A x).dc) (cE d rest A):=by rw[←Yg];rfl
theorem Xm(n esz:Nat)(x i:aF):bq A d (.ia n esz x i) rest=cm (pG A n esz (af A x) (af A i)) (cE d rest A):=by rw[←Yh];rfl
theorem Xn(esz:Nat)(x i:aF):bq A d (.is esz x i) rest=cm (pL A esz (af A x) (af A i)) (cE d rest A):=by rw[←Yi];rfl
theorem Xo(n esz:Nat)(s:Option Nat)(x i:aF):bq A d (.ix n esz s x i) rest=cm (pO n esz s (af A x) (af A i)) (cE d rest A):=by rw[←Yj];rfl
theorem Xq(x:aF):bq A d (.len x) rest=cm (jP A (af A x)) (cE d rest A):=by rw[←Yl];rfl
theorem XH(n esz:Nat)(x:aF):bq A d (.va n esz x) rest=cm (nz A n esz (af A x)) (cE d rest A):=by rw[←Ym];rfl
theorem W9(zs:List I)(ps:List (Nat×aF)):bq A d (.bld zs ps) rest=cm ((fJ zs (ps.map fun p=>(p.1,af A p.2))).map .agg) (cE d rest A):=rfl
theorem Xj(x:aF)(i:Nat):bq A d (.ext x i) rest=cm (uL i (af A x)) (cE d rest A):=by
 simp only[bq,aW,aV];cases af A x <;>rfl
theorem Xt(f:FuncId)(caps:List aF):bq A d (.mk f caps) rest=cm (if ((caps.map (af A)).all fun y=>y.cD)=true then some (.func f (caps.map (af A))) else none) (cE d rest A):=rfl
theorem W5(d:Nat)(z:I):bq A (some d) (.alloc z) rest=tU A d z rest (A.o d):=by
 simp only[bq,aW];cases A.o d <;>rfl
theorem Xa(d:Nat)(x:aF):bq A (some d) (.box x) rest=qZ A d (af A x) rest (A.o d):=by
 simp only[bq,aW];cases A.o d <;>simp only[qZ,re]
theorem XF(s:Option Nat)(x v:aF):bq A none (.aT s x v) rest=tl A s (af A v) rest (af A x):=by
 simp only[bq,aW];cases af A x <;>simp only[tl]
 rename_i n p;cases A.o n with
 |none=>rfl
 |some y =>
  cases y <;>simp only[tm]
  rename_i b;cases b.at p <;>simp only[eO]
theorem Xc(f:FuncId)(args:List aF):bq A d (.call f args) rest=.call f (args.map (af A)) (bL true A (args.map (af A))) (bL false A (args.map (af A))) d rest A:=rfl
theorem Xd(x:aF)(args:List aF):bq A d (.fj x args) rest=po A d (args.map (af A)) rest (af A x):=by
 simp only[bq,aW];cases af A x <;>rfl
end
end Go.Abs
namespace Go.Abs
open Go Go.RowKit
mutual
/-- Closed,and as a result is told: no nil slice but as the empty one. -/
def I.done:I→Bool
 | .agg fs=>I.iR fs
 | .slice _ es=>I.cq es
 | .ref x=>x.bz
 | .func f caps=>decide (f<1000000)&&I.iR caps
 | .iface _ v=>v.bz
 | .cY ks vs=>I.cq ks&&I.cq vs
 | .bool _ | .int _ _ | .ak _ | .nilp | .c8 | .cQ | .any | .raw _=>true
 |_=>false
def I.iR:List I→Bool
 | []=>true
 |x::xs=>x.done&&I.iR xs
end
mutual
theorem uz:∀ x:I,x.done=true→x.bz=true
 | .agg fs,h=>by simp only[I.done,I.bz] at *;exact uA fs h
 | .slice _ es,h=>by simpa only[I.done,I.bz] using h
 | .ref x,h=>by simpa only[I.done,I.bz] using h
 | .func _ caps,h=>by simp only[I.done,I.bz,Z0] at *;exact uA caps h.2
 | .iface _ v,h=>by simpa only[I.done,I.bz] using h
 | .bool _,_ | .int _ _,_ | .ak _,_ | .nilp,_ | .c8,_ | .cQ,_ | .any,_ | .raw _,_=>by simp[I.bz]
 | .cY _ _,h=>by simpa only[I.done,I.bz] using h
 | .nils _,h | .c0 _,h | .ptr _ _,h | .own _ _,h | .view _ _ _ _ _,h | .mref _,h | .cU _,h | .undef,h | .cV,h | .tuple _,h=>by simp[I.done] at h
theorem uA:∀ xs:List I,I.iR xs=true→I.cq xs=true
 | [],_=>rfl
 |x::xs,h=>by
  simp only[I.iR,I.cq,Z0] at *;exact ⟨uz x h.1,uA xs h.2⟩
end
mutual
theorem As(aI:Bool)(A:ab):∀ x:I,x.done=true→bd aI A x=some x
 | .agg fs,h=>by simp only[I.done,bd] at *;rw[uU aI A fs h];rfl
 | .slice _ es,h=>by simp only[I.done] at h;simp[bd,h]
 | .ref x,h=>by simp only[I.done] at h;simp[bd,h]
 | .func _ caps,h=>by simp only[I.done,bd,Z0,decide_eq_true_eq] at *;rw[if_pos h.1,uU aI A caps h.2];rfl
 | .iface _ v,h=>by simp only[I.done] at h;simp[bd,h]
 | .bool _,_ | .int _ _,_ | .ak _,_ | .nilp,_ | .c8,_ | .cQ,_ | .any,_ | .raw _,_=>by simp[bd]
 | .cY _ _,h=>by simp only[I.done] at h;simp[bd,h]
 | .nils _,h | .c0 _,h | .ptr _ _,h | .own _ _,h | .view _ _ _ _ _,h | .mref _,h | .cU _,h | .undef,h | .cV,h | .tuple _,h=>by simp[I.done] at h
theorem uU(aI:Bool)(A:ab):∀ xs:List I,I.iR xs=true→bL aI A xs=some xs
 | [],_=>by simp[bL]
 |x::xs,h=>by
  simp only[I.iR,Z0] at h;simp only[bL,As aI A x h.1,uU aI A xs h.2]
end
theorem Mb{x:I}(h:x.done=true):x.cD=true:=by cases x <;>simp_all[I.done,I.cD]
class Enc (α:Type) where
 enc:α→I
 sz:Nat
 aK:bS
 gw:Bool
 done:∀ x,(enc x).done=true
 size:∀ x,(enc x).size=sz
 iI:∀ x,(enc x).aK=aK
 agg:∀ x,(enc x).isAgg=gw
open Enc (enc)
instance:Enc Int where
 enc n:=.int .i64 n
 sz:=1
 aK:=.one
 gw:=false
 done _:=rfl
 size _:=by simp[I.size]
 iI _:=by simp[I.aK]
 agg _:=rfl
instance:Enc Bool where
 enc b:=.bool b
 sz:=1
 aK:=.one
 gw:=false
 done _:=rfl
 size _:=by simp[I.size]
 iI _:=by simp[I.aK]
 agg _:=rfl
theorem pq{α:Type}[Enc α](l:List α):I.cq (l.map enc)=true:=by
 induction l with
 |nil=>rfl
 |cons x l ih=>simp only[Z3,I.cq,uz _ (Enc.done x),ih,Bool.and_self]
theorem Mc{α:Type}[Enc α](l:List α):I.iR (l.map enc)=true:=by
 induction l with
 |nil=>rfl
 |cons x l ih=>simp only[Z3,I.iR,Enc.done x,ih,Bool.and_self]
theorem Zb{α:Type}[Enc α](l:List α):I.sizes (l.map enc)=l.length*Enc.sz α:=by
 rw[I.gj (sz:=Enc.sz α) _ (by simp only[zy3];rintro x ⟨y,_,rfl⟩;exact Enc.size y)];simp
theorem wH{α:Type}[Enc α](l:List α):I.cF (l.map enc)=List.replicate l.length (Enc.aK α):=by
 induction l with
 |nil=>rfl
 |cons x l ih=>simp only[Z3,I.cF,Enc.iI x,ih,zx0,List.replicate_succ]
instance {α:Type} [Enc α]:Enc (List α) where
 enc l:=.slice (Enc.sz α) (l.map enc)
 sz:=1
 aK:=.one
 gw:=false
 done l:=by simp only[I.done];exact pq l
 size _:=by simp[I.size]
 iI _:=by simp[I.aK]
 agg _:=rfl
structure eG (n:Nat) (α:Type) where
 l:List α
 h:l.length=n
instance {n:Nat} {α:Type} [Enc α]:Enc (eG n α) where
 enc x:=.agg (x.l.map enc)
 sz:=n*Enc.sz α
 aK:=.eL (List.replicate n (Enc.aK α))
 gw:=true
 done x:=by simp only[I.done];exact Mc x.l
 size x:=by simp only[I.size,Zb,x.h]
 iI x:=by simp only[I.aK,wH,x.h]
 agg _:=rfl
section
variable {α:Type} [Enc α]
theorem iS(aI:Bool)(A:ab)(x:α):bd aI A (enc x)=some (enc x):=As aI A _ (Enc.done x)
theorem jG(x:α):(enc x).bz=true:=uz _ (Enc.done x)
theorem bp(p:Nat→Bool)(x:α):(enc x).only p=true:=lY p _ (jG x)
theorem e9(x:α):(enc x).cD=true:=Mb (Enc.done x)
theorem Mj(x:α):b8 none (enc x) = !(Enc.gw α):=by simp[b8,Enc.agg]
theorem iy(n:Nat)(x:α):b8 (some n) (enc x)=(Enc.gw α&&Enc.sz α==n):=by simp[b8,Enc.agg,Enc.size]
theorem lO(x:α):(enc x).size=Enc.sz α:=Enc.size x
theorem eK(x:α):(enc x).aK=Enc.aK α:=Enc.iI x
theorem uD(n:Int):(enc n:I)=.int .i64 n:=rfl
theorem Mh(n:Bool):(enc n:I)=.bool n:=rfl
theorem gI(l:List α):(enc l:I)=.slice (Enc.sz α) (l.map enc):=rfl
theorem Mm:Enc.sz (List α)=1:=rfl
theorem uJ(n esz:Nat)(l:List α)(h:l.length=n)(h2:Enc.sz α=esz):gK n esz (l.map enc)=true:=by
 simp only[gK,Z2,h,BEq.rfl,Bool.true_and,zy6,zy3];rintro x ⟨y,_,rfl⟩;simp[Enc.size,h2]
theorem Gq(l:List α):∀ x∈l.map (enc (α:=α)),x.size=Enc.sz α:=by
 simp only[zy3];rintro x ⟨y,_,rfl⟩;exact Enc.size y
end
theorem dV(n:Int)(h1:-9223372036854775808≤n)(h2:n≤9223372036854775807):IntKind.i64.wrap n=n:=IntWalk.i64_in n ⟨h1,h2⟩
theorem aQ.mk{P:Program}{f:FuncId}{fn:Func}{x:bj}{rs:List bt}{args:List I}{r:I}(hf:P.funcs[f]?=some fn)(hcall:dR P f=true)(hc:(fn.body.bind (dQ P fn.ntmps))=some x)
  (hrs:fV P fn.results.toList=some rs) (hn:args.length≤fn.ntmps) (h:∀ (w:World) (D:aJ) (E:aN),U ⟨P,w,D,fn.ntmps,bY E,E,fp,none,none⟩ x (iX rs r) (aq (bD 0 args) [])):aQ P f args r:=by
 obtain ⟨body,hb,hc'⟩:=zx5.1 hc;exact aQ.sC hf hb hcall hc' hrs hn (fun w D E=>(h w D E).sub (Zs args))
end Go.Abs
namespace Go.Abs.C
open Go Go.Abs
abbrev o(a:Nat)(x:bw):az:=⟨some a,x,none⟩
abbrev bI(a:Nat)(x:bw)(k:Nat):az:=⟨some a,x,some (k,true)⟩
abbrev on(a:Nat)(x:bw)(k:Nat):az:=⟨some a,x,some (k,false)⟩
abbrev p(x:bw):az:=⟨none,x,none⟩
abbrev bh(n:Int):aF:=.c (.int .i64 n)
abbrev T:aF:=.c (.bool true)
abbrev bo:aF:=.c (.bool false)
abbrev m(a b:Nat):az:=⟨some a,.mv (.t b),none⟩
abbrev cP(a b k:Nat):az:=⟨some a,.mv (.t b),some (k,true)⟩
abbrev fF(a b k:Nat):az:=⟨some a,.mv (.t b),some (k,false)⟩
abbrev bn(a:Nat)(n:Int):az:=⟨some a,.mv (.c (.int .i64 n)),none⟩
abbrev l(a b:Nat):az:=⟨some a,.ld none (.t b),none⟩
abbrev ff(a b k:Nat):az:=⟨some a,.ld none (.t b),some (k,true)⟩
abbrev fm(a b k:Nat):az:=⟨some a,.ld none (.t b),some (k,false)⟩
abbrev au(a s b:Nat):az:=⟨some a,.ld (some s) (.t b),none⟩
abbrev f(a b c d:Nat):az:=⟨some a,.fa b c (.t d),none⟩
abbrev cZ(a b c d k:Nat):az:=⟨some a,.fa b c (.t d),some (k,true)⟩
abbrev fn(a b c d k:Nat):az:=⟨some a,.fa b c (.t d),some (k,false)⟩
abbrev ad(a b:Nat)(n:Int):az:=⟨some a,.bin .add (.t b) (.c (.int .i64 n)),none⟩
abbrev lt(a b c:Nat):az:=⟨some a,.bin .lss (.t b) (.t c),none⟩
abbrev and(a b c:Nat):az:=⟨some a,.pick (.t b) (.t c) (.c (.bool false)),none⟩
abbrev or(a b c:Nat):az:=⟨some a,.pick (.t b) (.c (.bool true)) (.t c),none⟩
abbrev no(a b:Nat):az:=⟨some a,.un .not (.t b),none⟩
abbrev b(a c:Nat):az:=⟨some a,.box (.t c),none⟩
abbrev s(x y:bj):bj:=.seq x y
abbrev r(g:List az):bj:=.bU none g
abbrev bW(P:Program)(f:Func)(c:bj):Prop:=f.body.bind (dQ P f.ntmps)=some c
abbrev bV(P:Program)(f:Func)(r:List bt):Prop:=fV P f.results.toList=some r
abbrev bK(P:Program)(n:FuncId):Prop:=dR P n=true
theorem e{α:Type}{a b:α}(h:a=b):a=b:=h
end Go.Abs.C
namespace Go.Proofs.YtoffnnjbplgnaaaGreatDoor
open Go Go.Abs Go.Abs.C
def Ut:=[b 4 1,b 5 2,o 6 (.mv bo)]
def Uu:=[o 18 (.call 14 []),m 7 18]
def Uv:=[au 20 1 4,au 21 1 5,o 22 (.call 39 [.t 20,.t 21]),m 19 22,o 23 (.ext (.t 19) 0),o 24 (.ext (.t 19) 1),o 8 (.alloc (.agg [.nils 8])),p (.aT (some 1) (.t 8) (.t 23)),m 9 24]
def Uw:=[au 26 1 4,au 27 1 5,o 28 (.call 40 [.t 26,.t 27]),m 25 28,o 29 (.ext (.t 25) 0),o 30 (.ext (.t 25) 1),o 10 (.alloc (.agg [.nils 8])),p (.aT (some 1) (.t 10) (.t 29)),m 11 30]
def Ux:=[m 32 0,o 33 (.call 41 [.t 32]),m 31 33,o 34 (.ext (.t 31) 0),o 35 (.ext (.t 31) 1),o 12 (.alloc (.agg [.nils 8])),p (.aT (some 1) (.t 12) (.t 34)),m 13 35]
def Uy:=[m 37 0,o 38 (.call 42 [.t 37]),m 36 38,o 39 (.ext (.t 36) 0),o 40 (.ext (.t 36) 1),o 14 (.alloc (.agg [.nils 8])),p (.aT (some 1) (.t 14) (.t 39)),m 15 40]
def Uz:=[f 41 0 0 8,l 42 41,f 43 0 0 10,l 44 43,o 45 (.call 17 [.t 42,.t 44]),m 16 45]
def UA:=[f 46 0 0 12,l 47 46,f 48 0 0 14,l 49 48,o 50 (.call 17 [.t 47,.t 49]),m 17 50]
def UB:=[m 51 7,m 52 51,cP 53 16 52,and 54 52 53,m 55 54,cP 56 9 55,cP 57 11 55,bI 58 (.bin .eql (.t 56) (.t 57)) 55,and 59 55 58,m 60 59,cP 61 17 60,and 62 60 61,m 63 62,cP 64 13 63,cP 65 15 63,bI 66 (.bin .eql (.t 64) (.t 65)) 63,and 67 63 66,m 6 67]
def c9:bj:=(s (r Ut) (s (r Uu) (s (r Uv) (s (r Uw) (s (r Ux) (s (r Uy) (s (r Uz) (s (r UA) (s (r UB) .ret)))))))))
def DK:List bt:=[.tmp 6]
theorem JJ:bW Tryz.prog Tryz.f9 c9:=e (by kernel_rfl)
theorem K7:bV Tryz.prog Tryz.f9 DK:=e (by kernel_rfl)
theorem Iu:bK Tryz.prog 9:=e (by kernel_rfl)
def Ow:=[o 0 (.mv bo)]
def Ox:=[o 21 (.bld [.int .i64 0,.int .i64 0] [(0,(bh 2))]),o 22 (.bld [.agg [.int .i64 0,.int .i64 0],.int .i64 0,.int .i64 0,.int .i64 0,.agg [.int .i64 0,.int .i64 0],.ak ⟨#[]⟩] [(0,(.t 21)),(1,(bh 5)),(2,(bh 10)),(3,(bh 12)),(5,(.c (.ak ⟨#[97]⟩)))]),o 1 (.alloc (.agg [.agg [.int .i64 0,.int .i64 0],.int .i64 0,.int .i64 0,.int .i64 0,.agg [.int .i64 0,.int .i64 0],.ak ⟨#[]⟩])),p (.aT (some 8) (.t 1) (.t 22))]
def OA:=[au 24 8 1,o 25 (.call 29 [(bh 1),.t 24]),m 23 25,o 26 (.ext (.t 23) 0),o 27 (.ext (.t 23) 1),o 28 (.ext (.t 23) 2),m 2 26,m 3 27,m 4 28]
def OB:=[m 30 2,o 31 (.call 31 [(bh 1),.t 30]),m 29 31,o 32 (.ext (.t 29) 0),o 33 (.ext (.t 29) 1),o 34 (.ext (.t 29) 2),o 5 (.alloc (.agg [.agg [.int .i64 0,.int .i64 0],.int .i64 0,.int .i64 0,.int .i64 0,.agg [.int .i64 0,.int .i64 0],.ak ⟨#[]⟩])),p (.aT (some 8) (.t 5) (.t 32)),m 6 33,m 7 34]
def OC:=[o 36 (.bld [.agg [.ak ⟨#[]⟩,.ak ⟨#[]⟩],.agg [.ak ⟨#[]⟩,.ak ⟨#[]⟩]] []),au 37 8 1,o 38 (.call 35 [.t 36,(.c (.nils 8)),.t 37]),m 35 38,o 39 (.ext (.t 35) 0),o 40 (.ext (.t 35) 1),o 41 (.ext (.t 35) 2),o 8 (.alloc (.agg [.agg [.ak ⟨#[]⟩,.ak ⟨#[]⟩],.agg [.ak ⟨#[]⟩,.ak ⟨#[]⟩]])),p (.aT (some 4) (.t 8) (.t 39)),m 9 40,m 10 41]
def OD:=[au 43 4 8,o 44 (.call 22 [.t 43,(.c (.nils 1))]),o 45 (.call 18 [.t 44]),m 42 45,o 46 (.ext (.t 42) 0),o 47 (.ext (.t 42) 1),o 11 (.alloc (.agg [.agg [.ak ⟨#[]⟩,.ak ⟨#[]⟩],.agg [.ak ⟨#[]⟩,.ak ⟨#[]⟩]])),p (.aT (some 4) (.t 11) (.t 46)),m 12 47]
def OE:=[au 49 4 8,f 50 0 0 8,f 51 1 1 50,l 52 51,o 53 (.lenT (.t 52)),o 54 (.bs 3 1 [.t 53,(bh 0),(bh 0)]),o 55 (.call 22 [.t 49,.t 54]),o 56 (.call 18 [.t 55]),m 48 56,o 57 (.ext (.t 48) 0),o 58 (.ext (.t 48) 1),o 13 (.alloc (.agg [.agg [.ak ⟨#[]⟩,.ak ⟨#[]⟩],.agg [.ak ⟨#[]⟩,.ak ⟨#[]⟩]])),p (.aT (some 4) (.t 13) (.t 57)),m 14 58]
def OF:=[au 60 4 8,f 61 0 0 8,f 62 1 1 61,l 63 62,o 64 (.lenT (.t 63)),o 65 (.bs 3 1 [.t 64,(bh 1),(bh 3)]),o 66 (.call 22 [.t 60,.t 65]),o 67 (.call 18 [.t 66]),m 59 67,o 68 (.ext (.t 59) 0),o 69 (.ext (.t 59) 1),o 15 (.alloc (.agg [.agg [.ak ⟨#[]⟩,.ak ⟨#[]⟩],.agg [.ak ⟨#[]⟩,.ak ⟨#[]⟩]])),p (.aT (some 4) (.t 15) (.t 68)),m 16 69]
def OG:=[au 71 4 8,o 72 (.call 20 [.t 71]),o 73 (.call 24 [.t 72,bo]),o 74 (.call 18 [.t 73]),m 70 74,o 75 (.ext (.t 70) 0),o 76 (.ext (.t 70) 1),o 17 (.alloc (.agg [.agg [.ak ⟨#[]⟩,.ak ⟨#[]⟩],.agg [.ak ⟨#[]⟩,.ak ⟨#[]⟩]])),p (.aT (some 4) (.t 17) (.t 75)),m 18 76]
def OH:=[m 77 4,o 78 (.bin .eql (.t 77) (bh 0)),m 79 78,cP 80 7 79,bI 81 (.bin .eql (.t 80) (bh 0)) 79,and 82 79 81,m 83 82,cP 84 10 83,bI 85 (.bin .eql (.t 84) (bh 0)) 83,and 86 83 85,m 87 86,cP 88 9 87,bI 89 (.len (.t 88)) 87,bI 90 (.bin .eql (.t 89) (bh 1)) 87,and 91 87 90,m 19 91]
def Oy:=[m 92 2,o 93 (.lenT (.t 92)),o 94 (.bin .gtr (.t 93) (bh 18)),m 95 94,cP 96 2 95,cP 97 2 95,bI 98 (.lenT (.t 97)) 95,bI 99 (.bin .sub (.t 98) (bh 18)) 95,bI 100 (.prim (.ss true false) [.t 96,.t 99]) 95,bI 101 (.bin .eql (.t 100) (.c (.ak ⟨#[50,32,48,32,53,32,49,48,32,49,50,32,48,32,48,32,97,10]⟩))) 95,and 102 95 101,m 20 102]
def Oz:=[m 103 19,m 104 103,cP 105 20 104,and 106 104 105,m 107 106,bI 108 (.ld (some 8) (.t 5)) 107,bI 109 (.ld (some 8) (.t 1)) 107,bI 110 (.eqv (.aT [(.aT [(.i .i64),(.i .i64)]),(.i .i64),(.i .i64),(.i .i64),(.aT [(.i .i64),(.i .i64)]),.s]) false (.t 108) (.t 109)) 107,and 111 107 110,m 112 111,cP 113 6 112,cP 114 3 112,bI 115 (.bin .eql (.t 113) (.t 114)) 112,and 116 112 115,m 117 116,cZ 118 0 0 8 117,cZ 119 1 1 118 117,ff 120 119 117,cP 121 2 117,bI 122 (.bin .eql (.t 120) (.t 121)) 117,and 123 117 122,m 124 123,cZ 125 1 2 8 124,bI 126 (.ld (some 2) (.t 125)) 124,bI 127 (.bld [.ak ⟨#[]⟩,.ak ⟨#[]⟩] []) 124,bI 128 (.eqv (.aT [.s,.s]) false (.t 126) (.t 127)) 124,and 129 124 128,m 130 129,cP 131 12 130,bI 132 (.len (.t 131)) 130,bI 133 (.bin .eql (.t 132) (bh 0)) 130,and 134 130 133,m 135 134,cP 136 14 135,bI 137 (.len (.t 136)) 135,bI 138 (.bin .eql (.t 137) (bh 1)) 135,and 139 135 138,m 140 139,cP 141 16 140,bI 142 (.len (.t 141)) 140,bI 143 (.bin .eql (.t 142) (bh 0)) 140,and 144 140 143,m 145 144,cP 146 18 145,bI 147 (.len (.t 146)) 145,bI 148 (.bin .eql (.t 147) (bh 1)) 145,and 149 145 148,m 150 149,cZ 151 0 0 17 150,cZ 152 0 0 151 150,ff 153 152 150,cP 154 2 150,bI 155 (.bin .eql (.t 153) (.t 154)) 150,and 156 150 155,m 157 156,cZ 158 1 2 17 157,cZ 159 0 0 158 157,ff 160 159 157,cP 161 2 157,bI 162 (.bin .eql (.t 160) (.t 161)) 157,and 163 157 162,m 0 163]
def yA:bj:=(s (r Ow) (s (r Ox) (s (r OA) (s (r OB) (s (r OC) (s (r OD) (s (r OE) (s (r OF) (s (r OG) (s (r OH) (s (r Oy) (s (r Oz) .ret))))))))))))
def C1:List bt:=[.tmp 0]
theorem I4:bW Tryz.prog Tryz.f14 yA:=e (by kernel_rfl)
theorem Kq:bV Tryz.prog Tryz.f14 C1:=e (by kernel_rfl)
theorem HJ:bK Tryz.prog 14:=e (by kernel_rfl)
def OS:=[o 2 (.mv (.c (.nils 8))),o 3 (.mv (.c (.ak ⟨#[]⟩)))]
def OT:=[o 4 (.alloc (.nils 8))]
def OV:=[o 5 (.alloc (.int .i64 0)),o 6 (.alloc (.int .i64 0)),p (.aT none (.t 5) (bh 1)),p (.aT none (.t 6) (bh 0))]
def OW:=[m 11 0,o 12 (.call 69 [.t 11])]
def OX:=[m 7 13]
def OY:=[l 15 5,m 16 7,o 17 (.call 70 [.t 15,.t 16]),m 14 17,o 18 (.ext (.t 14) 0),o 19 (.ext (.t 14) 1),o 20 (.ext (.t 14) 2),o 8 (.alloc (.agg [.agg [.int .i64 0,.int .i64 0],.int .i64 0,.int .i64 0,.int .i64 0,.agg [.int .i64 0,.int .i64 0],.ak ⟨#[]⟩])),p (.aT (some 8) (.t 8) (.t 18)),m 9 19,m 10 20]
def OZ:=[m 21 10,no 22 21,m 23 22,fm 24 4 23,on 25 (.ld (some 8) (.t 8)) 23,on 26 (.call 71 [.t 24,.t 25]) 23,on 27 (.un .not (.t 26)) 23,or 28 23 27]
def O0:=[l 29 4,au 30 8 8,o 31 (.bs 50 8 [.t 30]),o 32 (.dv 50 8 72 (.agg [.agg [.int .i64 0,.int .i64 0],.int .i64 0,.int .i64 0,.int .i64 0,.agg [.int .i64 0,.int .i64 0],.ak ⟨#[]⟩]) (.t 29) (.t 31)),p (.aT none (.t 4) (.t 32))]
def O1:=[m 33 9,p (.aT none (.t 5) (.t 33))]
def O2:=[l 34 6,m 35 7,o 36 (.lenT (.t 35)),o 37 (.bin .add (.t 34) (.t 36)),p (.aT none (.t 6) (.t 37))]
def OU:=[l 38 4,m 39 0,l 40 6,o 41 (.prim (.ss false true) [.t 39,.t 40]),m 2 38,m 3 41]
def Lu:=some [[],[],[],[1,2],[0,0],[3,4,0,1,2,3,4]]
def yC:bj:=(s (r OS) (s (r OT) (s (r OV) (s (s (r OW) (.block 0 (.nh (.t 12) [13] (r OX) (.block 1 (s (r OY) (s (s (r OZ) (.cond (.t 28) (.exit 0) .skip)) (s (r O0) (s (r O1) (r O2))))))))) (s (.bU Lu OU) .ret)))))
def C3:List bt:=[.tmp 2,.tmp 3]
theorem I6:bW Tryz.prog Tryz.f15 yC:=e (by kernel_rfl)
theorem Ks:bV Tryz.prog Tryz.f15 C3:=e (by kernel_rfl)
theorem HM:bK Tryz.prog 15:=e (by kernel_rfl)
def Py:=[o 4 (.mv bo)]
def Pz:=[m 7 0,o 8 (.len (.t 7)),m 9 1,o 10 (.len (.t 9)),o 11 (.bin .eql (.t 8) (.t 10)),m 5 11]
def PA:=[bn 6 0]
def PB:=[m 12 6,m 13 0,o 14 (.len (.t 13)),lt 15 12 14,m 16 15,cP 17 5 16,and 18 16 17]
def PC:=[m 21 0,m 22 6,o 23 (.is 8 (.t 21) (.t 22)),au 24 8 23,m 25 1,m 26 6,o 27 (.is 8 (.t 25) (.t 26)),au 28 8 27,o 29 (.eqv (.aT [(.aT [(.i .i64),(.i .i64)]),(.i .i64),(.i .i64),(.i .i64),(.aT [(.i .i64),(.i .i64)]),.s]) false (.t 24) (.t 28)),m 5 29]
def Lw:=some [[],[],[0,1],[2],[],[],[4,5],[6],[3,7],[8,0,1,2,3,4,5,6,7,8]]
def PD:=[m 19 6,ad 20 19 1,m 6 20]
def PE:=[m 30 5,m 4 30]
def yH:bj:=(s (r Py) (s (r Pz) (s (s (r PA) (.block 0 (.loop (s (s (r PB) (.cond (.t 18) .skip (.exit 0))) (s (.block 1 (.bU Lw PC)) (r PD)))))) (s (r PE) .ret))))
def C8:List bt:=[.tmp 4]
theorem Jb:bW Tryz.prog Tryz.f17 yH:=e (by kernel_rfl)
theorem Ky:bV Tryz.prog Tryz.f17 C8:=e (by kernel_rfl)
theorem HT:bK Tryz.prog 17:=e (by kernel_rfl)
def Qd:=[b 1 0,o 2 (.alloc (.agg [.agg [.ak ⟨#[]⟩,.ak ⟨#[]⟩],.agg [.ak ⟨#[]⟩,.ak ⟨#[]⟩]])),o 3 (.mv (.c (.nils 8)))]
def Qe:=[f 10 0 0 1,au 11 2 10,o 12 (.call 73 [.t 11]),o 13 (.call 15 [.t 12]),m 9 13,o 14 (.ext (.t 9) 0),o 15 (.ext (.t 9) 1),m 4 14,m 5 15]
def Qf:=[f 17 1 2 1,au 18 2 17,o 19 (.call 73 [.t 18]),o 20 (.call 15 [.t 19]),m 16 20,o 21 (.ext (.t 16) 0),o 22 (.ext (.t 16) 1),m 6 21,m 7 22]
def Qg:=[m 23 6,o 24 (.len (.t 23)),m 25 4,o 26 (.len (.t 25)),o 27 (.bin .gtr (.t 24) (.t 26))]
def Qh:=[m 28 6,m 29 7,m 4 28,m 5 29]
def Qi:=[m 30 5,o 31 (.call 74 [.t 30]),o 32 (.bld [.ak ⟨#[]⟩,.ak ⟨#[]⟩] [(0,(.t 31))]),o 8 (.alloc (.agg [.ak ⟨#[]⟩,.ak ⟨#[]⟩])),p (.aT (some 2) (.t 8) (.t 32))]
def Qj:=[au 33 2 8,au 34 2 8,o 35 (.bld [.agg [.ak ⟨#[]⟩,.ak ⟨#[]⟩],.agg [.ak ⟨#[]⟩,.ak ⟨#[]⟩]] [(0,(.t 33)),(1,(.t 34))]),m 36 4,p (.aT (some 4) (.t 2) (.t 35)),m 3 36]
def yJ:bj:=(s (r Qd) (s (r Qe) (s (s (r Qf) (s (r Qg) (.cond (.t 27) (r Qh) .skip))) (s (r Qi) (s (r Qj) .ret)))))
def Db:List bt:=[.cell 2 (some 4),.tmp 3]
theorem Je:bW Tryz.prog Tryz.f18 yJ:=e (by kernel_rfl)
theorem KB:bV Tryz.prog Tryz.f18 Db:=e (by kernel_rfl)
theorem HV:bK Tryz.prog 18:=e (by kernel_rfl)
def Qk:=[b 1 0,o 2 (.alloc (.agg [.agg [.ak ⟨#[]⟩,.ak ⟨#[]⟩],.agg [.ak ⟨#[]⟩,.ak ⟨#[]⟩]]))]
def Ql:=[f 4 0 0 1,au 5 2 4,o 6 (.call 73 [.t 5]),o 7 (.bld [.ak ⟨#[]⟩,.ak ⟨#[]⟩] [(0,(.t 6))]),o 3 (.alloc (.agg [.ak ⟨#[]⟩,.ak ⟨#[]⟩])),p (.aT (some 2) (.t 3) (.t 7))]
def Qm:=[au 8 2 3,au 9 2 3,o 10 (.bld [.agg [.ak ⟨#[]⟩,.ak ⟨#[]⟩],.agg [.ak ⟨#[]⟩,.ak ⟨#[]⟩]] [(0,(.t 8)),(1,(.t 9))]),p (.aT (some 4) (.t 2) (.t 10))]
def c20:bj:=(s (r Qk) (s (r Ql) (s (r Qm) .ret)))
def Dd:List bt:=[.cell 2 (some 4)]
theorem Jg:bW Tryz.prog Tryz.f20 c20:=e (by kernel_rfl)
theorem KD:bV Tryz.prog Tryz.f20 Dd:=e (by kernel_rfl)
theorem HX:bK Tryz.prog 20:=e (by kernel_rfl)
def Qn:=[b 2 0,o 4 (.alloc (.agg [.agg [.ak ⟨#[]⟩,.ak ⟨#[]⟩],.agg [.ak ⟨#[]⟩,.ak ⟨#[]⟩]]))]
def Qo:=[f 5 0 0 2,au 6 2 5,m 7 1,o 8 (.call 75 [.t 6,.t 7,(bh 0)]),f 9 1 2 2,au 10 2 9,m 11 1,o 12 (.call 75 [.t 10,.t 11,(bh 3)]),o 13 (.bld [.agg [.ak ⟨#[]⟩,.ak ⟨#[]⟩],.agg [.ak ⟨#[]⟩,.ak ⟨#[]⟩]] [(0,(.t 8)),(1,(.t 12))]),p (.aT (some 4) (.t 4) (.t 13))]
def Lx:=some [[],[0],[],[1,2],[],[4],[],[5,6,3],[3,7],[8,7,0,1,2,3,4,5,6,7,8]]
def yL:bj:=(s (r Qn) (s (.bU Lx Qo) .ret))
def De:List bt:=[.cell 4 (some 4)]
theorem Jh:bW Tryz.prog Tryz.f22 yL:=e (by kernel_rfl)
theorem KE:bV Tryz.prog Tryz.f22 De:=e (by kernel_rfl)
theorem HY:bK Tryz.prog 22:=e (by kernel_rfl)
def Qp:=[b 2 0,o 4 (.alloc (.agg [.agg [.ak ⟨#[]⟩,.ak ⟨#[]⟩],.agg [.ak ⟨#[]⟩,.ak ⟨#[]⟩]]))]
def Qq:=[m 5 1]
def Qr:=[o 6 (.bld [.ak ⟨#[]⟩,.ak ⟨#[]⟩] []),f 7 1 2 2,p (.aT (some 2) (.t 7) (.t 6))]
def Qs:=[o 8 (.bld [.ak ⟨#[]⟩,.ak ⟨#[]⟩] []),f 9 0 0 2,p (.aT (some 2) (.t 9) (.t 8))]
def Qt:=[au 10 4 2,p (.aT (some 4) (.t 4) (.t 10))]
def yM:bj:=(s (r Qp) (s (s (r Qq) (.cond (.t 5) (r Qr) (r Qs))) (s (r Qt) .ret)))
def Df:List bt:=[.cell 4 (some 4)]
theorem Ji:bW Tryz.prog Tryz.f24 yM:=e (by kernel_rfl)
theorem KF:bV Tryz.prog Tryz.f24 Df:=e (by kernel_rfl)
theorem HZ:bK Tryz.prog 24:=e (by kernel_rfl)
def Qu:=[bn 4 0]
def Qv:=[m 5 0,m 6 1,o 7 (.bin .rem (.t 5) (.t 6)),m 8 1,o 9 (.bin .add (.t 7) (.t 8)),m 10 1,o 11 (.bin .rem (.t 9) (.t 10)),m 4 11]
def yN:bj:=(s (r Qu) (s (r Qv) .ret))
def Dg:List bt:=[.tmp 4]
theorem Jj:bW Tryz.prog Tryz.f28 yN:=e (by kernel_rfl)
theorem KG:bV Tryz.prog Tryz.f28 Dg:=e (by kernel_rfl)
theorem H0:bK Tryz.prog 28:=e (by kernel_rfl)
def Qw:=[b 3 1,o 4 (.mv (.c (.ak ⟨#[]⟩))),bn 5 0,bn 6 0]
def Qx:=[m 10 0,o 11 (.call 79 [.t 10]),no 12 11,m 9 12]
def Qy:=[o 4 (.mv (.c (.ak ⟨#[]⟩))),bn 5 0,bn 6 1]
def Qz:=[au 14 8 3,o 15 (.call 80 [.t 14]),no 16 15,m 13 16]
def QA:=[o 4 (.mv (.c (.ak ⟨#[]⟩))),bn 5 0,bn 6 80]
def QB:=[m 18 0,au 19 8 3,o 20 (.call 81 [.t 18,.t 19]),m 17 20,o 21 (.ext (.t 17) 0),o 22 (.ext (.t 17) 1),m 7 21,m 8 22]
def QC:=[m 23 7,m 24 8,m 4 23,m 5 24,bn 6 0]
def yO:bj:=(s (r Qw) (s (.block 0 (s (r Qx) (.cond (.t 9) (s (r Qy) .ret) (s (r Qz) (.cond (.t 13) (s (r QA) .ret) .skip))))) (s (r QB) (s (r QC) .ret))))
def Di:List bt:=[.tmp 4,.tmp 5,.tmp 6]
theorem Jk:bW Tryz.prog Tryz.f29 yO:=e (by kernel_rfl)
theorem KH:bV Tryz.prog Tryz.f29 Di:=e (by kernel_rfl)
theorem H2:bK Tryz.prog 29:=e (by kernel_rfl)
def QD:=[o 4 (.alloc (.agg [.agg [.int .i64 0,.int .i64 0],.int .i64 0,.int .i64 0,.int .i64 0,.agg [.int .i64 0,.int .i64 0],.ak ⟨#[]⟩])),bn 5 0,bn 6 0]
def QE:=[m 10 0,o 11 (.call 79 [.t 10]),no 12 11]
def QF:=[o 13 (.bld [.agg [.int .i64 0,.int .i64 0],.int .i64 0,.int .i64 0,.int .i64 0,.agg [.int .i64 0,.int .i64 0],.ak ⟨#[]⟩] []),p (.aT (some 8) (.t 4) (.t 13)),bn 5 0,bn 6 1]
def QG:=[m 15 0,m 16 1,o 17 (.call 70 [.t 15,.t 16]),m 14 17,o 18 (.ext (.t 14) 0),o 19 (.ext (.t 14) 1),o 20 (.ext (.t 14) 2),o 7 (.alloc (.agg [.agg [.int .i64 0,.int .i64 0],.int .i64 0,.int .i64 0,.int .i64 0,.agg [.int .i64 0,.int .i64 0],.ak ⟨#[]⟩])),p (.aT (some 8) (.t 7) (.t 18)),m 8 19,m 9 20]
def QH:=[m 21 9,no 22 21]
def QI:=[o 23 (.bld [.agg [.int .i64 0,.int .i64 0],.int .i64 0,.int .i64 0,.int .i64 0,.agg [.int .i64 0,.int .i64 0],.ak ⟨#[]⟩] []),p (.aT (some 8) (.t 4) (.t 23)),bn 5 0,bn 6 87]
def QJ:=[au 24 8 7,m 25 8,p (.aT (some 8) (.t 4) (.t 24)),m 5 25,bn 6 0]
def yP:bj:=(s (r QD) (s (s (r QE) (.cond (.t 12) (s (r QF) .ret) .skip)) (s (r QG) (s (s (r QH) (.cond (.t 22) (s (r QI) .ret) .skip)) (s (r QJ) .ret)))))
def Dj:List bt:=[.cell 4 (some 8),.tmp 5,.tmp 6]
theorem Jl:bW Tryz.prog Tryz.f31 yP:=e (by kernel_rfl)
theorem KI:bV Tryz.prog Tryz.f31 Dj:=e (by kernel_rfl)
theorem H3:bK Tryz.prog 31:=e (by kernel_rfl)
def QK:=[b 1 0,bn 2 0]
def QL:=[f 3 0 0 1,au 4 2 3,o 5 (.call 85 [.t 4]),no 6 5,m 7 6,fn 8 1 2 1 7,fm 9 8 7,on 10 (.call 82 [.t 9,(bh 0),(bh 40)]) 7,on 11 (.un .not (.t 10)) 7,or 12 7 11,m 13 12,fn 14 2 3 1 13,fm 15 14 13,on 16 (.call 82 [.t 15,(bh 0),(bh 100000)]) 13,on 17 (.un .not (.t 16)) 13,or 18 13 17,m 19 18,fn 20 3 4 1 19,fm 21 20 19,on 22 (.call 82 [.t 21,(bh 0),(bh 100000)]) 19,on 23 (.un .not (.t 22)) 19,or 24 19 23,m 25 24,fn 26 5 7 1 25,fm 27 26 25,on 28 (.call 86 [.t 27]) 25,on 29 (.un .not (.t 28)) 25,or 30 25 29]
def QM:=[bn 2 80]
def QN:=[f 31 1 2 1,l 32 31,o 33 (.bin .eql (.t 32) (bh 0))]
def QO:=[f 34 2 3 1,l 35 34,o 36 (.bin .neq (.t 35) (bh 0)),m 37 36,fn 38 5 7 1 37,fm 39 38 37,on 40 (.bin .neq (.t 39) (.c (.ak ⟨#[]⟩))) 37,or 41 37 40,m 42 41,fn 43 4 5 1 42,on 44 (.ld (some 2) (.t 43)) 42,on 45 (.call 85 [.t 44]) 42,on 46 (.un .not (.t 45)) 42,or 47 42 46,m 48 47,fn 49 4 5 1 48,fn 50 0 0 49 48,fm 51 50 48,fn 52 0 0 1 48,fn 53 0 0 52 48,fm 54 53 48,on 55 (.bin .neq (.t 51) (.t 54)) 48,or 56 48 55,m 57 56,fn 58 4 5 1 57,fn 59 1 1 58 57,fm 60 59 57,fn 61 0 0 1 57,fn 62 1 1 61 57,fm 63 62 57,on 64 (.bin .geq (.t 60) (.t 63)) 57,or 65 57 64]
def QP:=[bn 2 80]
def QR:=[bn 2 0]
def QS:=[f 66 4 5 1,au 67 2 66,o 68 (.bld [.int .i64 0,.int .i64 0] []),o 69 (.eqv (.aT [(.i .i64),(.i .i64)]) true (.t 67) (.t 68))]
def QT:=[bn 2 80]
def QU:=[bn 2 0]
def yQ:bj:=(s (r QK) (s (s (r QL) (.cond (.t 30) (s (r QM) .ret) .skip)) (s (s (r QN) (.cond (.t 33) (s (s (r QO) (.cond (.t 65) (s (r QP) .ret) .skip)) (s (r QR) .ret)) .skip)) (s (s (r QS) (.cond (.t 69) (s (r QT) .ret) .skip)) (s (r QU) .ret)))))
def Dk:List bt:=[.tmp 2]
theorem Jm:bW Tryz.prog Tryz.f34 yQ:=e (by kernel_rfl)
theorem KJ:bV Tryz.prog Tryz.f34 Dk:=e (by kernel_rfl)
theorem H4:bK Tryz.prog 34:=e (by kernel_rfl)
def QV:=[b 3 0,b 5 2,o 6 (.alloc (.agg [.agg [.ak ⟨#[]⟩,.ak ⟨#[]⟩],.agg [.ak ⟨#[]⟩,.ak ⟨#[]⟩]])),o 7 (.mv (.c (.nils 8))),bn 8 0]
def QW:=[au 9 4 3,m 10 1,o 11 (.call 87 [.t 9,.t 10]),no 12 11]
def QX:=[o 13 (.bld [.agg [.ak ⟨#[]⟩,.ak ⟨#[]⟩],.agg [.ak ⟨#[]⟩,.ak ⟨#[]⟩]] []),p (.aT (some 4) (.t 6) (.t 13)),o 7 (.mv (.c (.nils 8))),bn 8 84]
def QY:=[au 14 4 3,m 15 1,au 16 8 5,o 17 (.call 88 [.t 14,.t 15,.t 16]),o 18 (.ext (.t 17) 0),o 19 (.ext (.t 17) 1),o 20 (.ext (.t 17) 2),p (.aT (some 4) (.t 6) (.t 18)),m 7 19,m 8 20]
def yR:bj:=(s (r QV) (s (s (r QW) (.cond (.t 12) (s (r QX) .ret) .skip)) (s (r QY) .ret)))
def Dl:List bt:=[.cell 6 (some 4),.tmp 7,.tmp 8]
theorem Jn:bW Tryz.prog Tryz.f35 yR:=e (by kernel_rfl)
theorem KK:bV Tryz.prog Tryz.f35 Dl:=e (by kernel_rfl)
theorem H5:bK Tryz.prog 35:=e (by kernel_rfl)
def AW:=[b 2 0,b 3 1,o 4 (.alloc (.agg [.nils 8])),bn 5 0]
def QZ:=[au 11 1 2,o 12 (.call 92 [.t 11]),no 13 12,m 14 13,on 15 (.ld (some 1) (.t 3)) 14,on 16 (.call 92 [.t 15]) 14,on 17 (.un .not (.t 16)) 14,or 18 14 17]
def Q6:=[o 19 (.bld [.nils 8] []),p (.aT (some 1) (.t 4) (.t 19)),bn 5 81]
def Q7:=[f 20 0 0 2,l 21 20,o 22 (.call 93 [.t 21]),m 6 22]
def Q8:=[f 23 0 0 3,l 24 23,o 25 (.len (.t 24)),bn 26 0]
def Q9:=[lt 27 26 25]
def Ra:=[o 28 (.is 8 (.t 24) (.t 26)),au 29 8 28,o 8 (.alloc (.agg [.agg [.int .i64 0,.int .i64 0],.int .i64 0,.int .i64 0,.int .i64 0,.agg [.int .i64 0,.int .i64 0],.ak ⟨#[]⟩])),p (.aT (some 8) (.t 8) (.t 29))]
def Rb:=[au 31 1 2,f 32 0 0 8,au 33 2 32,o 34 (.call 94 [.t 31,.t 33]),m 30 34,o 35 (.ext (.t 30) 0),o 36 (.ext (.t 30) 1),m 9 35,m 10 36]
def Rc:=[m 37 10,m 38 37,cZ 39 0 0 2 38,ff 40 39 38,cP 41 9 38,bI 42 (.is 8 (.t 40) (.t 41)) 38,bI 43 (.ld (some 8) (.t 42)) 38,bI 44 (.ld (some 8) (.t 8)) 38,bI 45 (.eqv (.aT [(.aT [(.i .i64),(.i .i64)]),(.i .i64),(.i .i64),(.i .i64),(.aT [(.i .i64),(.i .i64)]),.s]) true (.t 43) (.t 44)) 38,and 46 38 45]
def Ly:=some [[],[0],[1],[2,1],[1],[3,4,1],[5,1],[1],[6,7,1],[1,8]]
def Re:=[o 47 (.bld [.nils 8] []),p (.aT (some 1) (.t 4) (.t 47)),bn 5 82]
def Q0:=[m 48 10,no 49 48]
def Q1:=[m 50 6,au 51 8 8,o 52 (.bs 50 8 [.t 51]),o 53 (.dv 50 8 72 (.agg [.agg [.int .i64 0,.int .i64 0],.int .i64 0,.int .i64 0,.int .i64 0,.agg [.int .i64 0,.int .i64 0],.ak ⟨#[]⟩]) (.t 50) (.t 52)),m 6 53]
def Q2:=[ad 54 26 1,m 26 54]
def Q3:=[m 55 6,o 56 (.len (.t 55)),o 57 (.bin .gtr (.t 56) (bh 60))]
def Q4:=[o 58 (.bld [.nils 8] []),p (.aT (some 1) (.t 4) (.t 58)),bn 5 2]
def Q5:=[m 59 6,o 60 (.call 95 [.t 59]),p (.aT (some 1) (.t 4) (.t 60)),bn 5 0]
def yS:bj:=(s (r AW) (s (s (r QZ) (.cond (.t 18) (s (r Q6) .ret) .skip)) (s (r Q7) (s (s (r Q8) (.block 0 (.loop (s (r Q9) (s (.cond (.t 27) .skip (.exit 0)) (s (.block 1 (s (r Ra) (s (r Rb) (s (s (.bU Ly Rc) (.cond (.t 46) (s (r Re) .ret) .skip)) (s (r Q0) (.cond (.t 49) (r Q1) .skip)))))) (r Q2))))))) (s (s (r Q3) (.cond (.t 57) (s (r Q4) .ret) .skip)) (s (r Q5) .ret))))))
def Dm:List bt:=[.cell 4 (some 1),.tmp 5]
theorem Jo:bW Tryz.prog Tryz.f39 yS:=e (by kernel_rfl)
theorem KL:bV Tryz.prog Tryz.f39 Dm:=e (by kernel_rfl)
theorem H6:bK Tryz.prog 39:=e (by kernel_rfl)
def AX:=[b 2 0,b 3 1,o 4 (.alloc (.agg [.nils 8])),bn 5 0]
def Rf:=[au 9 1 2,o 10 (.call 53 [.t 9]),o 11 (.bin .neq (.t 10) (bh 0)),m 12 11,on 13 (.ld (some 1) (.t 3)) 12,on 14 (.call 53 [.t 13]) 12,on 15 (.bin .neq (.t 14) (bh 0)) 12,or 16 12 15]
def Rl:=[o 17 (.bld [.nils 8] []),p (.aT (some 1) (.t 4) (.t 17)),bn 5 81]
def AY:=[o 18 (.bs0 8),f 19 0 0 2,l 20 19,o 21 (.dv 50 8 72 (.agg [.agg [.int .i64 0,.int .i64 0],.int .i64 0,.int .i64 0,.int .i64 0,.agg [.int .i64 0,.int .i64 0],.ak ⟨#[]⟩]) (.t 18) (.t 20)),m 6 21]
def Rm:=[bn 7 0]
def Rn:=[m 22 7,f 23 0 0 3,l 24 23,o 25 (.len (.t 24)),lt 26 22 25]
def Ro:=[f 29 0 0 2,l 30 29,f 31 0 0 3,l 32 31,m 33 7,o 34 (.is 8 (.t 32) (.t 33)),f 35 0 0 34,au 36 2 35,o 37 (.call 96 [.t 30,.t 36]),m 8 37]
def Lz:=some [[],[0],[],[2],[],[3,4],[5],[6],[1,7],[8,8,0,1,2,3,4,5,6,7,8]]
def Rp:=[m 38 8,o 39 (.bin .geq (.t 38) (bh 0)),m 40 39,cZ 41 0 0 2 40,ff 42 41 40,cP 43 8 40,bI 44 (.is 8 (.t 42) (.t 43)) 40,bI 45 (.ld (some 8) (.t 44)) 40,cZ 46 0 0 3 40,ff 47 46 40,cP 48 7 40,bI 49 (.is 8 (.t 47) (.t 48)) 40,bI 50 (.ld (some 8) (.t 49)) 40,bI 51 (.eqv (.aT [(.aT [(.i .i64),(.i .i64)]),(.i .i64),(.i .i64),(.i .i64),(.aT [(.i .i64),(.i .i64)]),.s]) true (.t 45) (.t 50)) 40,and 52 40 51]
def LA:=some [[],[0],[1],[2],[3,2],[2],[4,5,2],[6,2],[2],[8,2],[2],[9,10,2],[11,2],[7,12,2],[2,13]]
def Rq:=[o 53 (.bld [.nils 8] []),p (.aT (some 1) (.t 4) (.t 53)),bn 5 82]
def Rr:=[m 54 8,o 55 (.bin .lss (.t 54) (bh 0))]
def Rg:=[m 56 6,f 57 0 0 3,l 58 57,m 59 7,o 60 (.is 8 (.t 58) (.t 59)),au 61 8 60,o 62 (.call 97 [.t 56,.t 61]),m 6 62]
def Rh:=[m 27 7,ad 28 27 1,m 7 28]
def Ri:=[m 63 6,o 64 (.len (.t 63)),o 65 (.bin .gtr (.t 64) (bh 60))]
def Rj:=[o 66 (.bld [.nils 8] []),p (.aT (some 1) (.t 4) (.t 66)),bn 5 2]
def Rk:=[m 67 6,o 68 (.bld [.nils 8] [(0,(.t 67))]),p (.aT (some 1) (.t 4) (.t 68)),bn 5 0]
def yT:bj:=(s (r AX) (s (s (r Rf) (.cond (.t 16) (s (r Rl) .ret) .skip)) (s (r AY) (s (s (r Rm) (.block 0 (.loop (s (s (r Rn) (.cond (.t 26) .skip (.exit 0))) (s (.block 1 (s (.bU Lz Ro) (s (s (.bU LA Rp) (.cond (.t 52) (s (r Rq) .ret) .skip)) (s (r Rr) (.cond (.t 55) (r Rg) .skip))))) (r Rh)))))) (s (s (r Ri) (.cond (.t 65) (s (r Rj) .ret) .skip)) (s (r Rk) .ret))))))
def Dn:List bt:=[.cell 4 (some 1),.tmp 5]
theorem Jp:bW Tryz.prog Tryz.f40 yT:=e (by kernel_rfl)
theorem KM:bV Tryz.prog Tryz.f40 Dn:=e (by kernel_rfl)
theorem H7:bK Tryz.prog 40:=e (by kernel_rfl)
def Rs:=[o 2 (.alloc (.agg [.nils 8])),bn 3 0]
def Rt:=[m 4 0,o 5 (.call 98 [.t 4]),no 6 5]
def Ru:=[o 7 (.bld [.nils 8] []),p (.aT (some 1) (.t 2) (.t 7)),bn 3 81]
def Rv:=[m 8 0,o 9 (.call 95 [.t 8]),p (.aT (some 1) (.t 2) (.t 9)),bn 3 0]
def yU:bj:=(s (r Rs) (s (s (r Rt) (.cond (.t 6) (s (r Ru) .ret) .skip)) (s (r Rv) .ret)))
def Dp:List bt:=[.cell 2 (some 1),.tmp 3]
theorem Jq:bW Tryz.prog Tryz.f41 yU:=e (by kernel_rfl)
theorem KN:bV Tryz.prog Tryz.f41 Dp:=e (by kernel_rfl)
theorem H8:bK Tryz.prog 41:=e (by kernel_rfl)
def Rw:=[o 2 (.alloc (.agg [.nils 8])),bn 3 0]
def Rx:=[m 4 0,o 5 (.call 91 [.t 4]),no 6 5]
def Ry:=[o 7 (.bld [.nils 8] []),p (.aT (some 1) (.t 2) (.t 7)),bn 3 81]
def Rz:=[m 8 0,o 9 (.call 99 [.t 8]),o 10 (.bld [.nils 8] [(0,(.t 9))]),p (.aT (some 1) (.t 2) (.t 10)),bn 3 0]
def yV:bj:=(s (r Rw) (s (s (r Rx) (.cond (.t 6) (s (r Ry) .ret) .skip)) (s (r Rz) .ret)))
def Dq:List bt:=[.cell 2 (some 1),.tmp 3]
theorem Jr:bW Tryz.prog Tryz.f42 yV:=e (by kernel_rfl)
theorem KO:bV Tryz.prog Tryz.f42 Dq:=e (by kernel_rfl)
theorem H9:bK Tryz.prog 42:=e (by kernel_rfl)
def RA:=[b 2 0,b 3 1,o 4 (.alloc (.agg [.nils 8])),bn 5 0]
def RB:=[au 9 1 2,o 10 (.call 92 [.t 9]),no 11 10,m 8 11]
def RG:=[o 12 (.bld [.nils 8] []),p (.aT (some 1) (.t 4) (.t 12)),bn 5 81]
def RH:=[au 14 8 3,o 15 (.call 80 [.t 14]),no 16 15,m 13 16]
def RI:=[o 17 (.bld [.nils 8] []),p (.aT (some 1) (.t 4) (.t 17)),bn 5 80]
def RJ:=[au 19 1 2,f 20 0 0 3,au 21 2 20,o 22 (.call 94 [.t 19,.t 21]),m 18 22,o 23 (.ext (.t 18) 0),o 24 (.ext (.t 18) 1),m 6 23,m 7 24]
def RL:=[m 26 7,m 27 26,cZ 28 0 0 2 27,ff 29 28 27,cP 30 6 27,bI 31 (.is 8 (.t 29) (.t 30)) 27,bI 32 (.ld (some 8) (.t 31)) 27,bI 33 (.ld (some 8) (.t 3)) 27,bI 34 (.eqv (.aT [(.aT [(.i .i64),(.i .i64)]),(.i .i64),(.i .i64),(.i .i64),(.aT [(.i .i64),(.i .i64)]),.s]) false (.t 32) (.t 33)) 27,and 35 27 34,m 25 35]
def LD:=some [[],[0],[1],[2,1],[1],[3,4,1],[5,1],[1],[6,7,1],[1,8],[9,1]]
def RM:=[f 36 0 0 2,l 37 36,o 38 (.call 93 [.t 37]),o 39 (.bld [.nils 8] [(0,(.t 38))]),p (.aT (some 1) (.t 4) (.t 39)),bn 5 0]
def RN:=[m 41 7,m 40 41]
def RO:=[o 42 (.bld [.nils 8] []),p (.aT (some 1) (.t 4) (.t 42)),bn 5 82]
def RC:=[f 44 0 0 2,l 45 44,o 46 (.call 100 [.t 45]),f 47 0 0 3,f 48 0 0 47,l 49 48,o 50 (.ix 6 1 none (.t 46) (.t 49)),f 51 0 0 3,f 52 1 1 51,l 53 52,lt 54 50 53,m 43 54]
def LB:=some [[],[0],[1],[],[3],[4],[2,5],[],[7],[8],[6,9],[10,2]]
def RD:=[o 55 (.bld [.nils 8] []),p (.aT (some 1) (.t 4) (.t 55)),bn 5 83]
def RE:=[f 57 0 0 2,l 58 57,o 59 (.len (.t 58)),o 60 (.bin .eql (.t 59) (bh 60)),m 56 60]
def RF:=[o 61 (.bld [.nils 8] []),p (.aT (some 1) (.t 4) (.t 61)),bn 5 2]
def uW:=[f 62 0 0 2,l 63 62,o 64 (.call 93 [.t 63]),m 65 6,au 66 8 3,o 67 (.bs 50 8 [.t 66]),o 68 (.call 101 [.t 64,.t 65,.t 67]),o 69 (.bld [.nils 8] [(0,(.t 68))]),p (.aT (some 1) (.t 4) (.t 69)),bn 5 0]
def LC:=some [[],[0],[1],[],[],[4],[2,3,5,2],[6],[7,6,0,1,2,3,4,5,6,7],[8,0,1,2,3,4,5,6,7,8]]
def yW:bj:=(s (r RA) (s (.block 0 (s (r RB) (.cond (.t 8) (s (r RG) .ret) (s (r RH) (.cond (.t 13) (s (r RI) .ret) .skip))))) (s (r RJ) (s (.block 1 (s (.bU LD RL) (.cond (.t 25) (s (r RM) .ret) (s (r RN) (.cond (.t 40) (s (r RO) .ret) (s (.bU LB RC) (.cond (.t 43) (s (r RD) .ret) (s (r RE) (.cond (.t 56) (s (r RF) .ret) .skip))))))))) (s (.bU LC uW) .ret)))))
def Dr:List bt:=[.cell 4 (some 1),.tmp 5]
theorem Js:bW Tryz.prog Tryz.f44 yW:=e (by kernel_rfl)
theorem KP:bV Tryz.prog Tryz.f44 Dr:=e (by kernel_rfl)
theorem Ia:bK Tryz.prog 44:=e (by kernel_rfl)
def RP:=[b 1 0,bn 2 0]
def RQ:=[f 5 0 0 1,l 6 5,o 7 (.len (.t 6)),o 8 (.bin .gtr (.t 7) (bh 60))]
def RS:=[bn 2 81]
def RT:=[bn 3 0]
def RU:=[m 9 3,f 10 0 0 1,l 11 10,o 12 (.len (.t 11)),lt 13 9 12]
def RV:=[f 16 0 0 1,l 17 16,m 18 3,o 19 (.is 8 (.t 17) (.t 18)),au 20 8 19,o 4 (.alloc (.agg [.agg [.int .i64 0,.int .i64 0],.int .i64 0,.int .i64 0,.int .i64 0,.agg [.int .i64 0,.int .i64 0],.ak ⟨#[]⟩])),p (.aT (some 8) (.t 4) (.t 20))]
def RW:=[au 21 8 4,o 22 (.call 34 [.t 21]),o 23 (.bin .neq (.t 22) (bh 0)),m 24 23,fF 25 3 24,on 26 (.bin .gtr (.t 25) (bh 0)) 24,fF 27 26 24,cZ 28 0 0 1 27,ff 29 28 27,cP 30 3 27,bI 31 (.bin .sub (.t 30) (bh 1)) 27,bI 32 (.is 8 (.t 29) (.t 31)) 27,cZ 33 0 0 32 27,bI 34 (.ld (some 2) (.t 33)) 27,cZ 35 0 0 4 27,bI 36 (.ld (some 2) (.t 35)) 27,bI 37 (.call 108 [.t 34,.t 36]) 27,bI 38 (.un .not (.t 37)) 27,on 39 (.pick (.t 27) (.t 38) bo) 24,or 40 24 39,m 41 40,fn 42 0 0 1 41,fm 43 42 41,fF 44 3 41,fF 45 3 41,on 46 (.sl 8 (.t 43) none (some (.t 44)) (some (.t 45))) 41,on 47 (.call 102 [.t 46]) 41,fn 48 0 0 4 41,fn 49 0 0 48 41,fm 50 49 41,on 51 (.ix 6 1 none (.t 47) (.t 50)) 41,fn 52 0 0 4 41,fn 53 1 1 52 41,fm 54 53 41,on 55 (.bin .neq (.t 51) (.t 54)) 41,or 56 41 55]
def LF:=some [[],[0],[1],[2,1],[3],[4,3],[5,3,3],[6],[7,6],[6],[9,6],[8,10,6],[11,6],[12,6],[6],[14,6],[13,15,6,6],[16,6],[6,17,3],[3,18],[19,16],[20],[21,20],[20],[20],[22,23,24,20],[25,20,20],[20],[27,20],[28,20],[26,29,20],[20],[31,20],[32,20],[30,33,20],[20,34]]
def RX:=[bn 2 81]
def RY:=[m 14 3,ad 15 14 1,m 3 15]
def RZ:=[bn 2 0]
def c53:bj:=(s (r RP) (s (s (r RQ) (.cond (.t 8) (s (r RS) .ret) .skip)) (s (s (r RT) (.block 0 (.loop (s (s (r RU) (.cond (.t 13) .skip (.exit 0))) (s (.block 1 (s (r RV) (s (.bU LF RW) (.cond (.t 56) (s (r RX) .ret) .skip)))) (r RY)))))) (s (r RZ) .ret))))
def Ds:List bt:=[.tmp 2]
theorem Jt:bW Tryz.prog Tryz.f53 c53:=e (by kernel_rfl)
theorem KQ:bV Tryz.prog Tryz.f53 Ds:=e (by kernel_rfl)
theorem Ib:bK Tryz.prog 53:=e (by kernel_rfl)
def R0:=[b 1 0,o 2 (.mv (.c (.c8)))]
def R1:=[o 3 (.mk 122 [.t 1]),m 2 3]
def yX:bj:=(s (r R0) (s (r R1) .ret))
def Dt:List bt:=[.tmp 2]
theorem Ju:bW Tryz.prog Tryz.f69 yX:=e (by kernel_rfl)
theorem KR:bV Tryz.prog Tryz.f69 Dt:=e (by kernel_rfl)
theorem Ic:bK Tryz.prog 69:=e (by kernel_rfl)
def AZ:=[o 4 (.alloc (.agg [.agg [.int .i64 0,.int .i64 0],.int .i64 0,.int .i64 0,.int .i64 0,.agg [.int .i64 0,.int .i64 0],.ak ⟨#[]⟩])),o 5 (.alloc (.int .i64 0)),o 6 (.alloc (.bool false))]
def R2:=[m 15 1,o 16 (.call 125 [.t 15,(.c (.ak ⟨#[10]⟩))]),m 14 16,o 17 (.ext (.t 14) 0),o 18 (.ext (.t 14) 1),m 7 17,m 8 18]
def R8:=[m 19 8,no 20 19]
def A4:=[o 21 (.bld [] []),o 22 (.prim (.lV 176) [.t 21]),p (.prim .ky [.t 22])]
def R9:=[bn 9 0]
def Sa:=[o 10 (.alloc (.agg [.int .i64 0,.int .i64 0,.int .i64 0,.int .i64 0,.int .i64 0,.int .i64 0,.int .i64 0]))]
def A5:=[m 24 7,o 25 (.call 126 [.t 24]),m 23 25,o 26 (.ext (.t 23) 0),o 27 (.ext (.t 23) 1),m 9 26,m 7 27]
def Sb:=[bn 28 0]
def Sc:=[o 29 (.bin .lss (.t 28) (bh 7))]
def Sd:=[m 30 28,m 11 30]
def A1:=[m 32 11,m 33 7,o 34 (.call 126 [.t 33]),m 31 34,o 35 (.ext (.t 31) 0),o 36 (.ext (.t 31) 1),o 37 (.ia 7 1 (.t 10) (.t 32)),p (.aT none (.t 37) (.t 35)),m 7 36]
def R3:=[ad 38 28 1,m 28 38]
def R4:=[o 39 (.ia 7 1 (.t 10) (bh 0)),l 40 39,o 41 (.ia 7 1 (.t 10) (bh 1)),l 42 41,o 43 (.bld [.int .i64 0,.int .i64 0] [(0,(.t 40)),(1,(.t 42))]),o 44 (.ia 7 1 (.t 10) (bh 2)),l 45 44,o 46 (.ia 7 1 (.t 10) (bh 3)),l 47 46,o 48 (.ia 7 1 (.t 10) (bh 4)),l 49 48,o 50 (.ia 7 1 (.t 10) (bh 5)),l 51 50,o 52 (.ia 7 1 (.t 10) (bh 6)),l 53 52,o 54 (.bld [.int .i64 0,.int .i64 0] [(0,(.t 51)),(1,(.t 53))]),m 55 7,o 56 (.bld [.agg [.int .i64 0,.int .i64 0],.int .i64 0,.int .i64 0,.int .i64 0,.agg [.int .i64 0,.int .i64 0],.ak ⟨#[]⟩] [(0,(.t 43)),(1,(.t 45)),(2,(.t 47)),(3,(.t 49)),(4,(.t 54)),(5,(.t 55))]),p (.aT (some 8) (.t 4) (.t 56))]
def R5:=[au 57 8 4,o 58 (.call 80 [.t 57]),no 59 58]
def A2:=[o 60 (.bld [] []),o 61 (.prim (.lV 176) [.t 60]),p (.prim .ky [.t 61])]
def R6:=[m 63 0,au 64 8 4,o 65 (.call 81 [.t 63,.t 64]),m 62 65,o 66 (.ext (.t 62) 0),o 67 (.ext (.t 62) 1),m 12 66,p (.aT none (.t 5) (.t 67))]
def R7:=[m 68 12,m 69 1,o 70 (.bin .neq (.t 68) (.t 69)),m 71 70,fF 72 9 71,fm 73 5 71,on 74 (.bin .neq (.t 72) (.t 73)) 71,or 75 71 74]
def uX:=[o 76 (.bld [] []),o 77 (.prim (.lV 176) [.t 76]),p (.prim .ky [.t 77])]
def uY:=[au 78 8 4,l 79 5,p (.aT (some 8) (.t 4) (.t 78)),p (.aT none (.t 5) (.t 79)),p (.aT none (.t 6) T)]
def LG:=some [[],[],[0,0],[1,2,0,1,2],[3,0,1,2,3]] -- DRAW BAD
def sR:List bt:=[.cell 4 (some 8),.cell 5 none,.cell 6 none]
theorem KS:bV Tryz.prog Tryz.f70 sR:=e (by kernel_rfl)
theorem Ie:bK Tryz.prog 70:=e (by kernel_rfl)
def Se:=[b 3 1,o 4 (.mv bo)]
def Sf:=[m 5 0,o 6 (.len (.t 5)),o 7 (.bin .lss (.t 6) (bh 60)),m 8 7,cP 9 0 8,bI 10 (.call 100 [.t 9]) 8,cZ 11 0 0 3 8,cZ 12 0 0 11 8,ff 13 12 8,bI 14 (.ix 6 1 none (.t 10) (.t 13)) 8,cZ 15 0 0 3 8,cZ 16 1 1 15 8,ff 17 16 8,bI 18 (.bin .eql (.t 14) (.t 17)) 8,and 19 8 18,m 4 19]
def LH:=some [[],[0],[1],[2],[3],[4,3,3],[3],[6,3],[7,3],[5,8,3],[3],[10,3],[11,3],[9,12,3],[3,13],[14,5,0,1,2,3,4,5,6,7,8,9,10,11,12,13,14]]
def yY:bj:=(s (r Se) (s (.bU LH Sf) .ret))
def Du:List bt:=[.tmp 4]
theorem Jv:bW Tryz.prog Tryz.f71 yY:=e (by kernel_rfl)
theorem KT:bV Tryz.prog Tryz.f71 Du:=e (by kernel_rfl)
theorem If:bK Tryz.prog 71:=e (by kernel_rfl)
def Sg:=[b 3 1,o 4 (.mv bo)]
def Sh:=[au 5 8 3,o 6 (.call 34 [.t 5]),o 7 (.bin .eql (.t 6) (bh 0)),m 8 7,cP 9 0 8,bI 10 (.len (.t 9)) 8,bI 11 (.bin .lss (.t 10) (bh 60)) 8,and 12 8 11,m 13 12,cZ 14 0 0 3 13,cZ 15 1 1 14 13,ff 16 15 13,cP 17 0 13,bI 18 (.call 102 [.t 17]) 13,cZ 19 0 0 3 13,cZ 20 0 0 19 13,ff 21 20 13,bI 22 (.ix 6 1 none (.t 18) (.t 21)) 13,bI 23 (.bin .eql (.t 16) (.t 22)) 13,and 24 13 23,m 4 24]
def LI:=some [[],[0],[1],[2,1],[3],[4,3],[5,3],[3,6],[7,3],[8],[9,8],[10,8],[8],[12,8,8],[8],[14,8],[15,8],[13,16,8],[11,17,8],[8,18],[19,13,0,1,2,3,4,5,6,7,8,9,10,11,12,13,14,15,16,17,18,19]]
def yZ:bj:=(s (r Sg) (s (.bU LI Sh) .ret))
def Dv:List bt:=[.tmp 4]
theorem Jw:bW Tryz.prog Tryz.f72 yZ:=e (by kernel_rfl)
theorem KU:bV Tryz.prog Tryz.f72 Dv:=e (by kernel_rfl)
theorem Ig:bK Tryz.prog 72:=e (by kernel_rfl)
def Si:=[b 1 0,o 2 (.mv (.c (.ak ⟨#[]⟩)))]
def Sj:=[f 3 0 0 1,l 4 3,f 5 1 1 1,l 6 5,o 7 (.bin .add (.t 4) (.t 6)),m 2 7]
def y5:bj:=(s (r Si) (s (r Sj) .ret))
def Dw:List bt:=[.tmp 2]
theorem Jx:bW Tryz.prog Tryz.f73 y5:=e (by kernel_rfl)
theorem KV:bV Tryz.prog Tryz.f73 Dw:=e (by kernel_rfl)
theorem Ih:bK Tryz.prog 73:=e (by kernel_rfl)
def Sk:=[o 2 (.mv (.c (.ak ⟨#[]⟩)))]
def Sl:=[m 3 0,o 4 (.call 127 [.t 3]),m 2 4]
def y7:bj:=(s (r Sk) (s (r Sl) .ret))
def Dy:List bt:=[.tmp 2]
theorem Jy:bW Tryz.prog Tryz.f74 y7:=e (by kernel_rfl)
theorem KW:bV Tryz.prog Tryz.f74 Dy:=e (by kernel_rfl)
theorem Ii:bK Tryz.prog 74:=e (by kernel_rfl)
def Sm:=[b 3 0,o 6 (.alloc (.agg [.ak ⟨#[]⟩,.ak ⟨#[]⟩]))]
def lj:=[f 9 1 1 3,l 10 9,m 11 1,m 12 2,f 13 1 1 3,l 14 13,o 15 (.lenT (.t 14)),ad 16 15 1,o 17 (.call 121 [.t 11,.t 12,.t 16]),o 18 (.prim (.ss false true) [.t 10,.t 17]),o 19 (.eN (.t 18)),m 7 19]
def LJ:=some [[],[0],[],[],[],[4],[5],[6],[2,3,7],[1,8],[9],[10,8,0,1,2,3,4,5,6,7,8,9,10]]
def Sn:=[m 20 1,m 21 2,ad 22 21 1,o 23 (.call 121 [.t 20,.t 22,(bh 2)]),o 24 (.bin .eql (.t 23) (bh 1)),m 25 24,cP 26 7 25,bI 27 (.len (.t 26)) 25,bI 28 (.bin .gtr (.t 27) (bh 0)) 25,and 29 25 28]
def Sp:=[m 30 7,m 31 1,m 32 2,ad 33 32 2,m 34 7,o 35 (.len (.t 34)),o 36 (.call 121 [.t 31,.t 33,.t 35]),o 37 (.is 1 (.t 30) (.t 36)),p (.aT none (.t 37) (.c (.int .u8 63)))]
def Sq:=[f 38 0 0 3,l 39 38,o 40 (.lenT (.t 39)),m 41 7,o 42 (.len (.t 41)),o 43 (.bin .add (.t 40) (.t 42)),o 44 (.jt 5 1 (.int .u8 0) (.t 43)),m 8 44]
def Sr:=[m 45 8,f 46 0 0 3,l 47 46,o 48 (.fW 1 (.t 45) (.t 47))]
def St:=[m 49 8,f 50 0 0 3,l 51 50,o 52 (.lenT (.t 51)),o 53 (.sl 1 (.t 49) (some (.t 52)) none none),m 54 7,o 55 (.fW 1 (.t 53) (.t 54))]
def Su:=[m 56 8,o 57 (.b2s (.t 56)),o 58 (.bld [.ak ⟨#[]⟩,.ak ⟨#[]⟩] [(0,(.t 57))]),p (.aT (some 2) (.t 6) (.t 58))]
def c75:bj:=(s (r Sm) (s (.bU LJ lj) (s (s (r Sn) (.cond (.t 29) (r Sp) .skip)) (s (r Sq) (s (r Sr) (s (r St) (s (r Su) .ret)))))))
def Dz:List bt:=[.cell 6 (some 2)]
theorem Jz:bW Tryz.prog Tryz.f75 c75:=e (by kernel_rfl)
theorem KX:bV Tryz.prog Tryz.f75 Dz:=e (by kernel_rfl)
theorem Ij:bK Tryz.prog 75:=e (by kernel_rfl)
def Sv:=[o 2 (.mv bo)]
def Sw:=[m 3 0,o 4 (.call 128 [.t 3,(bh 0),(bh 1000002)]),m 2 4]
def y8:bj:=(s (r Sv) (s (r Sw) .ret))
def DA:List bt:=[.tmp 2]
theorem JA:bW Tryz.prog Tryz.f79 y8:=e (by kernel_rfl)
theorem KY:bV Tryz.prog Tryz.f79 DA:=e (by kernel_rfl)
theorem Ik:bK Tryz.prog 79:=e (by kernel_rfl)
def Sx:=[b 1 0,o 2 (.mv bo)]
def Sy:=[f 3 0 0 1,au 4 2 3,o 5 (.call 129 [.t 4]),no 6 5,m 7 6,fn 8 1 2 1 7,fm 9 8 7,on 10 (.call 128 [.t 9,(bh 0),(bh 40)]) 7,on 11 (.un .not (.t 10)) 7,or 12 7 11,m 13 12,fn 14 2 3 1 13,fm 15 14 13,on 16 (.call 105 [.t 15]) 13,on 17 (.un .not (.t 16)) 13,or 18 13 17,m 19 18,fn 20 3 4 1 19,fm 21 20 19,on 22 (.call 105 [.t 21]) 19,on 23 (.un .not (.t 22)) 19,or 24 19 23,m 25 24,fn 26 5 7 1 25,fm 27 26 25,on 28 (.call 130 [.t 27]) 25,on 29 (.un .not (.t 28)) 25,or 30 25 29]
def Sz:=[o 2 (.mv bo)]
def SA:=[f 31 1 2 1,l 32 31,o 33 (.bin .eql (.t 32) (bh 0))]
def SB:=[f 34 2 3 1,l 35 34,o 36 (.bin .eql (.t 35) (bh 0)),m 37 36,cZ 38 5 7 1 37,ff 39 38 37,bI 40 (.bin .eql (.t 39) (.c (.ak ⟨#[]⟩))) 37,and 41 37 40,m 42 41,cZ 43 4 5 1 42,bI 44 (.ld (some 2) (.t 43)) 42,bI 45 (.call 129 [.t 44]) 42,and 46 42 45,m 47 46,cZ 48 4 5 1 47,cZ 49 0 0 48 47,ff 50 49 47,cZ 51 0 0 1 47,cZ 52 0 0 51 47,ff 53 52 47,bI 54 (.bin .eql (.t 50) (.t 53)) 47,and 55 47 54,m 56 55,cZ 57 4 5 1 56,cZ 58 1 1 57 56,ff 59 58 56,cZ 60 0 0 1 56,cZ 61 1 1 60 56,ff 62 61 56,bI 63 (.bin .lss (.t 59) (.t 62)) 56,and 64 56 63,m 2 64]
def SC:=[f 65 4 5 1,au 66 2 65,o 67 (.bld [.int .i64 0,.int .i64 0] []),o 68 (.eqv (.aT [(.i .i64),(.i .i64)]) false (.t 66) (.t 67)),m 2 68]
def c80:bj:=(s (r Sx) (s (s (r Sy) (.cond (.t 30) (s (r Sz) .ret) .skip)) (s (s (r SA) (.cond (.t 33) (s (r SB) .ret) .skip)) (s (r SC) .ret))))
def DB:List bt:=[.tmp 2]
theorem JB:bW Tryz.prog Tryz.f80 c80:=e (by kernel_rfl)
theorem KZ:bV Tryz.prog Tryz.f80 DB:=e (by kernel_rfl)
theorem Il:bK Tryz.prog 80:=e (by kernel_rfl)
def SD:=[b 3 1,o 4 (.mv (.c (.ak ⟨#[]⟩))),bn 5 0]
def SE:=[au 9 8 3,o 10 (.call 131 [.t 9]),m 6 10]
def SF:=[m 11 6,o 12 (.eN (.t 11)),o 13 (.len (.t 12)),bn 14 0]
def SG:=[lt 15 14 13]
def SH:=[o 16 (.is 1 (.t 12) (.t 14)),l 17 16,m 8 17]
def SI:=[m 18 0,o 19 (.bin .mul (bh 257) (.t 18)),m 20 8,o 21 (.conv .i64 (.t 20)),o 22 (.bin .add (.t 19) (.t 21)),ad 23 22 1,o 24 (.bin .rem (.t 23) (bh 1000003)),m 0 24]
def SJ:=[ad 25 14 1,m 14 25]
def SK:=[m 26 0,o 27 (.call 132 [.t 26]),o 28 (.bin .add (.t 27) (.c (.ak ⟨#[32]⟩))),m 29 6,o 30 (.bin .add (.t 28) (.t 29)),o 31 (.bin .add (.t 30) (.c (.ak ⟨#[10]⟩))),m 32 0,m 4 31,m 5 32]
def y9:bj:=(s (r SD) (s (r SE) (s (s (r SF) (.block 0 (.loop (s (r SG) (s (.cond (.t 15) .skip (.exit 0)) (s (.block 1 (s (r SH) (r SI))) (r SJ))))))) (s (r SK) .ret))))
def DC:List bt:=[.tmp 4,.tmp 5]
theorem JC:bW Tryz.prog Tryz.f81 y9:=e (by kernel_rfl)
theorem K0:bV Tryz.prog Tryz.f81 DC:=e (by kernel_rfl)
theorem Im:bK Tryz.prog 81:=e (by kernel_rfl)
def SL:=[o 6 (.mv bo)]
def SM:=[m 7 0,m 8 1,o 9 (.bin .geq (.t 7) (.t 8)),m 10 9,cP 11 0 10,cP 12 2 10,bI 13 (.bin .leq (.t 11) (.t 12)) 10,and 14 10 13,m 6 14]
def za:bj:=(s (r SL) (s (r SM) .ret))
def DE:List bt:=[.tmp 6]
theorem JD:bW Tryz.prog Tryz.f82 za:=e (by kernel_rfl)
theorem K1:bV Tryz.prog Tryz.f82 DE:=e (by kernel_rfl)
theorem Io:bK Tryz.prog 82:=e (by kernel_rfl)
def SN:=[b 3 1,o 4 (.mv (.c (.ak ⟨#[]⟩))),bn 5 0]
def SO:=[au 8 8 3,o 9 (.call 133 [.t 8]),m 6 9]
def SP:=[bn 7 0]
def SQ:=[m 10 7,m 11 6,o 12 (.lenT (.t 11)),lt 13 10 12]
def SR:=[m 16 0,o 17 (.bin .mul (bh 257) (.t 16)),m 18 6,m 19 7,o 20 (.prim .dK [.t 18,.t 19]),o 21 (.conv .i64 (.t 20)),o 22 (.bin .add (.t 17) (.t 21)),ad 23 22 1,o 24 (.bin .rem (.t 23) (bh 1000003)),m 0 24]
def SS:=[m 14 7,ad 15 14 1,m 7 15]
def SU:=[m 25 0,o 26 (.call 134 [.t 25]),o 27 (.bin .add (.t 26) (.c (.ak ⟨#[32]⟩))),m 28 6,o 29 (.bin .add (.t 27) (.t 28)),o 30 (.bin .add (.t 29) (.c (.ak ⟨#[10]⟩))),m 31 0,m 4 30,m 5 31]
def zb:bj:=(s (r SN) (s (r SO) (s (s (r SP) (.block 0 (.loop (s (s (r SQ) (.cond (.t 13) .skip (.exit 0))) (s (.block 1 (r SR)) (r SS)))))) (s (r SU) .ret))))
def DF:List bt:=[.tmp 4,.tmp 5]
theorem JE:bW Tryz.prog Tryz.f83 zb:=e (by kernel_rfl)
theorem K2:bV Tryz.prog Tryz.f83 DF:=e (by kernel_rfl)
theorem Ip:bK Tryz.prog 83:=e (by kernel_rfl)
def SV:=[b 1 0,o 2 (.mv bo)]
def SX:=[f 3 0 0 1,l 4 3,o 5 (.call 82 [.t 4,(bh 0),(bh 5)]),m 6 5,cZ 7 1 1 1 6,ff 8 7 6,bI 9 (.call 82 [.t 8,(bh 0),(bh 9999)]) 6,and 10 6 9,m 2 10]
def c85:bj:=(s (r SV) (s (r SX) .ret))
def DG:List bt:=[.tmp 2]
theorem JF:bW Tryz.prog Tryz.f85 c85:=e (by kernel_rfl)
theorem K3:bV Tryz.prog Tryz.f85 DG:=e (by kernel_rfl)
theorem Iq:bK Tryz.prog 85:=e (by kernel_rfl)
def SY:=[o 2 (.mv bo)]
def SZ:=[m 4 0,o 5 (.lenT (.t 4)),o 6 (.bin .gtr (.t 5) (bh 160))]
def S0:=[o 2 (.mv bo)]
def S1:=[bn 3 0]
def S2:=[m 7 3,m 8 0,o 9 (.lenT (.t 8)),lt 10 7 9]
def S3:=[m 13 0,m 14 3,o 15 (.prim .dK [.t 13,.t 14]),o 16 (.bin .lss (.t 15) (.c (.int .u8 32))),m 17 16,fF 18 0 17,fF 19 3 17,on 20 (.prim .dK [.t 18,.t 19]) 17,on 21 (.bin .gtr (.t 20) (.c (.int .u8 126))) 17,or 22 17 21,m 23 22,fF 24 0 23,fF 25 3 23,on 26 (.prim .dK [.t 24,.t 25]) 23,on 27 (.bin .eql (.t 26) (.c (.int .u8 63))) 23,or 28 23 27]
def S4:=[o 2 (.mv bo)]
def S5:=[m 11 3,ad 12 11 1,m 3 12]
def S6:=[o 2 (.mv T)]
def zc:bj:=(s (r SY) (s (s (r SZ) (.cond (.t 6) (s (r S0) .ret) .skip)) (s (s (r S1) (.block 0 (.loop (s (s (r S2) (.cond (.t 10) .skip (.exit 0))) (s (.block 1 (s (r S3) (.cond (.t 28) (s (r S4) .ret) .skip))) (r S5)))))) (s (r S6) .ret))))
def DH:List bt:=[.tmp 2]
theorem JG:bW Tryz.prog Tryz.f86 zc:=e (by kernel_rfl)
theorem K4:bV Tryz.prog Tryz.f86 DH:=e (by kernel_rfl)
theorem Ir:bK Tryz.prog 86:=e (by kernel_rfl)
def S7:=[b 2 0,o 4 (.mv bo)]
def S8:=[m 6 1,o 7 (.call 98 [.t 6]),no 8 7,m 9 8,fn 10 0 0 2 9,on 11 (.ld (some 2) (.t 10)) 9,on 12 (.call 73 [.t 11]) 9,fF 13 1 9,on 14 (.call 135 [.t 13]) 9,on 15 (.bin .neq (.t 12) (.t 14)) 9,or 16 9 15]
def S9:=[o 4 (.mv bo)]
def Ta:=[m 17 1,o 18 (.len (.t 17)),ad 19 18 1,bn 20 0]
def Tb:=[lt 21 20 19]
def Tc:=[m 22 20,m 5 22]
def Td:=[f 23 1 2 2,au 24 2 23,o 25 (.call 73 [.t 24]),m 26 1,m 27 5,o 28 (.sl 8 (.t 26) none (some (.t 27)) none),o 29 (.call 135 [.t 28]),o 30 (.bin .eql (.t 25) (.t 29))]
def LK:=some [[],[0],[1],[],[],[3,4],[5,2],[2,6]]
def Te:=[o 4 (.mv T)]
def Tf:=[ad 31 20 1,m 20 31]
def Tg:=[o 4 (.mv bo)]
def zd:bj:=(s (r S7) (s (s (r S8) (.cond (.t 16) (s (r S9) .ret) .skip)) (s (s (r Ta) (.block 0 (.loop (s (r Tb) (s (.cond (.t 21) .skip (.exit 0)) (s (.block 1 (s (r Tc) (s (.bU LK Td) (.cond (.t 30) (s (r Te) .ret) .skip)))) (r Tf))))))) (s (r Tg) .ret))))
def DI:List bt:=[.tmp 4]
theorem JH:bW Tryz.prog Tryz.f87 zd:=e (by kernel_rfl)
theorem K5:bV Tryz.prog Tryz.f87 DI:=e (by kernel_rfl)
theorem Is:bK Tryz.prog 87:=e (by kernel_rfl)
def Th:=[b 3 0,b 5 2,o 6 (.alloc (.agg [.agg [.ak ⟨#[]⟩,.ak ⟨#[]⟩],.agg [.ak ⟨#[]⟩,.ak ⟨#[]⟩]])),o 7 (.mv (.c (.nils 8))),bn 8 0]
def Ti:=[m 13 1,au 14 8 5,o 15 (.call 136 [.t 13,.t 14])]
def uZ:=[au 16 4 3,m 17 1,o 18 (.call 93 [.t 17]),p (.aT (some 4) (.t 6) (.t 16)),m 7 18,bn 8 0]
def LL:=some [[],[],[1],[0,2,0],[2,3,0,1,2,3],[4,0,1,2,3,4]]
def Tj:=[m 20 1,o 21 (.call 95 [.t 20]),au 22 8 5,o 23 (.call 44 [.t 21,.t 22]),m 19 23,o 24 (.ext (.t 19) 0),o 25 (.ext (.t 19) 1),o 9 (.alloc (.agg [.nils 8])),p (.aT (some 1) (.t 9) (.t 24)),m 10 25]
def LM:=some [[],[0],[],[1,2,1],[3],[4],[4],[],[7,5,3,0,1,2,3,4,5,7],[6,8,0,1,2,3,4,5,6,7,8]]
def Tk:=[m 26 10,o 27 (.bin .neq (.t 26) (bh 0))]
def Tl:=[o 28 (.bld [.agg [.ak ⟨#[]⟩,.ak ⟨#[]⟩],.agg [.ak ⟨#[]⟩,.ak ⟨#[]⟩]] []),m 29 10,p (.aT (some 4) (.t 6) (.t 28)),o 7 (.mv (.c (.nils 8))),m 8 29]
def Tm:=[m 31 1,o 32 (.call 137 [.t 31]),au 33 8 5,o 34 (.call 81 [.t 32,.t 33]),m 30 34,o 35 (.ext (.t 30) 0),o 36 (.ext (.t 30) 1),m 11 35,m 12 36]
def LN:=some [[],[0],[],[1,2,1],[3],[4],[4],[5,3,0,1,2,3,4,5],[6,7,0,1,2,3,4,5,6,7]]
def Tn:=[f 37 0 0 3,f 38 1 1 37,l 39 38,m 40 11,o 41 (.bin .add (.t 39) (.t 40)),f 42 0 0 3,f 43 1 1 42,p (.aT none (.t 43) (.t 41))]
def u1:=[au 44 4 3,m 45 1,o 46 (.call 93 [.t 45]),au 47 8 5,o 48 (.bs 50 8 [.t 47]),o 49 (.dv 50 8 72 (.agg [.agg [.int .i64 0,.int .i64 0],.int .i64 0,.int .i64 0,.int .i64 0,.agg [.int .i64 0,.int .i64 0],.ak ⟨#[]⟩]) (.t 46) (.t 48)),p (.aT (some 4) (.t 6) (.t 44)),m 7 49,bn 8 0]
def LO:=some [[],[],[1],[],[3],[2,4,2],[0,5,0],[5,6,0,1,2,3,4,5,6],[7,0,1,2,3,4,5,6,7]] -- DRAW BAD
def ze:bj:=(s (r Th) (s (s (r Ti) (.cond (.t 15) (s (.bU LL uZ) .ret) .skip)) (s (s (.bU LM Tj) (s (r Tk) (.cond (.t 27) (s (r Tl) .ret) .skip))) (s (.bU LN Tm) (s (r Tn) (s (.bU LO u1) .ret))))))
def DJ:List bt:=[.cell 6 (some 4),.tmp 7,.tmp 8]
theorem JI:bW Tryz.prog Tryz.f88 ze:=e (by kernel_rfl)
theorem K6:bV Tryz.prog Tryz.f88 DJ:=e (by kernel_rfl)
theorem It:bK Tryz.prog 88:=e (by kernel_rfl)
def Tp:=[o 2 (.mv (.c (.ak ⟨#[]⟩)))]
def Tq:=[o 3 (.mv (.c (.ak ⟨#[]⟩)))]
def Tr:=[bn 4 1]
def Ts:=[bn 5 0]
def Tt:=[m 8 5,m 9 0,o 10 (.len (.t 9)),lt 11 8 10]
def Tu:=[m 15 4,m 16 0,m 17 5,o 18 (.is 8 (.t 16) (.t 17)),au 19 8 18,o 20 (.call 83 [.t 15,.t 19]),m 14 20,o 21 (.ext (.t 14) 0),o 22 (.ext (.t 14) 1),m 6 21,m 7 22]
def Tv:=[m 23 3,m 24 6,o 25 (.bin .add (.t 23) (.t 24)),m 3 25]
def Tw:=[m 26 7,m 4 26]
def Tx:=[m 12 5,ad 13 12 1,m 5 13]
def Ty:=[m 27 3,m 2 27]
def zf:bj:=(s (r Tp) (s (r Tq) (s (r Tr) (s (s (r Ts) (.block 0 (.loop (s (s (r Tt) (.cond (.t 11) .skip (.exit 0))) (s (.block 1 (s (r Tu) (s (r Tv) (r Tw)))) (r Tx)))))) (s (r Ty) .ret)))))
def DL:List bt:=[.tmp 2]
theorem JK:bW Tryz.prog Tryz.f90 zf:=e (by kernel_rfl)
theorem K8:bV Tryz.prog Tryz.f90 DL:=e (by kernel_rfl)
theorem Iv:bK Tryz.prog 90:=e (by kernel_rfl)
def Tz:=[o 2 (.mv bo)]
def TA:=[bn 3 0]
def TB:=[m 4 3,m 5 0,o 6 (.len (.t 5)),lt 7 4 6]
def TC:=[m 10 0,m 11 3,m 12 3,o 13 (.sl 8 (.t 10) none (some (.t 11)) (some (.t 12))),m 14 0,m 15 3,o 16 (.is 8 (.t 14) (.t 15)),au 17 8 16,o 18 (.call 72 [.t 13,.t 17]),no 19 18]
def LP:=some [[],[],[],[0,1,2],[],[],[4,5],[6],[3,7],[8]]
def TD:=[o 2 (.mv bo)]
def TE:=[m 8 3,ad 9 8 1,m 3 9]
def TF:=[o 2 (.mv T)]
def zg:bj:=(s (r Tz) (s (s (r TA) (.block 0 (.loop (s (s (r TB) (.cond (.t 7) .skip (.exit 0))) (s (.block 1 (s (.bU LP TC) (.cond (.t 19) (s (r TD) .ret) .skip))) (r TE)))))) (s (r TF) .ret)))
def DM:List bt:=[.tmp 2]
theorem JL:bW Tryz.prog Tryz.f91 zg:=e (by kernel_rfl)
theorem K9:bV Tryz.prog Tryz.f91 DM:=e (by kernel_rfl)
theorem Iw:bK Tryz.prog 91:=e (by kernel_rfl)
def TG:=[b 1 0,o 2 (.mv bo)]
def TH:=[f 6 0 0 1,l 7 6,o 8 (.len (.t 7)),bn 9 0]
def TL:=[lt 10 9 8]
def TM:=[m 11 9,o 12 (.is 8 (.t 7) (.t 9)),au 13 8 12,o 4 (.alloc (.agg [.agg [.int .i64 0,.int .i64 0],.int .i64 0,.int .i64 0,.int .i64 0,.agg [.int .i64 0,.int .i64 0],.ak ⟨#[]⟩])),m 3 11,p (.aT (some 8) (.t 4) (.t 13))]
def TN:=[au 14 8 4,o 15 (.call 80 [.t 14]),no 16 15]
def TO:=[o 2 (.mv bo)]
def TP:=[o 17 (.bld [.int .i64 0,.int .i64 0] [(0,(.c (.int .i64 (-1))))]),o 5 (.alloc (.agg [.int .i64 0,.int .i64 0])),p (.aT (some 2) (.t 5) (.t 17))]
def TQ:=[m 18 3,o 19 (.bin .gtr (.t 18) (bh 0))]
def TR:=[f 20 0 0 1,l 21 20,m 22 3,o 23 (.bin .sub (.t 22) (bh 1)),o 24 (.is 8 (.t 21) (.t 23)),f 25 0 0 24,au 26 2 25,p (.aT (some 2) (.t 5) (.t 26))]
def TS:=[f 27 0 0 4,au 28 2 27,f 29 0 0 5,l 30 29,f 31 1 1 5,l 32 31,ad 33 32 1,o 34 (.bld [.int .i64 0,.int .i64 0] [(0,(.t 30)),(1,(.t 33))]),o 35 (.eqv (.aT [(.i .i64),(.i .i64)]) true (.t 28) (.t 34)),m 36 35,cZ 37 0 0 4 36,cZ 38 0 0 37 36,ff 39 38 36,cZ 40 0 0 5 36,ff 41 40 36,bI 42 (.bin .leq (.t 39) (.t 41)) 36,cP 43 42 36,fn 44 0 0 4 43,fn 45 1 1 44 43,fm 46 45 43,on 47 (.bin .neq (.t 46) (bh 0)) 43,bI 48 (.pick (.t 43) T (.t 47)) 36,and 49 36 48]
def TI:=[o 2 (.mv bo)]
def TJ:=[ad 50 9 1,m 9 50]
def TK:=[f 51 0 0 1,l 52 51,o 53 (.len (.t 52)),o 54 (.bin .leq (.t 53) (bh 60)),m 2 54]
def zh:bj:=(s (r TG) (s (s (r TH) (.block 0 (.loop (s (r TL) (s (.cond (.t 10) .skip (.exit 0)) (s (.block 1 (s (r TM) (s (s (r TN) (.cond (.t 16) (s (r TO) .ret) .skip)) (s (r TP) (s (s (r TQ) (.cond (.t 19) (r TR) .skip)) (s (r TS) (.cond (.t 49) (s (r TI) .ret) .skip))))))) (r TJ))))))) (s (r TK) .ret)))
def DN:List bt:=[.tmp 2]
theorem JM:bW Tryz.prog Tryz.f92 zh:=e (by kernel_rfl)
theorem La:bV Tryz.prog Tryz.f92 DN:=e (by kernel_rfl)
theorem Iy:bK Tryz.prog 92:=e (by kernel_rfl)
def u2:=[o 2 (.mv (.c (.nils 8)))]
def pE:=[m 3 0,o 4 (.nilS false (.t 3))]
def u3:=[o 2 (.mv (.c (.nils 8)))]
def pF:=[o 5 (.bs0 8),m 6 0,o 7 (.dv 50 8 72 (.agg [.agg [.int .i64 0,.int .i64 0],.int .i64 0,.int .i64 0,.int .i64 0,.agg [.int .i64 0,.int .i64 0],.ak ⟨#[]⟩]) (.t 5) (.t 6)),m 2 7]
def ug:bj:=(s (r u2) (s (s (r pE) (.cond (.t 4) (s (r u3) .ret) .skip)) (s (r pF) .ret)))
def vZ:List bt:=[.tmp 2]
theorem zC:bW Tryz.prog Tryz.f93 ug:=e (by kernel_rfl)
theorem zN:bV Tryz.prog Tryz.f93 vZ:=e (by kernel_rfl)
theorem zu:bK Tryz.prog 93:=e (by kernel_rfl)
def TT:=[b 2 0,b 3 1,bn 4 0,o 5 (.mv bo)]
def TU:=[f 6 0 0 2,l 7 6,au 8 2 3,o 9 (.call 138 [.t 7,.t 8,(.c (.func 139 []))]),o 10 (.ext (.t 9) 0),o 11 (.ext (.t 9) 1),m 4 10,m 5 11]
def zi:bj:=(s (r TT) (s (r TU) .ret))
def DO:List bt:=[.tmp 4,.tmp 5]
theorem JN:bW Tryz.prog Tryz.f94 zi:=e (by kernel_rfl)
theorem Lb:bV Tryz.prog Tryz.f94 DO:=e (by kernel_rfl)
theorem Iz:bK Tryz.prog 94:=e (by kernel_rfl)
def TV:=[o 2 (.alloc (.agg [.nils 8]))]
def TW:=[m 4 0,o 5 (.call 93 [.t 4]),m 3 5]
def A6:=[m 6 3,o 7 (.call 141 [.t 6,(.c (.func 142 []))])]
def TX:=[m 8 3,o 9 (.bld [.nils 8] [(0,(.t 8))]),p (.aT (some 1) (.t 2) (.t 9))]
def uh:bj:=(s (r TV) (s (r TW) (s (r A6) (s (r TX) .ret))))
def v7:List bt:=[.cell 2 (some 1)]
theorem zD:bW Tryz.prog Tryz.f95 uh:=e (by kernel_rfl)
theorem zO:bV Tryz.prog Tryz.f95 v7:=e (by kernel_rfl)
theorem zw:bK Tryz.prog 95:=e (by kernel_rfl)
def TY:=[b 3 1,bn 4 0]
def TZ:=[bn 5 0]
def T0:=[m 6 5,m 7 0,o 8 (.len (.t 7)),lt 9 6 8]
def T6:=[m 12 0,m 13 5,o 14 (.is 8 (.t 12) (.t 13)),f 15 0 0 14,au 16 2 15,au 17 2 3,o 18 (.eqv (.aT [(.i .i64),(.i .i64)]) false (.t 16) (.t 17))]
def LQ:=some [[],[],[0,1],[2],[3],[],[4,5]]
def T7:=[m 19 5,m 4 19]
def T8:=[m 10 5,ad 11 10 1,m 5 11]
def T9:=[bn 4 (-1)]
def zj:bj:=(s (r TY) (s (s (r TZ) (.block 0 (.loop (s (s (r T0) (.cond (.t 9) .skip (.exit 0))) (s (.block 1 (s (.bU LQ T6) (.cond (.t 18) (s (r T7) .ret) .skip))) (r T8)))))) (s (r T9) .ret)))
def DP:List bt:=[.tmp 4]
theorem JO:bW Tryz.prog Tryz.f96 zj:=e (by kernel_rfl)
theorem Lc:bV Tryz.prog Tryz.f96 DP:=e (by kernel_rfl)
theorem IA:bK Tryz.prog 96:=e (by kernel_rfl)
def Ua:=[b 3 1,o 4 (.mv (.c (.nils 8)))]
def Ub:=[bn 5 0]
def Uc:=[m 6 5,m 7 0,o 8 (.len (.t 7)),lt 9 6 8,m 10 9,cP 11 0 10,cP 12 5 10,bI 13 (.is 8 (.t 11) (.t 12)) 10,cZ 14 0 0 13 10,bI 15 (.ld (some 2) (.t 14)) 10,cZ 16 0 0 3 10,bI 17 (.ld (some 2) (.t 16)) 10,bI 18 (.call 108 [.t 15,.t 17]) 10,and 19 10 18]
def LR:=some [[],[],[1],[0,2],[3],[4],[4],[5,6,4],[7,4],[8,4],[4],[10,4],[9,11,4,4],[4,12]]
def Ud:=[m 20 5,ad 21 20 1,m 5 21]
def rL:=[o 22 (.bs0 8),m 23 0,m 24 5,o 25 (.sl 8 (.t 23) none (some (.t 24)) none),o 26 (.dv 50 8 72 (.agg [.agg [.int .i64 0,.int .i64 0],.int .i64 0,.int .i64 0,.int .i64 0,.agg [.int .i64 0,.int .i64 0],.ak ⟨#[]⟩]) (.t 22) (.t 25)),au 27 8 3,o 28 (.bs 50 8 [.t 27]),o 29 (.dv 50 8 72 (.agg [.agg [.int .i64 0,.int .i64 0],.int .i64 0,.int .i64 0,.int .i64 0,.agg [.int .i64 0,.int .i64 0],.ak ⟨#[]⟩]) (.t 26) (.t 28)),m 30 0,m 31 5,o 32 (.sl 8 (.t 30) (some (.t 31)) none none),o 33 (.dv 50 8 72 (.agg [.agg [.int .i64 0,.int .i64 0],.int .i64 0,.int .i64 0,.int .i64 0,.agg [.int .i64 0,.int .i64 0],.ak ⟨#[]⟩]) (.t 29) (.t 32)),m 4 33]
def zS:=some [[],[],[],[1,2],[0,3],[],[5],[4,6,4],[],[],[8,9],[7,10,7],[11,11,0,1,2,3,4,5,6,7,8,9,10,11]] -- DRAW BAD
def zk:bj:=(s (r Ua) (s (r Ub) (s (.block 0 (.loop (s (s (.bU LR Uc) (.cond (.t 19) .skip (.exit 0))) (.block 1 (r Ud))))) (s (.bU zS rL) .ret))))
def DQ:List bt:=[.tmp 4]
theorem JP:bW Tryz.prog Tryz.f97 zk:=e (by kernel_rfl)
theorem Ld:bV Tryz.prog Tryz.f97 DQ:=e (by kernel_rfl)
theorem IB:bK Tryz.prog 97:=e (by kernel_rfl)
def Ue:=[o 2 (.mv bo)]
def Uf:=[m 5 0,o 6 (.len (.t 5)),bn 7 0]
def Ug:=[lt 8 7 6]
def Uh:=[m 9 7,o 10 (.is 8 (.t 5) (.t 7)),au 11 8 10,o 4 (.alloc (.agg [.agg [.int .i64 0,.int .i64 0],.int .i64 0,.int .i64 0,.int .i64 0,.agg [.int .i64 0,.int .i64 0],.ak ⟨#[]⟩])),m 3 9,p (.aT (some 8) (.t 4) (.t 11))]
def Ui:=[au 12 8 4,o 13 (.call 80 [.t 12]),no 14 13,m 15 14,fF 16 0 15,fF 17 3 15,on 18 (.sl 8 (.t 16) none (some (.t 17)) none) 15,on 19 (.ld (some 8) (.t 4)) 15,on 20 (.call 71 [.t 18,.t 19]) 15,on 21 (.un .not (.t 20)) 15,or 22 15 21]
def LS:=some [[],[0],[1],[2,1],[3],[3],[4,5,3],[3],[6,7,3,3],[8,3],[3,9]]
def Uj:=[o 2 (.mv bo)]
def Uk:=[ad 23 7 1,m 7 23]
def Ul:=[o 2 (.mv T)]
def zl:bj:=(s (r Ue) (s (s (r Uf) (.block 0 (.loop (s (r Ug) (s (.cond (.t 8) .skip (.exit 0)) (s (.block 1 (s (r Uh) (s (.bU LS Ui) (.cond (.t 22) (s (r Uj) .ret) .skip)))) (r Uk))))))) (s (r Ul) .ret)))
def DR:List bt:=[.tmp 2]
theorem JQ:bW Tryz.prog Tryz.f98 zl:=e (by kernel_rfl)
theorem Le:bV Tryz.prog Tryz.f98 DR:=e (by kernel_rfl)
theorem IC:bK Tryz.prog 98:=e (by kernel_rfl)
def Um:=[o 2 (.mv (.c (.nils 8)))]
def Un:=[o 3 (.mv (.c (.nils 8)))]
def Uo:=[bn 4 0]
def Up:=[m 5 4,m 6 0,o 7 (.len (.t 6)),lt 8 5 7]
def Uq:=[m 11 3,m 12 0,m 13 4,o 14 (.is 8 (.t 12) (.t 13)),au 15 8 14,o 16 (.call 97 [.t 11,.t 15]),m 3 16]
def Ur:=[m 9 4,ad 10 9 1,m 4 10]
def Us:=[m 17 3,m 2 17]
def zm:bj:=(s (r Um) (s (r Un) (s (s (r Uo) (.block 0 (.loop (s (s (r Up) (.cond (.t 8) .skip (.exit 0))) (s (.block 1 (r Uq)) (r Ur)))))) (s (r Us) .ret))))
def DS:List bt:=[.tmp 2]
theorem JR:bW Tryz.prog Tryz.f99 zm:=e (by kernel_rfl)
theorem Lf:bV Tryz.prog Tryz.f99 DS:=e (by kernel_rfl)
theorem ID:bK Tryz.prog 99:=e (by kernel_rfl)
def MZ:=[o 2 (.alloc (.agg [.int .i64 0,.int .i64 0,.int .i64 0,.int .i64 0,.int .i64 0,.int .i64 0]))]
def M0:=[o 3 (.alloc (.agg [.int .i64 0,.int .i64 0,.int .i64 0,.int .i64 0,.int .i64 0,.int .i64 0]))]
def M2:=[m 6 0,o 7 (.len (.t 6)),bn 8 0]
def M3:=[lt 9 8 7]
def M4:=[o 10 (.is 8 (.t 6) (.t 8)),au 11 8 10,o 5 (.alloc (.agg [.agg [.int .i64 0,.int .i64 0],.int .i64 0,.int .i64 0,.int .i64 0,.agg [.int .i64 0,.int .i64 0],.ak ⟨#[]⟩])),p (.aT (some 8) (.t 5) (.t 11))]
def M5:=[f 12 0 0 5,f 13 0 0 12,l 14 13,o 15 (.ia 6 1 (.t 3) (.t 14)),l 16 15,ad 17 16 1,o 18 (.ia 6 1 (.t 3) (.t 14)),p (.aT none (.t 18) (.t 17))]
def M6:=[ad 19 8 1,m 8 19]
def M7:=[au 20 6 3,p (.aT (some 6) (.t 2) (.t 20))]
def yg:bj:=(s (r MZ) (s (r M0) (s (s (r M2) (.block 0 (.loop (s (r M3) (s (.cond (.t 9) .skip (.exit 0)) (s (.block 1 (s (r M4) (r M5))) (r M6))))))) (s (r M7) .ret))))
def CL:List bt:=[.cell 2 (some 6)]
theorem IN:bW Tryz.prog Tryz.f100 yg:=e (by kernel_rfl)
theorem Ka:bV Tryz.prog Tryz.f100 CL:=e (by kernel_rfl)
theorem Ho:bK Tryz.prog 100:=e (by kernel_rfl)
def rE:=[o 6 (.mv (.c (.nils 8)))]
def rF:=[m 10 0,m 11 1,o 12 (.sl 8 (.t 10) (some (.t 11)) none none)]
def rG:=[m 13 2,o 14 (.len (.t 13)),m 7 14]
def rH:=[m 15 7,o 16 (.bin .eql (.t 15) (bh 0))]
def Nb:=[m 17 0,m 6 17]
def rI:=[m 18 0,o 19 (.len (.t 18)),m 8 19]
def rJ:=[m 20 1,m 21 8,o 22 (.bin .eql (.t 20) (.t 21))]
def pD:=[m 23 0,m 24 2,o 25 (.dv 50 8 72 (.agg [.agg [.int .i64 0,.int .i64 0],.int .i64 0,.int .i64 0,.int .i64 0,.agg [.int .i64 0,.int .i64 0],.ak ⟨#[]⟩]) (.t 23) (.t 24)),m 6 25]
def AU:=[m 26 8,m 27 7,o 28 (.bin .add (.t 26) (.t 27)),m 29 0,o 30 (.cap (.t 29)),o 31 (.bin .gtr (.t 28) (.t 30))]
def AV:=[m 32 0,m 33 1,o 34 (.sl 8 (.t 32) none (some (.t 33)) none),m 35 8,m 36 7,o 37 (.bin .add (.t 35) (.t 36)),m 38 1,o 39 (.bin .sub (.t 37) (.t 38)),o 40 (.jA 50 8 72 (.agg [.agg [.int .i64 0,.int .i64 0],.int .i64 0,.int .i64 0,.int .i64 0,.agg [.int .i64 0,.int .i64 0],.ak ⟨#[]⟩]) (.t 34) (.t 39)),m 9 40]
def AM:=[m 41 9,m 42 1,o 43 (.sl 8 (.t 41) (some (.t 42)) none none),m 44 2,o 45 (.fW 8 (.t 43) (.t 44))]
def AN:=[m 46 9,m 47 1,m 48 7,o 49 (.bin .add (.t 47) (.t 48)),o 50 (.sl 8 (.t 46) (some (.t 49)) none none),m 51 0,m 52 1,o 53 (.sl 8 (.t 51) (some (.t 52)) none none),o 54 (.fW 8 (.t 50) (.t 53))]
def Lm:=some [[],[],[],[1,2],[0,3],[],[],[5,6],[4,7]]
def AO:=[m 55 9,m 6 55]
def AP:=[m 56 0,m 57 8,m 58 7,o 59 (.bin .add (.t 57) (.t 58)),o 60 (.sl 8 (.t 56) none (some (.t 59)) none),m 0 60]
def AQ:=[m 61 2,m 62 0,m 63 1,m 64 7,o 65 (.bin .add (.t 63) (.t 64)),o 66 (.sl 8 (.t 62) (some (.t 65)) none none),o 67 (.gE 143 [.t 61,.t 66]),no 68 67]
def AR:=[m 69 0,m 70 1,m 71 7,o 72 (.bin .add (.t 70) (.t 71)),o 73 (.sl 8 (.t 69) (some (.t 72)) none none),m 74 0,m 75 1,o 76 (.sl 8 (.t 74) (some (.t 75)) none none),o 77 (.fW 8 (.t 73) (.t 76))]
def Ln:=some [[],[],[],[1,2],[0,3],[],[],[5,6],[4,7]]
def AS:=[m 78 0,m 79 1,o 80 (.sl 8 (.t 78) (some (.t 79)) none none),m 81 2,o 82 (.fW 8 (.t 80) (.t 81))]
def AT:=[m 83 0,m 6 83]
def M8:=[m 84 0,m 85 8,o 86 (.sl 8 (.t 84) (some (.t 85)) none none),m 87 2,o 88 (.fW 8 (.t 86) (.t 87))]
def M9:=[m 89 0,m 90 1,o 91 (.sl 8 (.t 89) (some (.t 90)) none none),m 92 7,o 93 (.call 144 [.t 91,.t 92])]
def Na:=[m 94 0,m 6 94]
def rf:bj:=(s (r rE) (s (r rF) (s (r rG) (s (s (r rH) (.cond (.t 16) (s (r Nb) .ret) .skip)) (s (r rI) (s (s (r rJ) (.cond (.t 22) (s (r pD) .ret) .skip)) (s (s (r AU) (.cond (.t 31) (s (r AV) (s (r AM) (s (.bU Lm AN) (s (r AO) .ret)))) .skip)) (s (r AP) (s (s (r AQ) (.cond (.t 68) (s (.bU Ln AR) (s (r AS) (s (r AT) .ret))) .skip)) (s (r M8) (s (r M9) (s (r Na) .ret))))))))))))
def sP:List bt:=[.tmp 6]
theorem uk:bW Tryz.prog Tryz.f101 rf:=e (by kernel_rfl)
theorem uw:bV Tryz.prog Tryz.f101 sP:=e (by kernel_rfl)
theorem ui:bK Tryz.prog 101:=e (by kernel_rfl)
def Nc:=[o 2 (.alloc (.agg [.int .i64 0,.int .i64 0,.int .i64 0,.int .i64 0,.int .i64 0,.int .i64 0]))]
def Nd:=[o 3 (.alloc (.agg [.int .i64 0,.int .i64 0,.int .i64 0,.int .i64 0,.int .i64 0,.int .i64 0]))]
def Nf:=[bn 4 0]
def Ng:=[m 5 4,m 6 0,o 7 (.len (.t 6)),lt 8 5 7]
def Nh:=[m 11 0,m 12 4,o 13 (.is 8 (.t 11) (.t 12)),f 14 0 0 13,f 15 0 0 14,l 16 15,o 17 (.ia 6 1 (.t 3) (.t 16)),l 18 17,ad 19 18 1,o 20 (.ia 6 1 (.t 3) (.t 16)),p (.aT none (.t 20) (.t 19))]
def Ni:=[m 9 4,ad 10 9 1,m 4 10]
def Nj:=[au 21 6 3,p (.aT (some 6) (.t 2) (.t 21))]
def yh:bj:=(s (r Nc) (s (r Nd) (s (s (r Nf) (.block 0 (.loop (s (s (r Ng) (.cond (.t 8) .skip (.exit 0))) (s (.block 1 (r Nh)) (r Ni)))))) (s (r Nj) .ret))))
def CM:List bt:=[.cell 2 (some 6)]
theorem IP:bW Tryz.prog Tryz.f102 yh:=e (by kernel_rfl)
theorem Kb:bV Tryz.prog Tryz.f102 CM:=e (by kernel_rfl)
theorem Hp:bK Tryz.prog 102:=e (by kernel_rfl)
def Nk:=[o 2 (.mv bo)]
def Nl:=[m 3 0,o 4 (.call 128 [.t 3,(bh 0),(bh 100000)]),m 2 4]
def yi:bj:=(s (r Nk) (s (r Nl) .ret))
def CN:List bt:=[.tmp 2]
theorem IQ:bW Tryz.prog Tryz.f105 yi:=e (by kernel_rfl)
theorem Kc:bV Tryz.prog Tryz.f105 CN:=e (by kernel_rfl)
theorem Hq:bK Tryz.prog 105:=e (by kernel_rfl)
def Nn:=[b 2 0,b 3 1,o 4 (.mv bo)]
def Np:=[f 5 0 0 2,l 6 5,f 7 0 0 3,l 8 7,lt 9 6 8,m 10 9,fn 11 0 0 2 10,fm 12 11 10,fn 13 0 0 3 10,fm 14 13 10,on 15 (.bin .eql (.t 12) (.t 14)) 10,fF 16 15 10,cZ 17 1 1 2 16,ff 18 17 16,cZ 19 1 1 3 16,ff 20 19 16,bI 21 (.bin .lss (.t 18) (.t 20)) 16,on 22 (.pick (.t 16) (.t 21) bo) 10,or 23 10 22,m 4 23]
def yj:bj:=(s (r Nn) (s (r Np) .ret))
def CO:List bt:=[.tmp 4]
theorem IS:bW Tryz.prog Tryz.f108 yj:=e (by kernel_rfl)
theorem Kd:bV Tryz.prog Tryz.f108 CO:=e (by kernel_rfl)
theorem Hr:bK Tryz.prog 108:=e (by kernel_rfl)
def Nq:=[bn 6 0]
def Nr:=[m 7 0,o 8 (.len (.t 7)),o 9 (.bin .eql (.t 8) (bh 0))]
def Nt:=[bn 6 0]
def Nu:=[m 10 0,m 11 1,m 12 0,o 13 (.len (.t 12)),o 14 (.bin .rem (.t 11) (.t 13)),o 15 (.is 1 (.t 10) (.t 14)),l 16 15,m 17 2,o 18 (.bin .rem (.t 16) (.t 17)),m 19 2,o 20 (.bin .add (.t 18) (.t 19)),m 21 2,o 22 (.bin .rem (.t 20) (.t 21)),m 6 22]
def yk:bj:=(s (r Nq) (s (s (r Nr) (.cond (.t 9) (s (r Nt) .ret) .skip)) (s (r Nu) .ret)))
def CP:List bt:=[.tmp 6]
theorem IT:bW Tryz.prog Tryz.f121 yk:=e (by kernel_rfl)
theorem Ke:bV Tryz.prog Tryz.f121 CP:=e (by kernel_rfl)
theorem Hs:bK Tryz.prog 121:=e (by kernel_rfl)
def Nv:=[l 4 1,o 5 (.bin .neq (.t 4) (.c (.ak ⟨#[]⟩)))]
def Nw:=[l 6 1,o 7 (.call 123 [.t 6,(.c (.int .u8 10))]),m 3 7]
def Nx:=[m 8 3,o 9 (.bin .lss (.t 8) (bh 0)),m 10 9,fF 11 0 10,fm 12 1 10,fF 13 3 10,on 14 (.bin .add (.t 13) (bh 1)) 10,on 15 (.prim (.ss false true) [.t 12,.t 14]) 10,on 16 (.fj (.t 11) [.t 15]) 10,on 17 (.un .not (.t 16)) 10,or 18 10 17]
def Ny:=[l 19 1,m 20 3,ad 21 20 1,o 22 (.prim (.ss true false) [.t 19,.t 21]),p (.aT none (.t 1) (.t 22))]
def yl:bj:=(.block 0 (.loop (s (s (r Nv) (.cond (.t 5) .skip (.exit 0))) (.block 1 (s (r Nw) (s (s (r Nx) (.cond (.t 18) .ret .skip)) (r Ny)))))))
def CQ:List bt:=[]
theorem IU:bW Tryz.prog Tryz.f122 yl:=e (by kernel_rfl)
theorem Kf:bV Tryz.prog Tryz.f122 CQ:=e (by kernel_rfl)
theorem zp:bK Tryz.prog 122:=e (by kernel_rfl)
theorem Ht:bK Tryz.prog 123:=e (by kernel_rfl)
theorem zq:bK Tryz.prog 124:=e (by kernel_rfl)
theorem Hu:bK Tryz.prog 125:=e (by kernel_rfl)
def Nz:=[bn 2 0,o 3 (.mv (.c (.ak ⟨#[]⟩)))]
def NA:=[m 10 0,o 11 (.call 154 [.t 10,(.c (.ak ⟨#[32]⟩))]),m 9 11,o 12 (.ext (.t 9) 0),o 13 (.ext (.t 9) 1),o 14 (.ext (.t 9) 2),m 4 12,m 5 13,m 6 14]
def NB:=[m 16 4,o 17 (.call 155 [.t 16]),m 15 17,o 18 (.ext (.t 15) 0),o 19 (.ext (.t 15) 1),m 7 18,m 8 19]
def NC:=[m 20 6,no 21 20,m 22 21,fF 23 8 22,on 24 (.prim (.mN true) [.t 23]) 22,or 25 22 24]
def rK:=[o 26 (.bld [] []),o 27 (.prim (.lV 176) [.t 26]),p (.prim .ky [.t 27])]
def ND:=[m 28 7,m 29 5,m 2 28,m 3 29]
def uf:bj:=(s (r Nz) (s (r NA) (s (r NB) (s (s (r NC) (.cond (.t 25) (r rK) .skip)) (s (r ND) .ret)))))
def CR:List bt:=[.tmp 2,.tmp 3]
theorem zB:bW Tryz.prog Tryz.f126 uf:=e (by kernel_rfl)
theorem Kg:bV Tryz.prog Tryz.f126 CR:=e (by kernel_rfl)
theorem zr:bK Tryz.prog 126:=e (by kernel_rfl)
theorem Hv:bK Tryz.prog 127:=e (by kernel_rfl)
def NF:=[o 6 (.mv bo)]
def NG:=[m 7 1,m 8 0,o 9 (.bin .leq (.t 7) (.t 8)),m 10 9,cP 11 0 10,cP 12 2 10,bI 13 (.bin .leq (.t 11) (.t 12)) 10,and 14 10 13,m 6 14]
def ym:bj:=(s (r NF) (s (r NG) .ret))
def CS:List bt:=[.tmp 6]
theorem IV:bW Tryz.prog Tryz.f128 ym:=e (by kernel_rfl)
theorem Kh:bV Tryz.prog Tryz.f128 CS:=e (by kernel_rfl)
theorem Hw:bK Tryz.prog 128:=e (by kernel_rfl)
def NH:=[b 1 0,o 2 (.mv bo)]
def NI:=[f 3 0 0 1,l 4 3,o 5 (.call 128 [.t 4,(bh 0),(bh 5)]),m 6 5,cZ 7 1 1 1 6,ff 8 7 6,bI 9 (.call 128 [.t 8,(bh 0),(bh 9999)]) 6,and 10 6 9,m 2 10]
def yn:bj:=(s (r NH) (s (r NI) .ret))
def CT:List bt:=[.tmp 2]
theorem IW:bW Tryz.prog Tryz.f129 yn:=e (by kernel_rfl)
theorem Ki:bV Tryz.prog Tryz.f129 CT:=e (by kernel_rfl)
theorem Hx:bK Tryz.prog 129:=e (by kernel_rfl)
def NJ:=[o 2 (.mv bo)]
def NK:=[m 5 0,o 6 (.lenT (.t 5)),o 7 (.bin .gtr (.t 6) (bh 160))]
def NL:=[o 2 (.mv bo)]
def NM:=[m 8 0,o 9 (.eN (.t 8)),o 10 (.len (.t 9)),bn 11 0]
def NN:=[lt 12 11 10]
def NO:=[o 13 (.is 1 (.t 9) (.t 11)),l 14 13,m 4 14]
def NP:=[m 15 4,o 16 (.bin .lss (.t 15) (.c (.int .u8 32))),m 17 16,fF 18 4 17,on 19 (.bin .gtr (.t 18) (.c (.int .u8 126))) 17,or 20 17 19,m 21 20,fF 22 4 21,on 23 (.bin .eql (.t 22) (.c (.int .u8 63))) 21,or 24 21 23]
def NQ:=[o 2 (.mv bo)]
def NR:=[ad 25 11 1,m 11 25]
def NS:=[o 2 (.mv T)]
def yp:bj:=(s (r NJ) (s (s (r NK) (.cond (.t 7) (s (r NL) .ret) .skip)) (s (s (r NM) (.block 0 (.loop (s (r NN) (s (.cond (.t 12) .skip (.exit 0)) (s (.block 1 (s (r NO) (s (r NP) (.cond (.t 24) (s (r NQ) .ret) .skip)))) (r NR))))))) (s (r NS) .ret))))
def CU:List bt:=[.tmp 2]
theorem IX:bW Tryz.prog Tryz.f130 yp:=e (by kernel_rfl)
theorem Kj:bV Tryz.prog Tryz.f130 CU:=e (by kernel_rfl)
theorem Hy:bK Tryz.prog 130:=e (by kernel_rfl)
theorem Hz:bK Tryz.prog 131:=e (by kernel_rfl)
theorem HA:bK Tryz.prog 132:=e (by kernel_rfl)
def NT:=[b 1 0,o 2 (.mv (.c (.ak ⟨#[]⟩)))]
def NU:=[f 4 0 0 1,f 5 0 0 4,l 6 5,o 7 (.call 134 [.t 6]),o 8 (.bin .add (.t 7) (.c (.ak ⟨#[32]⟩))),f 9 0 0 1,f 10 1 1 9,l 11 10,o 12 (.call 134 [.t 11]),o 13 (.bin .add (.t 8) (.t 12)),o 14 (.bin .add (.t 13) (.c (.ak ⟨#[32]⟩))),f 15 1 2 1,l 16 15,o 17 (.call 134 [.t 16]),o 18 (.bin .add (.t 14) (.t 17)),o 19 (.bin .add (.t 18) (.c (.ak ⟨#[32]⟩))),f 20 2 3 1,l 21 20,o 22 (.call 134 [.t 21]),o 23 (.bin .add (.t 19) (.t 22)),o 24 (.bin .add (.t 23) (.c (.ak ⟨#[32]⟩))),f 25 3 4 1,l 26 25,o 27 (.call 134 [.t 26]),o 28 (.bin .add (.t 24) (.t 27)),o 29 (.bin .add (.t 28) (.c (.ak ⟨#[32]⟩))),m 3 29]
def Lo:=some [[],[0],[1],[2],[3],[],[5],[6],[7,3],[4,8],[9],[],[11],[12,8],[10,13],[14],[],[16],[17,13],[15,18],[19],[],[21],[22,18],[20,23],[24],[25,23,0,1,2,3,4,5,6,7,8,9,10,11,12,13,14,15,16,17,18,19,20,21,22,23,24,25]]
def NV:=[m 30 3,f 31 4 5 1,f 32 0 0 31,l 33 32,o 34 (.call 134 [.t 33]),o 35 (.bin .add (.t 30) (.t 34)),o 36 (.bin .add (.t 35) (.c (.ak ⟨#[32]⟩))),f 37 4 5 1,f 38 1 1 37,l 39 38,o 40 (.call 134 [.t 39]),o 41 (.bin .add (.t 36) (.t 40)),o 42 (.bin .add (.t 41) (.c (.ak ⟨#[32]⟩))),f 43 5 7 1,l 44 43,o 45 (.bin .add (.t 42) (.t 44)),m 2 45]
def Lp:=some [[],[],[1],[2],[3],[0,4],[5],[],[7],[8],[9,4],[6,10],[11],[],[13],[12,14],[15,10,0,1,2,3,4,5,6,7,8,9,10,11,12,13,14,15]]
def yq:bj:=(s (r NT) (s (.bU Lo NU) (s (.bU Lp NV) .ret)))
def CV:List bt:=[.tmp 2]
theorem IY:bW Tryz.prog Tryz.f133 yq:=e (by kernel_rfl)
theorem Kk:bV Tryz.prog Tryz.f133 CV:=e (by kernel_rfl)
theorem HB:bK Tryz.prog 133:=e (by kernel_rfl)
def NW:=[o 2 (.mv (.c (.ak ⟨#[]⟩)))]
def NX:=[m 4 0,o 5 (.bin .rem (.t 4) (bh 10)),o 6 (.bin .add (bh 48) (.t 5)),o 7 (.conv .u8 (.t 6)),o 8 (.bs 5 1 [.t 7]),o 9 (.b2s (.t 8)),m 3 9]
def NY:=[m 10 0,o 11 (.bin .geq (.t 10) (bh 10))]
def NZ:=[m 12 0,o 13 (.bin .quo (.t 12) (bh 10)),m 0 13]
def N0:=[m 14 0,o 15 (.bin .rem (.t 14) (bh 10)),o 16 (.bin .add (bh 48) (.t 15)),o 17 (.conv .u8 (.t 16)),o 18 (.bs 5 1 [.t 17]),o 19 (.b2s (.t 18)),m 20 3,o 21 (.bin .add (.t 19) (.t 20)),m 3 21]
def N4:=[m 22 3,m 2 22]
def yr:bj:=(s (r NW) (s (r NX) (s (.block 0 (.loop (s (s (r NY) (.cond (.t 11) .skip (.exit 0))) (.block 1 (s (r NZ) (r N0)))))) (s (r N4) .ret))))
def CW:List bt:=[.tmp 2]
theorem IZ:bW Tryz.prog Tryz.f134 yr:=e (by kernel_rfl)
theorem Kl:bV Tryz.prog Tryz.f134 CW:=e (by kernel_rfl)
theorem HC:bK Tryz.prog 134:=e (by kernel_rfl)
theorem HD:bK Tryz.prog 135:=e (by kernel_rfl)
def N5:=[b 3 1,o 4 (.mv bo)]
def N6:=[m 5 0,au 6 8 3,o 7 (.call 159 [.t 5,.t 6]),o 8 (.bin .geq (.t 7) (bh 0)),m 4 8]
def yu:bj:=(s (r N5) (s (r N6) .ret))
def CX:List bt:=[.tmp 4]
theorem I0:bW Tryz.prog Tryz.f136 yu:=e (by kernel_rfl)
theorem Km:bV Tryz.prog Tryz.f136 CX:=e (by kernel_rfl)
theorem HE:bK Tryz.prog 136:=e (by kernel_rfl)
def N7:=[bn 2 0]
def N8:=[bn 3 1]
def N9:=[m 6 0,o 7 (.len (.t 6)),bn 8 0]
def Oa:=[lt 9 8 7]
def Ob:=[o 10 (.is 8 (.t 6) (.t 8)),au 11 8 10,o 5 (.alloc (.agg [.agg [.int .i64 0,.int .i64 0],.int .i64 0,.int .i64 0,.int .i64 0,.agg [.int .i64 0,.int .i64 0],.ak ⟨#[]⟩])),p (.aT (some 8) (.t 5) (.t 11))]
def Oc:=[m 13 3,au 14 8 5,o 15 (.call 81 [.t 13,.t 14]),m 12 15,o 16 (.ext (.t 12) 0),o 17 (.ext (.t 12) 1),m 3 17]
def Od:=[ad 18 8 1,m 8 18]
def Oe:=[m 19 3,m 2 19]
def yw:bj:=(s (r N7) (s (r N8) (s (s (r N9) (.block 0 (.loop (s (r Oa) (s (.cond (.t 9) .skip (.exit 0)) (s (.block 1 (s (r Ob) (r Oc))) (r Od))))))) (s (r Oe) .ret))))
def CY:List bt:=[.tmp 2]
theorem I1:bW Tryz.prog Tryz.f137 yw:=e (by kernel_rfl)
theorem Kn:bV Tryz.prog Tryz.f137 CY:=e (by kernel_rfl)
theorem HF:bK Tryz.prog 137:=e (by kernel_rfl)
def Of:=[b 4 1,bn 6 0,o 7 (.mv bo)]
def Og:=[m 12 0,o 13 (.len (.t 12)),m 8 13]
def Oh:=[m 14 8,bn 9 0,m 10 14]
def Oi:=[m 15 9,m 16 10,lt 17 15 16]
def Oj:=[m 18 9,m 19 10,o 20 (.bin .add (.t 18) (.t 19)),o 21 (.conv .u64 (.t 20)),o 22 (.bin .shr (.t 21) (.c (.int .u64 1))),o 23 (.conv .i64 (.t 22)),m 11 23]
def Ol:=[m 24 2,m 25 0,m 26 11,o 27 (.is 8 (.t 25) (.t 26)),au 28 8 27,au 29 2 4,o 30 (.fj (.t 24) [.t 28,.t 29]),o 31 (.bin .lss (.t 30) (bh 0))]
def Lq:=some [[],[],[],[1,2],[3],[],[0,4,5],[6]]
def Om:=[m 32 11,ad 33 32 1,m 9 33]
def On:=[m 34 11,m 10 34]
def Oo:=[m 35 9,m 36 9,m 37 8,lt 38 36 37,m 39 38,cP 40 2 39,cP 41 0 39,cP 42 9 39,bI 43 (.is 8 (.t 41) (.t 42)) 39,bI 44 (.ld (some 8) (.t 43)) 39,bI 45 (.ld (some 2) (.t 4)) 39,bI 46 (.fj (.t 40) [.t 44,.t 45]) 39,bI 47 (.bin .eql (.t 46) (bh 0)) 39,and 48 39 47,m 6 35,m 7 48]
def Lr:=some [[],[],[],[1,2],[3],[4],[4],[4],[6,7,4],[8,4],[4],[5,9,10,4,4],[11,4],[4,12],[0,11,0],[13,14,0,1,2,3,4,5,6,7,8,9,10,11,12,13,14]]
def yx:bj:=(s (r Of) (s (r Og) (s (r Oh) (s (.block 0 (.loop (s (s (r Oi) (.cond (.t 17) .skip (.exit 0))) (.block 1 (s (r Oj) (s (.bU Lq Ol) (.cond (.t 31) (r Om) (r On)))))))) (s (.bU Lr Oo) .ret)))))
def CZ:List bt:=[.tmp 6,.tmp 7]
theorem I2:bW Tryz.prog Tryz.f138 yx:=e (by kernel_rfl)
theorem Ko:bV Tryz.prog Tryz.f138 CZ:=e (by kernel_rfl)
theorem HG:bK Tryz.prog 138:=e (by kernel_rfl)
def Oq:=[b 2 0,b 3 1,bn 4 0]
def Ot:=[f 5 0 0 2,au 6 2 5,au 7 2 3,o 8 (.call 140 [.t 6,.t 7]),m 4 8]
def yz:bj:=(s (r Oq) (s (r Ot) .ret))
def C0:List bt:=[.tmp 4]
theorem I3:bW Tryz.prog Tryz.f139 yz:=e (by kernel_rfl)
theorem Kp:bV Tryz.prog Tryz.f139 C0:=e (by kernel_rfl)
theorem HI:bK Tryz.prog 139:=e (by kernel_rfl)
def Ou:=[b 2 0,b 3 1,bn 4 0]
def Ov:=[f 5 0 0 2,l 6 5,f 7 0 0 3,l 8 7,o 9 (.call 161 [.t 6,.t 8]),f 10 1 1 2,l 11 10,f 12 1 1 3,l 13 12,o 14 (.call 161 [.t 11,.t 13]),o 15 (.bs 3 1 [.t 9,.t 14]),o 16 (.call 160 [.t 15]),m 4 16]
def Ls:=some [[],[0],[],[2],[1,3],[],[5],[],[7],[6,8,4],[4,9],[10,9],[11,11,0,1,2,3,4,5,6,7,8,9,10,11]]
def yB:bj:=(s (r Ou) (s (.bU Ls Ov) .ret))
def C2:List bt:=[.tmp 4]
theorem I5:bW Tryz.prog Tryz.f140 yB:=e (by kernel_rfl)
theorem Kr:bV Tryz.prog Tryz.f140 C2:=e (by kernel_rfl)
theorem HK:bK Tryz.prog 140:=e (by kernel_rfl)
theorem HL:bK Tryz.prog 141:=e (by kernel_rfl)
theorem HN:bK Tryz.prog 152:=e (by kernel_rfl)
def OI:=[o 4 (.mv (.c (.ak ⟨#[]⟩))),o 5 (.mv (.c (.ak ⟨#[]⟩))),o 6 (.mv bo)]
def OJ:=[m 7 0,m 8 1,o 9 (.call 170 [.t 7,.t 8]),o 10 (.ext (.t 9) 0),o 11 (.ext (.t 9) 1),o 12 (.ext (.t 9) 2),m 4 10,m 5 11,m 6 12]
def yD:bj:=(s (r OI) (s (r OJ) .ret))
def C4:List bt:=[.tmp 4,.tmp 5,.tmp 6]
theorem I7:bW Tryz.prog Tryz.f154 yD:=e (by kernel_rfl)
theorem Kt:bV Tryz.prog Tryz.f154 C4:=e (by kernel_rfl)
theorem HO:bK Tryz.prog 154:=e (by kernel_rfl)
theorem HP:bK Tryz.prog 155:=e (by kernel_rfl)
def OK:=[b 3 1,bn 4 0]
def OL:=[m 6 0,o 7 (.len (.t 6)),bn 8 0]
def OM:=[lt 9 8 7]
def ON:=[m 10 8,m 5 10]
def OO:=[au 11 8 3,m 12 0,m 13 5,o 14 (.is 8 (.t 12) (.t 13)),au 15 8 14,o 16 (.eqv (.aT [(.aT [(.i .i64),(.i .i64)]),(.i .i64),(.i .i64),(.i .i64),(.aT [(.i .i64),(.i .i64)]),.s]) false (.t 11) (.t 15))]
def Lt:=some [[],[],[],[1,2],[3],[0,4]]
def OP:=[m 17 5,m 4 17]
def OQ:=[ad 18 8 1,m 8 18]
def OR:=[bn 4 (-1)]
def yE:bj:=(s (r OK) (s (s (r OL) (.block 0 (.loop (s (r OM) (s (.cond (.t 9) .skip (.exit 0)) (s (.block 1 (s (r ON) (s (.bU Lt OO) (.cond (.t 16) (s (r OP) .ret) .skip)))) (r OQ))))))) (s (r OR) .ret)))
def C5:List bt:=[.tmp 4]
theorem I8:bW Tryz.prog Tryz.f159 yE:=e (by kernel_rfl)
theorem Ku:bV Tryz.prog Tryz.f159 C5:=e (by kernel_rfl)
theorem HQ:bK Tryz.prog 159:=e (by kernel_rfl)
def O3:=[bn 2 0]
def O4:=[bn 3 0]
def O5:=[m 6 0,o 7 (.len (.t 6)),bn 8 0]
def O6:=[lt 9 8 7]
def O7:=[o 10 (.is 1 (.t 6) (.t 8)),l 11 10,m 5 11]
def O8:=[m 12 5,m 13 3,o 14 (.bin .neq (.t 12) (.t 13))]
def O9:=[m 15 5,m 2 15]
def Pa:=[ad 16 8 1,m 8 16]
def Pb:=[m 17 3,m 2 17]
def yF:bj:=(s (r O3) (s (r O4) (s (s (r O5) (.block 0 (.loop (s (r O6) (s (.cond (.t 9) .skip (.exit 0)) (s (.block 1 (s (r O7) (s (r O8) (.cond (.t 14) (s (r O9) .ret) .skip)))) (r Pa))))))) (s (r Pb) .ret))))
def C6:List bt:=[.tmp 2]
theorem I9:bW Tryz.prog Tryz.f160 yF:=e (by kernel_rfl)
theorem Kv:bV Tryz.prog Tryz.f160 C6:=e (by kernel_rfl)
theorem HR:bK Tryz.prog 160:=e (by kernel_rfl)
def Pc:=[bn 4 0]
def Pd:=[m 7 0,o 8 (.call 175 [.t 7]),m 5 8]
def Pj:=[m 9 1,o 10 (.call 175 [.t 9]),m 6 10]
def Pk:=[m 11 5]
def Pl:=[m 12 6]
def Pm:=[bn 4 0]
def Pn:=[bn 4 (-1)]
def Po:=[m 13 6]
def Pp:=[bn 4 1]
def Pq:=[m 14 0,m 15 1,lt 16 14 15]
def Pe:=[bn 4 (-1)]
def Pf:=[m 17 0,m 18 1,o 19 (.bin .gtr (.t 17) (.t 18))]
def Pg:=[bn 4 1]
def Ph:=[bn 4 0]
def yG:bj:=(s (r Pc) (s (r Pd) (s (r Pj) (s (s (r Pk) (.cond (.t 11) (s (s (r Pl) (.cond (.t 12) (s (r Pm) .ret) .skip)) (s (r Pn) .ret)) .skip)) (s (s (r Po) (.cond (.t 13) (s (r Pp) .ret) .skip)) (s (s (r Pq) (.cond (.t 16) (s (r Pe) .ret) .skip)) (s (s (r Pf) (.cond (.t 19) (s (r Pg) .ret) .skip)) (s (r Ph) .ret))))))))
def C7:List bt:=[.tmp 4]
theorem Ja:bW Tryz.prog Tryz.f161 yG:=e (by kernel_rfl)
theorem Kx:bV Tryz.prog Tryz.f161 C7:=e (by kernel_rfl)
theorem HS:bK Tryz.prog 161:=e (by kernel_rfl)
def Pr:=[o 4 (.mv (.c (.ak ⟨#[]⟩))),o 5 (.mv (.c (.ak ⟨#[]⟩))),o 6 (.mv bo)]
def Ps:=[m 8 0,m 9 1,o 10 (.call 188 [.t 8,.t 9]),m 7 10]
def Pt:=[m 11 7,o 12 (.bin .geq (.t 11) (bh 0))]
def Pu:=[m 13 0,m 14 7,o 15 (.prim (.ss false true) [.t 13,.t 14]),m 16 0,m 17 7,m 18 1,o 19 (.lenT (.t 18)),o 20 (.bin .add (.t 17) (.t 19)),o 21 (.prim (.ss true false) [.t 16,.t 20]),m 4 15,m 5 21,o 6 (.mv T)]
def Lv:=some [[],[],[0,1],[],[],[],[5],[4,6],[3,7],[2,0,1,2],[8,9,0,1,2,3,4,5,6,7,8,9],[10,0,1,2,3,4,5,6,7,8,9,10]]
def Pv:=[m 22 0,m 4 22,o 5 (.mv (.c (.ak ⟨#[]⟩))),o 6 (.mv bo)]
def yI:bj:=(s (r Pr) (s (s (r Ps) (s (r Pt) (.cond (.t 12) (s (.bU Lv Pu) .ret) .skip))) (s (r Pv) .ret)))
def C9:List bt:=[.tmp 4,.tmp 5,.tmp 6]
theorem Jc:bW Tryz.prog Tryz.f170 yI:=e (by kernel_rfl)
theorem Kz:bV Tryz.prog Tryz.f170 C9:=e (by kernel_rfl)
theorem zt:bK Tryz.prog 170:=e (by kernel_rfl)
def Pw:=[o 2 (.mv bo)]
def Px:=[m 3 0,m 4 0,o 5 (.bin .neq (.t 3) (.t 4)),m 2 5]
def c175:bj:=(s (r Pw) (s (r Px) .ret))
def Da:List bt:=[.tmp 2]
theorem Jd:bW Tryz.prog Tryz.f175 c175:=e (by kernel_rfl)
theorem KA:bV Tryz.prog Tryz.f175 Da:=e (by kernel_rfl)
theorem HU:bK Tryz.prog 175:=e (by kernel_rfl)
def PF:=[bn 4 0]
def PG:=[m 14 1,o 15 (.lenT (.t 14)),m 5 15]
def PS:=[m 17 5,o 18 (.bin .eql (.t 17) (bh 0)),m 19 18,fF 20 1 19,fF 21 0 19,on 22 (.bin .eql (.t 20) (.t 21)) 19,or 23 19 22,m 16 23]
def P3:=[bn 4 0]
def P7:=[m 25 5,o 26 (.bin .eql (.t 25) (bh 1)),m 24 26]
def P8:=[m 27 0,m 28 1,o 29 (.prim .dK [.t 28,(bh 0)]),o 30 (.call 152 [.t 27,.t 29]),m 4 30]
def P9:=[m 32 5,m 33 0,o 34 (.lenT (.t 33)),o 35 (.bin .geq (.t 32) (.t 34)),m 31 35]
def Qa:=[bn 4 (-1)]
def Qb:=[m 45 0,m 46 1,o 47 (.gE 204 [.t 45,.t 46]),m 4 47]
def Qc:=[m 48 1,o 49 (.prim .dK [.t 48,(bh 0)]),m 6 49]
def PH:=[m 50 1,o 51 (.prim .dK [.t 50,(bh 1)]),m 7 51]
def PI:=[bn 8 0]
def PJ:=[m 52 0,o 53 (.lenT (.t 52)),m 54 5,o 55 (.bin .sub (.t 53) (.t 54)),ad 56 55 1,m 9 56]
def PK:=[bn 10 0]
def PL:=[m 57 8,m 58 9,lt 59 57 58]
def PM:=[m 60 0,m 61 8,o 62 (.prim .dK [.t 60,.t 61]),m 63 6,o 64 (.bin .neq (.t 62) (.t 63))]
def PN:=[m 65 0,m 66 8,ad 67 66 1,m 68 9,o 69 (.prim (.ss true true) [.t 65,.t 67,.t 68]),m 70 6,o 71 (.call 152 [.t 69,.t 70]),m 11 71]
def PO:=[m 72 11,o 73 (.bin .lss (.t 72) (bh 0))]
def PQ:=[bn 4 (-1)]
def PR:=[m 74 8,m 75 11,ad 76 75 1,o 77 (.bin .add (.t 74) (.t 76)),m 8 77]
def PT:=[m 78 0,m 79 8,ad 80 79 1,o 81 (.prim .dK [.t 78,.t 80]),m 82 7,o 83 (.bin .eql (.t 81) (.t 82)),m 84 83,cP 85 0 84,cP 86 8 84,cP 87 8 84,cP 88 5 84,bI 89 (.bin .add (.t 87) (.t 88)) 84,bI 90 (.prim (.ss true true) [.t 85,.t 86,.t 89]) 84,cP 91 1 84,bI 92 (.bin .eql (.t 90) (.t 91)) 84,and 93 84 92]
def PU:=[m 94 8,m 4 94]
def PV:=[m 95 8,ad 96 95 1,m 8 96]
def PW:=[m 97 10,ad 98 97 1,m 10 98]
def PX:=[m 108 0,m 109 8,o 110 (.prim (.ss true false) [.t 108,.t 109]),m 111 1,o 112 (.gE 204 [.t 110,.t 111]),m 12 112]
def PY:=[m 113 12,o 114 (.bin .geq (.t 113) (bh 0))]
def PZ:=[m 115 12,m 116 8,o 117 (.bin .add (.t 115) (.t 116)),m 4 117]
def P0:=[bn 4 (-1)]
def P1:=[m 133 0,m 134 8,o 135 (.prim (.ss true false) [.t 133,.t 134]),m 136 1,o 137 (.call 206 [.t 135,.t 136]),m 13 137]
def P2:=[m 138 13,o 139 (.bin .lss (.t 138) (bh 0))]
def P4:=[bn 4 (-1)]
def P5:=[m 140 8,m 141 13,o 142 (.bin .add (.t 140) (.t 141)),m 4 142]
def P6:=[bn 4 (-1)]
def yK:bj:=(s (r PF) (s (r PG) (s (.block 0 (s (r PS) (.cond (.t 16) (s (r P3) .ret) (s (r P7) (.cond (.t 24) (s (r P8) .ret) (s (r P9) (.cond (.t 31) (s (r Qa) .ret) (s .ph (.cond (.t 36) (s (r Qb) .ret) .skip))))))))) (s (r Qc) (s (r PH) (s (r PI) (s (r PJ) (s (r PK) (s (.block 1 (.loop (s (s (r PL) (.cond (.t 59) .skip (.exit 1))) (.block 2 (s (s (r PM) (.cond (.t 64) (s (r PN) (s (s (r PO) (.cond (.t 73) (s (r PQ) .ret) .skip)) (r PR))) .skip)) (s (s (r PT) (.cond (.t 93) (s (r PU) .ret) .skip)) (s (r PV) (s (r PW) (s .ph (.cond (.t 107) (s (r PX) (s (s (r PY) (.cond (.t 114) (s (r PZ) .ret) .skip)) (s (r P0) .ret))) (s .ph (.cond (.t 132) (s (r P1) (s (s (r P2) (.cond (.t 139) (s (r P4) .ret) .skip)) (s (r P5) .ret))) .skip)))))))))))) (s (r P6) .ret))))))))))
def Dc:List bt:=[.tmp 4]
theorem Jf:bW Tryz.prog Tryz.f188 yK:=e (by kernel_rfl)
theorem KC:bV Tryz.prog Tryz.f188 Dc:=e (by kernel_rfl)
theorem HW:bK Tryz.prog 188:=e (by kernel_rfl)
end Go.Proofs.YtoffnnjbplgnaaaGreatDoor
namespace Go.Abs
open Go Go.RowKit
open Enc (enc)
def aj(x:I)(p q:Prop):Prop:=match x with
 | .bool t=>(t=true→p)∧(t=false→q)
 |_=>False
theorem U.gM{c:cn}{A:ab}{Q:Exit→ab→Prop}{b:aF}{x y:bj}(h:aj (af A b) (U c x Q A) (U c y Q A)):U c (.cond b x y) Q A:=by
 generalize hb:af A b=v at h;unfold aj at h;split at h
 ·exact U.cond hb h.1 h.2
 ·exact h.elim
def nf(r:I):Option (List I)→Prop
 |some xs=>jV xs=r
 |none=>False
theorem YQ(rs:List bt)(r:I)(A:ab):iX rs r .ret A=nf r (er A rs):=by
 simp only[iX,nf];cases er A rs <;>simp
theorem YP(rs:List bt)(r:I)(A:ab):iX rs r .normal A=nf r (er A rs):=by
 simp only[iX,nf];cases er A rs <;>simp
def qi(s:Option Nat)(A:ab):Option I→Option I
 |some x=>if b8 s x=true then bd true A x else none
 |none=>none
def kZ:Option I→Option (List I)→Option (List I)
 |some x,some xs=>some (x::xs)
 |_,_=>none
theorem YH(A:ab):er A []=some []:=rfl
theorem YI(A:ab)(t:Nat)(rs:List bt):er A (.tmp t::rs)=kZ (bd true A (A.t t)) (er A rs):=by
 simp only[er,s7];cases bd true A (A.t t) <;>cases er A rs <;>rfl
theorem YG(A:ab)(a:Nat)(s:Option Nat)(rs:List bt):er A (.cell a s::rs)=kZ (qi s A (fE A (A.t a))) (er A rs):=by
 simp only[er,s7,jF];cases fE A (A.t a) with
 |none=>cases er A rs <;>rfl
 |some x =>
  by_cases h:b8 s x=true
  ·simp only[qi,if_pos h];cases bd true A x <;>cases er A rs <;>rfl
  ·simp only[qi,if_neg h];cases er A rs <;>rfl
def mD(aI:Bool)(A:ab):Option I→Option I
 |some x=>if x.bz=true then some (.ref x) else (fY A 9 x).map .ref
 |none=>none
theorem rB(A:ab)(n:Nat)(p:List Nat):bd true A (.ptr n p)=mD true A (dH p (A.o n)):=by
 simp only[bd,jF,fE,if_true,mD];cases dH p (A.o n) <;>rfl
open Classical in
noncomputable def jk(sz lo k:Nat):Option (List I)→Option I
 |some fs=>if I.cq ((fs.drop lo).take k)=true then some (.slice sz ((fs.drop lo).take k)) else none
 |none=>none
theorem uT(A:ab)(n:Nat)(p:List Nat)(sz lo k:Nat):bd true A (.view n p sz lo k)=jk sz lo k (eB (dH p (A.o n))):=by
 simp only[bd,jF,fE,if_true];cases dH p (A.o n) with
 |none=>rfl
 |some c=>cases c <;>simp only[eB,I.dc,jk] <;>(split <;>simp_all)
open Classical in
noncomputable def lf(k:Nat):Option ai→Option I
 |some (.bQ _ sz es)=>if k=es.length∧I.cq es=true then some (.slice sz es) else none
 |_=>none
theorem MN(aI:Bool)(A:ab)(n k:Nat):bd aI A (.own n k)=lf k (A.o n):=by
 simp only[bd];cases A.o n with
 |none=>rfl
 |some y=>cases y <;>simp only[lf] <;>(split <;>simp_all)
theorem MG(aI:Bool)(A:ab)(fs:List I):bd aI A (.agg fs)=(bL aI A fs).map .agg:=by simp only[bd]
theorem MI(aI:Bool)(A:ab)(f:FuncId)(fs:List I):bd aI A (.func f fs)=if f<1000000 then (bL aI A fs).map (.func f) else some .any:=by simp only[bd]
theorem MJ(aI:Bool)(A:ab)(k:IntKind)(n:Int):bd aI A (.int k n)=some (.int k n):=by simp only[bd]
theorem MH(aI:Bool)(A:ab)(n:Bool):bd aI A (.bool n)=some (.bool n):=by simp only[bd]
theorem MQ(aI:Bool)(A:ab)(n:ByteArray):bd aI A (.ak n)=some (.ak n):=by simp only[bd]
theorem ML(aI:Bool)(A:ab)(n:Nat):bd aI A (.nils n)=some (.slice n []):=by simp only[bd]
theorem MP(aI:Bool)(A:ab)(n:Nat)(es:List I):bd aI A (.slice n es)=if I.cq es=true then some (.slice n es) else none:=by simp only[bd]
theorem MO(aI:Bool)(A:ab)(x:I):bd aI A (.ref x)=if x.bz=true then some (.ref x) else none:=by simp only[bd]
theorem MU(aI:Bool)(A:ab):bL aI A []=some []:=by simp only[bL]
theorem MT(aI:Bool)(A:ab)(x:I)(xs:List I):bL aI A (x::xs)=kZ (bd aI A x) (bL aI A xs):=by
 simp only[bL];cases bd aI A x <;>cases bL aI A xs <;>rfl
theorem JU(fs:List I):(I.agg fs).bz=I.cq fs:=by simp only[I.bz]
theorem JZ(n:Nat)(fs:List I):(I.slice n fs).bz=I.cq fs:=by simp only[I.bz]
theorem JY(x:I):(I.ref x).bz=x.bz:=by simp only[I.bz]
theorem JX(k:IntKind)(n:Int):(I.int k n).bz=true:=by simp only[I.bz]
theorem JV(n:Bool):(I.bool n).bz=true:=by simp only[I.bz]
theorem J0(n:ByteArray):(I.ak n).bz=true:=by simp only[I.bz]
theorem JW(f:FuncId)(fs:List I):(I.func f fs).bz=I.cq fs:=by simp only[I.bz]
theorem J2:I.cq []=true:=by simp only[I.cq]
theorem J1(x:I)(xs:List I):I.cq (x::xs)=(x.bz&&I.cq xs):=by simp only[I.cq]
theorem GX(k:IntKind)(a b:Int):bN .add (.int k a) (.int k b)=some (.int k (k.wrap (a+b))):=by simp[bN]
theorem Hd(k:IntKind)(a b:Int):bN .sub (.int k a) (.int k b)=some (.int k (k.wrap (a-b))):=by simp[bN]
theorem G5(k:IntKind)(a b:Int):bN .mul (.int k a) (.int k b)=some (.int k (k.wrap (a*b))):=by simp[bN]
theorem G9(k:IntKind)(a b:Int):bN .quo (.int k a) (.int k b)=if b=0 then none else some (.int k (k.wrap (a.tdiv b))):=by simp[bN]
theorem Ha(k:IntKind)(a b:Int):bN .rem (.int k a) (.int k b)=if b=0 then none else some (.int k (a.tmod b)):=by simp[bN]
theorem GY(k:IntKind)(a b:Int):bN .and (.int k a) (.int k b)=some (.int k (k.wrap ((BitVec.ofInt k.bits a &&& BitVec.ofInt k.bits b).toNat:Int))):=by simp[bN]
theorem G8(k:IntKind)(a b:Int):bN .or (.int k a) (.int k b)=some (.int k (k.wrap ((BitVec.ofInt k.bits a ||| BitVec.ofInt k.bits b).toNat:Int))):=by simp[bN]
theorem He(k:IntKind)(a b:Int):bN .xor (.int k a) (.int k b)=some (.int k (k.wrap ((BitVec.ofInt k.bits a ^^^ BitVec.ofInt k.bits b).toNat:Int))):=by simp[bN]
theorem GZ(k:IntKind)(a b:Int):bN .andNot (.int k a) (.int k b)=some (.int k (k.wrap ((BitVec.ofInt k.bits a &&& ~~~ BitVec.ofInt k.bits b).toNat:Int))):=by simp[bN]
theorem Hb(k k':IntKind)(a b:Int):bN .shl (.int k a) (.int k' b)=if 0≤b then some (.int k (k.wrap (a*2^(min b.toNat k.bits)))) else none:=by simp[bN]
theorem Hc(k k':IntKind)(a b:Int):bN .shr (.int k a) (.int k' b)=if 0≤b then some (.int k (a.fdiv (2^(min b.toNat k.bits)))) else none:=by simp[bN]
theorem G0(k:IntKind)(a b:Int):bN .eql (.int k a) (.int k b)=some (.bool (a==b)):=by simp[bN]
theorem G6(k:IntKind)(a b:Int):bN .neq (.int k a) (.int k b)=some (.bool (a != b)):=by simp[bN]
theorem G4(k:IntKind)(a b:Int):bN .lss (.int k a) (.int k b)=some (.bool (decide (a<b))):=by simp[bN]
theorem G3(k:IntKind)(a b:Int):bN .leq (.int k a) (.int k b)=some (.bool (decide (a≤b))):=by simp[bN]
theorem G2(k:IntKind)(a b:Int):bN .gtr (.int k a) (.int k b)=some (.bool (decide (b<a))):=by simp[bN]
theorem G1(k:IntKind)(a b:Int):bN .geq (.int k a) (.int k b)=some (.bool (decide (b≤a))):=by simp[bN]
theorem xG :
  (∀ ts os d v,(aq ts os).put d v=aq ((d,v)::ts) os)∧(∀ ts os d v,(aq ts os).aP (some d) v=aq ((d,v)::ts) os)∧(∀ (A:ab) v,A.aP none v=A) ∧
  (∀ ts os d x,(aq ts os).aS d x=aq ts ((d,x)::os))∧(∀ ts os k,(aq ts os).t k=bP ts k)∧(∀ ts os k,(aq ts os).o k=aE os k) ∧
  (∀ j v r k,bP ((j,v)::r) k=if k=j then v else bP r k)∧(∀ j v r k,aE ((j,v)::r) k=if k=j then some v else aE r k)∧(∀ k,aE [] k=none) ∧
  (∀ A k,af A (.t k)=A.t k)∧(∀ A x,af A (.c x)=x)∧(∀ d rest A v,cE d rest A v=av rest (A.aP d v))∧(∀ v k,cm (some v) k=k v)∧(∀ A,av [] A=.done A) :=
 ⟨B1,B3,WO,vy,WQ,WN,bH,cw,WD,Mt,Ms,Wd,Hf,Gv⟩
theorem Cu :
  (∀ d rest A op,av (⟨d,op,none⟩::rest) A=bq A d op rest)∧(∀ d rest A op t b,av (⟨d,op,some (t,b)⟩::rest) A=fZ (A.t t) b d op rest A) ∧
  (∀ d rest A op,fZ (.bool true) true d op rest A=bq A d op rest)∧(∀ d rest A op,fZ (.bool false) false d op rest A=bq A d op rest) ∧
  (∀ d rest A op,fZ (.bool true) false d op rest A=av rest (A.aP d .undef))∧(∀ d rest A op,fZ (.bool false) true d op rest A=av rest (A.aP d .undef))∧(∀ d rest A op b,fZ .undef b d op rest A=av rest (A.aP d .undef)) ∧
  (∀ d rest A x,bq A d (.mv x) rest=av rest (A.aP d (af A x)))∧(∀ d rest A c a b,bq A d (.pick c a b) rest=qc A d a b rest (af A c)) ∧
  (∀ A d a b rest,qc A d a b rest (.bool true)=av rest (A.aP d (af A a)))∧(∀ A d a b rest,qc A d a b rest (.bool false)=av rest (A.aP d (af A b))) ∧
  (∀ d rest A op x y,bq A d (.bin op x y) rest=cm (bN op (af A x) (af A y)) (cE d rest A)) ∧
  (∀ d rest A ty neg x y,bq A d (.eqv ty neg x y) rest=cm ((b7 ty (af A x) (af A y)).map fun b=>.bool (if neg then !b else b)) (cE d rest A)) ∧
  (∀ d rest A op x,bq A d (.un op x) rest=cm (qA op (af A x)) (cE d rest A))∧(∀ b,qA .not (.bool b)=some (.bool !b))∧(∀ k n,qA .neg (.int k n)=some (.int k (k.wrap (0-n))))∧(∀ k n,qA .xor (.int k n)=some (.int k (nQ k n))) ∧
  (∀ d rest A k x,bq A d (.conv k x) rest=cm (uv k (af A x)) (cE d rest A))∧(∀ k k' n,uv k (.int k' n)=some (.int k (k.wrap n))) ∧
  (∀ d rest A s x,bq A d (.ld s x) rest=cm (fH s (fE A (af A x))) (cE d rest A))∧(∀ d rest A f off x,bq A d (.fa f off x) rest=cm (lP A f off (af A x)) (cE d rest A)) ∧
  (∀ d rest A f off s x,bq A d (.fl f off s x) rest=cm (rD f off s (af A x).dc) (cE d rest A))∧(∀ d rest A n esz x i,bq A d (.ia n esz x i) rest=cm (pG A n esz (af A x) (af A i)) (cE d rest A)) ∧
  (∀ d rest A esz x i,bq A d (.is esz x i) rest=cm (pL A esz (af A x) (af A i)) (cE d rest A))∧(∀ d rest A n esz s x i,bq A d (.ix n esz s x i) rest=cm (pO n esz s (af A x) (af A i)) (cE d rest A)) ∧
  (∀ d rest A x,bq A d (.len x) rest=cm (jP A (af A x)) (cE d rest A))∧(∀ d rest A n esz x,bq A d (.va n esz x) rest=cm (nz A n esz (af A x)) (cE d rest A)) ∧
  (∀ d rest A zs ps,bq A d (.bld zs ps) rest=cm ((fJ zs (ps.map fun p=>(p.1,af A p.2))).map .agg) (cE d rest A))∧(∀ d rest A x i,bq A d (.ext x i) rest=cm (uL i (af A x)) (cE d rest A))∧(∀ i fs,uL i (.tuple fs)=fs[i]?) ∧
  (∀ d rest A f caps,bq A d (.mk f caps) rest=cm (if ((caps.map (af A)).all fun y=>y.cD)=true then some (.func f (caps.map (af A))) else none) (cE d rest A)) ∧
  (∀ rest A d z,bq A (some d) (.alloc z) rest=tU A d z rest (A.o d))∧(∀ A d z rest,tU A d z rest none=av rest ((A.aS d (.box z)).put d (.ptr d []))) ∧
  (∀ rest A d x,bq A (some d) (.box x) rest=qZ A d (af A x) rest (A.o d))∧(∀ A d z rest,qZ A d z rest none=re A d z rest z.cD)∧(∀ A d z rest,re A d z rest true=av rest ((A.aS d (.box z)).put d (.ptr d []))) ∧
  (∀ rest A s x v,bq A none (.aT s x v) rest=tl A s (af A v) rest (af A x))∧(∀ A s v rest n p,tl A s v rest (.ptr n p)=tm A s n p v rest (A.o n))∧(∀ A s n p v rest b,tm A s n p v rest (some (.box b))=eO A s n p b v rest (b.at p)) ∧
  (∀ d rest A f args,bq A d (.call f args) rest=.call f (args.map (af A)) (bL true A (args.map (af A))) (bL false A (args.map (af A))) d rest A) ∧
  (∀ d rest A x args,bq A d (.fj x args) rest=po A d (args.map (af A)) rest (af A x))∧(∀ A d args rest f caps,po A d args rest (.func f caps)=if f<1000000 then .call f (args++caps) (bL true A (args++caps)) (bL false A (args++caps)) d rest A else .call (kg f) (caps++args) (bL true A (caps++args)) (bL false A (caps++args)) d rest A) :=
 ⟨Gj,Gk,U7,U4,U6,U5,U8,Xx,XB,fun _ _ _ _ _=>rfl,fun _ _ _ _ _=>rfl,W8,Xi,XG,fun _=>rfl,fun _ _=>rfl,fun _ _=>rfl,Xg,fun _ _ _=>rfl,Xp,Xk,Xl,Xm,Xn,Xo,Xq,XH,W9,Xj,fun _ _=>rfl,Xt,
  W5,fun _ _ _ _=>rfl,Xa,fun _ _ _ _=>rfl,fun _ _ _ _=>rfl,XF,fun _ _ _ _ _ _=>rfl,fun _ _ _ _ _ _ _=>rfl,Xc,Xd,fun A d args rest f caps=>by
   simp only[po];split
   ·rename_i h;rw[uO h,uN h]
   ·rename_i h;simp only[gL,if_neg h]⟩
theorem fK{A:ab}{s:Option Nat}{n:Nat}{p:List Nat}{b v old:I}{rest:List az}(h1:v.cD=true)(h2:b8 s v=true)(h3:v.aK=old.aK):eO A s n p b v rest (some old)=av rest (A.aS n (.box (b.dy p v))):=by
 simp only[eO];rw[if_pos ⟨h1,h2,h3⟩]
theorem Ff :
  (∀ A x,fE A (.ref x)=some x)∧(∀ A n p,fE A (.ptr n p)=dH p (A.o n))∧(∀ p c,dH p (some (.box c))=c.at p)∧(∀ c:I,c.at []=some c)∧(∀ (c:I) i p,c.at (i::p)=kS i p c.dc) ∧
  (∀ i p fs,kS i p (some fs)=nJ p fs[i]?)∧(∀ p f,nJ p (some f)=f.at p)∧(∀ c v:I,c.dy [] v=v)∧(∀ (c:I) i p v,c.dy (i::p) v=oM c i p v c.dc)∧(∀ c i p v fs,oM c i p v (some fs)=qt fs i p v fs[i]?) ∧
  (∀ fs i p v f,qt fs i p v (some f)=.agg (fs.set i (f.dy p v)))∧(∀ fs,(I.agg fs).dc=some fs)∧(∀ x:I,eB (some x)=x.dc) ∧
  (∀ s x,fH s (some x)=if b8 s x=true then some x else none) ∧
  (∀ A f off c,lP A f off (.ref c)=rz f off c.dc)∧(∀ A f off n p,lP A f off (.ptr n p)=pA n p f off (eB (dH p (A.o n))))∧(∀ f off fs,rz f off (some fs)=pz fs f off fs[f]?)∧(∀ fs f off v,pz fs f off (some v)=fR fs f off (.ref v)) ∧
  (∀ n p f off fs,pA n p f off (some fs)=fR fs f off (.ptr n (p++[f])))∧(∀ A n esz x kk k,pG A n esz x (.int kk k)=mF A n esz k x)∧(∀ A n esz k c,mF A n esz k (.ref c)=iz k n (oc n esz k c.dc)) ∧
  (∀ A n esz k m p,mF A n esz k (.ptr m p)=iz k n (pH n esz m p k (eB (dH p (A.o m)))))∧(∀ n esz k fs,oc n esz k (some fs)=iU n esz fs ((fs[k.toNat]?).map .ref))∧(∀ n esz m p k fs,pH n esz m p k (some fs)=iU n esz fs (some (.ptr m (p++[k.toNat])))) ∧
  (∀ A esz x kk k,pL A esz x (.int kk k)=jm A esz k x)∧(∀ n esz s x kk k,pO n esz s x (.int kk k)=mI n esz s k x.dc)∧(∀ n esz s k fs,mI n esz s k (some fs)=iz k n (iU n esz fs (fH s fs[k.toNat]?))) ∧
  (∀ A n esz m p,nz A n esz (.ptr m p)=qC n esz m p (eB (dH p (A.o m))))∧(∀ n esz m p fs,qC n esz m p (some fs)=qB n esz fs (.view m p esz 0 n)) ∧
  (∀ A sz es,jP A (.slice sz es)=some (.int .i64 es.length))∧(∀ A n,jP A (.nils n)=some (.int .i64 0))∧(∀ A n,jP A (.c0 n)=some (.int .i64 0)) :=
 ⟨fun _ _=>rfl,fun _ _ _=>rfl,fun _ _=>rfl,pf,GN,fun _ _ _=>rfl,fun _ _=>rfl,fI,wC,fun _ _ _ _ _=>rfl,fun _ _ _ _ _=>rfl,fun _=>rfl,fun _=>rfl,fun _ _=>rfl,fun _ _ _ _=>rfl,fun _ _ _ _ _=>rfl,fun _ _ _=>rfl,fun _ _ _ _=>rfl,
  fun _ _ _ _ _=>rfl,fun _ _ _ _ _ _=>rfl,fun _ _ _ _ _=>rfl,fun _ _ _ _ _ _=>rfl,fun _ _ _ _=>rfl,fun _ _ _ _ _ _=>rfl,fun _ _ _ _ _=>rfl,fun _ _ _ _ _ _=>rfl,fun _ _ _ _ _=>rfl,fun _ _ _ _ _=>rfl,fun _ _ _ _ _=>rfl,fun _ _ _=>rfl,fun _ _=>rfl,fun _ _=>rfl⟩
theorem Aq :
  (∀ A n p,bd true A (.ptr n p)=mD true A (dH p (A.o n)))∧(∀ A x,mD true A (some x)=if x.bz=true then some (.ref x) else (fY A 9 x).map .ref)∧(∀ A n p sz lo k,bd true A (.view n p sz lo k)=jk sz lo k (eB (dH p (A.o n)))) ∧
  (∀ A n p,bd false A (.ptr n p)=none)∧(∀ A n p sz lo k,bd false A (.view n p sz lo k)=none)∧(∀ x,kZ none x=none)∧(∀ x,kZ x none=none) ∧
  (∀ aI A n k,bd aI A (.own n k)=lf k (A.o n))∧(∀ aI A fs,bd aI A (.agg fs)=(bL aI A fs).map .agg)∧(∀ aI A f fs,bd aI A (.func f fs)=if f<1000000 then (bL aI A fs).map (.func f) else some .any)∧(∀ aI A k n,bd aI A (.int k n)=some (.int k n))∧(∀ aI A b,bd aI A (.bool b)=some (.bool b)) ∧
  (∀ aI A s,bd aI A (.ak s)=some (.ak s))∧(∀ aI A n,bd aI A (.nils n)=some (.slice n []))∧(∀ aI A n es,bd aI A (.slice n es)=if I.cq es=true then some (.slice n es) else none)∧(∀ aI A x,bd aI A (.ref x)=if x.bz=true then some (.ref x) else none) ∧
  (∀ aI A,bL aI A []=some [])∧(∀ aI A x xs,bL aI A (x::xs)=kZ (bd aI A x) (bL aI A xs))∧(∀ x xs,kZ (some x) (some xs)=some (x::xs)) ∧
  (∀ fs,(I.agg fs).bz=I.cq fs)∧(∀ n fs,(I.slice n fs).bz=I.cq fs)∧(∀ x,(I.ref x).bz=x.bz)∧(∀ k n,(I.int k n).bz=true)∧(∀ n,(I.bool n).bz=true)∧(∀ n,(I.ak n).bz=true)∧(∀ f fs,(I.func f fs).bz=I.cq fs) ∧
  I.cq []=true∧(∀ x xs,I.cq (x::xs)=(x.bz&&I.cq xs)) ∧
  (∀ rs r A,iX rs r .ret A=nf r (er A rs))∧(∀ rs r A,iX rs r .normal A=nf r (er A rs))∧(∀ r xs,nf r (some xs)=(jV xs=r))∧(∀ A,er A []=some [])∧(∀ A t rs,er A (.tmp t::rs)=kZ (bd true A (A.t t)) (er A rs)) ∧
  (∀ A a s rs,er A (.cell a s::rs)=kZ (qi s A (fE A (A.t a))) (er A rs))∧(∀ s A x,qi s A (some x)=if b8 s x=true then bd true A x else none)∧(∀ x,jV [x]=x)∧(∀ x y xs,jV (x::y::xs)=.tuple (x::y::xs)) :=
 ⟨rB,fun _ _=>rfl,uT,fun _ _ _=>rfl,fun _ _ _ _ _ _=>rfl,fun _=>rfl,fun x=>by cases x <;>rfl,MN,MG,MI,MJ,MH,MQ,ML,MP,MO,MU,MT,fun _ _=>rfl,JU,JZ,JY,JX,JV,J0,JW,J2,J1,
  YQ,YP,fun _ _=>rfl,YH,YI,YG,fun _ _ _=>rfl,fun _=>rfl,fun _ _ _=>rfl⟩
theorem xZ :
  (∀ k a b,bN .add (.int k a) (.int k b)=some (.int k (k.wrap (a+b))))∧(∀ k a b,bN .sub (.int k a) (.int k b)=some (.int k (k.wrap (a-b))))∧(∀ k a b,bN .mul (.int k a) (.int k b)=some (.int k (k.wrap (a*b)))) ∧
  (∀ k a b,bN .quo (.int k a) (.int k b)=if b=0 then none else some (.int k (k.wrap (a.tdiv b))))∧(∀ k a b,bN .rem (.int k a) (.int k b)=if b=0 then none else some (.int k (a.tmod b))) ∧
  (∀ k a b,bN .and (.int k a) (.int k b)=some (.int k (k.wrap ((BitVec.ofInt k.bits a &&& BitVec.ofInt k.bits b).toNat:Int))))∧(∀ k a b,bN .or (.int k a) (.int k b)=some (.int k (k.wrap ((BitVec.ofInt k.bits a ||| BitVec.ofInt k.bits b).toNat:Int)))) ∧
  (∀ k a b,bN .xor (.int k a) (.int k b)=some (.int k (k.wrap ((BitVec.ofInt k.bits a ^^^ BitVec.ofInt k.bits b).toNat:Int))))∧(∀ k a b,bN .andNot (.int k a) (.int k b)=some (.int k (k.wrap ((BitVec.ofInt k.bits a &&& ~~~ BitVec.ofInt k.bits b).toNat:Int)))) ∧
  (∀ k k' a b,bN .shl (.int k a) (.int k' b)=if 0≤b then some (.int k (k.wrap (a*2^(min b.toNat k.bits)))) else none)∧(∀ k k' a b,bN .shr (.int k a) (.int k' b)=if 0≤b then some (.int k (a.fdiv (2^(min b.toNat k.bits)))) else none) ∧
  (∀ k a b,bN .eql (.int k a) (.int k b)=some (.bool (a==b)))∧(∀ k a b,bN .neq (.int k a) (.int k b)=some (.bool (a != b)))∧(∀ k a b,bN .lss (.int k a) (.int k b)=some (.bool (decide (a<b))))∧(∀ k a b,bN .leq (.int k a) (.int k b)=some (.bool (decide (a≤b)))) ∧
  (∀ k a b,bN .gtr (.int k a) (.int k b)=some (.bool (decide (b<a))))∧(∀ k a b,bN .geq (.int k a) (.int k b)=some (.bool (decide (b≤a)))) :=
 ⟨GX,Hd,G5,G9,Ha,GY,G8,He,GZ,Hb,Hc,G0,G6,G4,G3,G2,G1⟩
end Go.Abs
namespace Go.Abs
open Go Go.RowKit
open Enc (enc)
section
variable {α:Type} [Enc α]
theorem Wv(A:ab)(l:List α):jP A (enc l)=some (.int .i64 l.length):=by simp[gI,jP]
theorem VV{A:ab}(esz:Nat){k:Int}{l:List α}(h:0≤k∧k.toNat<l.length)(hs:Enc.sz α=esz):jm A esz k (enc l)=some (.ref (enc l[k.toNat])):=by
 simp only[gI,jm,hs,Z2,true_and];rw[if_pos ⟨h.1,by omega⟩];simp[h.2]
theorem ec{A:ab}(esz:Nat){k:Nat}{l:List α}(h:k<l.length)(hs:Enc.sz α=esz):jm A esz k (enc l)=some (.ref (enc l[k])):=by
 have:=VV (A:=A) esz (k:=(k:Int)) (l:=l) ⟨by omega,by simpa using h⟩ hs;simpa using this
theorem eG.lt{α:Type}{n:Nat}(x:eG n α){k:Nat}(h:k<n):k<x.l.length:=by rw[x.h];exact h
theorem ZU{n:Nat}(esz:Nat){k:Int}{x:eG n α}(h:0≤k∧k.toNat<n)(hs:Enc.sz α=esz):iz k n (oc n esz k (some (x.l.map enc)))=some (.ref (enc (x.l[k.toNat]'(x.lt h.2)))):=by
 have hl:=x.lt h.2;simp only[iz,oc,iU,uJ n esz x.l x.h hs,if_true];rw[if_pos ⟨h.1,by omega⟩];simp[hl]
theorem rU{n:Nat}(esz:Nat){k:Int}(x:eG n α){y:Option I}(h:0≤k∧k<n)(hs:Enc.sz α=esz):iz k n (iU n esz (x.l.map enc) y)=y:=by
 simp only[iz,iU,uJ n esz x.l x.h hs,if_true];rw[if_pos h]
theorem Va{n k:Nat}(x:eG n α)(h:k<n):(x.l.map enc)[k]?=some (enc (x.l[k]'(x.lt h))):=by
 simp[x.lt h]
theorem V5{n:Nat}(esz:Nat){s:Option Nat}{k:Int}{x:eG n α}(h:0≤k∧k.toNat<n)(hs:Enc.sz α=esz):mI n esz s k (some (x.l.map enc))=fH s (some (enc (x.l[k.toNat]'(x.lt h.2)))):=by
 have hl:=x.lt h.2;simp only[mI,iz,iU,uJ n esz x.l x.h hs,if_true];rw[if_pos ⟨h.1,by omega⟩];simp[hl]
theorem GM{n k:Nat}{p:List Nat}{x:eG n α}(h:k<n):kS k p (some (x.l.map enc))=(enc (x.l[k]'(x.lt h))).at p:=by
 have hl:=x.lt h;simp[kS,nJ,hl]
theorem XQ(k:IntKind)(n:Int):fH none (some (.int k n))=some (.int k n):=by simp[fH,lX,b8,I.isAgg]
theorem XO(b:Bool):fH none (some (.bool b))=some (.bool b):=by simp[fH,lX,b8,I.isAgg]
theorem XR(z:Nat)(es:List I):fH none (some (.slice z es))=some (.slice z es):=by simp[fH,lX,b8,I.isAgg]
theorem XP(f:FuncId)(es:List I):fH none (some (.func f es))=some (.func f es):=by simp[fH,lX,b8,I.isAgg]
end
mutual
/-- What every value in memory keeps to: whole numbers within their kind,slices no longer than a slice can be. -/
def I.wf:I→Prop
 | .agg fs=>I.gD fs
 | .int k n=>k.min≤n∧n≤k.max
 | .ak s=>s.size≤maxLen
 | .slice _ es=>es.length≤maxLen∧I.gD es
 | .ref c=>c.wf
 | .func _ caps=>I.gD caps
 | .iface _ v=>v.wf
 |_=>True
def I.gD:List I→Prop
 | []=>True
 |x::xs=>x.wf∧I.gD xs
end
mutual
theorem sT{w:World}{D:aJ}{E:aN} : ∀ (x:I) (cs:List Value),ae w D E x cs→x.wf
 | .agg fs,cs,h=>by simp only[ae,I.wf] at *;exact wa fs cs h
 | .int k n,cs,h=>by simp only[ae,I.wf] at *;exact h.2
 | .ak s,cs,h=>by simp only[ae,I.wf] at *;exact h.2
 | .slice sz es,cs,h=>by
  simp only[ae,I.wf] at *;obtain ⟨a,cap,_,h1,h2,h3,_⟩:=h;refine ⟨by omega,?_⟩;rcases h3 with rfl | ⟨b,off,cs',_,_,h4⟩
  ·simp[I.gD]
  ·exact wa es cs' h4
 | .ref c,cs,h=>by simp only[ae,I.wf] at *;obtain ⟨b,off,cs',_,_,h⟩:=h;exact sT c cs' h
 | .func f caps,cs,h=>by simp only[ae,I.wf] at *;obtain ⟨vs,_,h⟩:=h;exact oJ caps vs h
 | .iface t v,cs,h=>by simp only[ae,I.wf] at *;obtain ⟨u,cs',_,_,h⟩:=h;exact sT v cs' h
 | .bool _,_,_ | .nilp,_,_ | .c8,_,_ | .cQ,_,_ | .any,_,_ | .raw _,_,_ | .nils _,_,_ | .c0 _,_,_ | .ptr _ _,_,_ | .own _ _,_,_ | .view _ _ _ _ _,_,_ | .mref _,_,_ | .cU _,_,_ | .cY _ _,_,_ | .undef,_,_ | .cV,_,_ | .tuple _,_,_=>by simp[I.wf]
theorem wa{w:World}{D:aJ}{E:aN} : ∀ (xs:List I) (cs:List Value),aH w D E xs cs→I.gD xs
 | [],_,_=>by simp[I.gD]
 |x::xs,cs,h=>by
  simp only[aH,I.gD] at *;obtain ⟨c1,c2,_,h1,h2⟩:=h;exact ⟨sT x c1 h1,wa xs c2 h2⟩
theorem oJ{w:World}{D:aJ}{E:aN} : ∀ (xs:List I) (vs:List Value),ar w D E xs vs→I.gD xs
 | [],_,_=>by simp[I.gD]
 |x::xs,vs,h=>by
  simp only[ar,I.gD] at *;obtain ⟨v,rest,cs,_,_,h1,h2⟩:=h;exact ⟨sT x cs h1,oJ xs rest h2⟩
end
theorem aQ.wf{P:Program}{f:FuncId}{args:List I}{r:I}(hc:dR P f=true)(h:I.gD args→aQ P f args r):aQ P f args r :=
 ⟨hc,fun w D vs hl h1 h2=>(h (oJ _ _ h2)).2 w D vs hl h1 h2⟩
theorem aQ.bO{P:Program}{f:FuncId}{fn:Func}{x:bj}{rs:List bt}{args:List I}{r:I}(hf:P.funcs[f]?=some fn)(hcall:dR P f=true)(hc:(fn.body.bind (dQ P fn.ntmps))=some x)
  (hrs:fV P fn.results.toList=some rs) (hn:args.length≤fn.ntmps) (h:I.gD args→∀ (w:World) (D:aJ) (E:aN),U ⟨P,w,D,fn.ntmps,bY E,E,fp,none,none⟩ x (iX rs r) (aq (bD 0 args) [])):aQ P f args r :=
 aQ.wf hcall fun hw=>aQ.mk hf hcall hc hrs hn (h hw)
theorem jb{α:Type}[Enc α] :
  (∀ A (l:List α),jP A (enc l)=some (.int .i64 l.length))∧(∀ n (x:eG n α),(enc x).dc=some (x.l.map enc)) :=
 ⟨Wv,fun _ _=>rfl⟩
theorem jT:(∀ k n,fH none (some (.int k n))=some (.int k n))∧(∀ b,fH none (some (.bool b))=some (.bool b))∧(∀ z es,fH none (some (.slice z es))=some (.slice z es))∧(∀ f es,fH none (some (.func f es))=some (.func f es)) :=
 ⟨XQ,XO,XR,XP⟩
end Go.Abs
namespace Go.Abs
open Go Go.RowKit
open Enc (enc)
def ot(neg:Bool):I→Option I
 | .nils _=>some (.bool (!neg))
 | .slice _ es=>if es.isEmpty then none else some (.bool neg)
 | .view _ _ _ _ _=>some (.bool neg)
 |_=>none
def lT:I→Option I
 | .ak s=>some (.int .i64 s.size)
 |_=>none
open Classical in
noncomputable def lG(n:Nat)(p:List Nat)(sz l0 k esz:Nat)(lo hi mx:Option I):Option (List I)→Option I
 |some fs=>if sz=esz then iJ n p sz l0 k fs.length lo hi mx else none
 |none=>none
noncomputable def gB(A:ab)(esz:Nat)(lo hi mx:Option I):I→Option I
 | .slice sz es=>if sz=esz then gV sz es lo hi mx else none
 | .nils sz=>if sz=esz then gV sz [] lo hi mx else none
 | .c0 sz=>if sz=esz then gV sz [] lo hi mx else none
 | .view n p sz l0 k=>lG n p sz l0 k esz lo hi mx (eB (dH p (A.o n)))
 |_=>none
open Classical in
noncomputable def gr(esz:Nat):Option (List I)→Option I
 |some es=>if (es.all fun e=>e.size==esz)=true∧I.cq es=true then some (.slice esz es) else none
 |none=>none
open Classical in
noncomputable def pb(A:ab)(d:Option Nat)(e esz bytes n l T sz':Nat)(es:List I)(rest:List az):I→b9
 | .slice sz ys=>if vI e esz bytes l sz ys T sz' es then av rest ((A.aS n (.bQ e esz (es++ys))).aP d (.own n (es.length+ys.length))) else .fail
 |_=>.fail
open Classical in
noncomputable def tV(A:ab)(d:Option Nat)(e esz bytes:Nat)(z:I)(n l T:Nat)(xs:List Int)(rest:List az):I→b9
 | .slice _ ys=>if vJ e esz bytes l ys T xs z then av rest ((A.aS n (.dL e (xs++pJ ys))).aP d (.own n (xs.length+ys.length))) else .fail
 |_=>.fail
noncomputable def o9(A:ab)(d:Option Nat)(e esz bytes:Nat)(z:I)(n l:Nat)(x:I)(rest:List az):Option ai→b9
 |some (.bQ T sz' es)=>pb A d e esz bytes n l T sz' es rest x
 |some (.dL T xs)=>tV A d e esz bytes z n l T xs rest x
 |_=>.fail
noncomputable def eU(A:ab)(d:Option Nat)(e esz bytes:Nat)(z x:I)(rest:List az):I→b9
 | .own n l=>o9 A d e esz bytes z n l x rest (A.o n)
 |s=>dZ A d esz bytes z s (cT A esz s) (cT A esz x) (av rest)
section
variable (d:Option Nat) (rest:List az) (A:ab)
noncomputable def ou(neg:Bool)(x:I):Bool→b9
 |true=>.any (fun m=>m<2) (fun m=>av rest (A.aP d (.bool (m==0))))
 |false=>cm (ot neg x) (cE d rest A)
theorem Xz(neg:Bool)(x:aF):bq A d (.nilS neg x) rest=ou d rest A neg (af A x) (ja (af A x)):=by
 simp only[bq,aW,aV];cases ja (af A x)
 ·simp only[Z4,if_false,ou,ot];cases af A x <;>rfl
 ·rfl
theorem Xr(x:aF):bq A d (.lenT x) rest=cm (lT (af A x)) (cE d rest A):=by
 simp only[bq,aW,aV];cases af A x <;>rfl
theorem XE(esz:Nat)(x:aF)(lo hi mx:Option aF):bq A d (.sl esz x lo hi mx) rest=cm (gB A esz (lo.map (af A)) (hi.map (af A)) (mx.map (af A)) (af A x)) (cE d rest A):=by
 simp only[bq,aW,aV];cases af A x <;>try rfl
 rename_i n p sz l0 k;simp only[gB,jF,fE];cases dH p (A.o n) with
 |none=>rfl
 |some c=>cases c <;>simp only[eB,I.dc,lG] <;>(first | rfl | (split <;>rfl))
theorem Xb(T esz:Nat)(ps:List aF):bq A d (.bs T esz ps) rest=cm (gr esz (bL false A (ps.map (af A)))) (cE d rest A):=by
 simp only[bq,aW,aV];cases bL false A (ps.map (af A)) <;>simp only[gr] <;>rfl
theorem W6(e esz bytes:Nat)(z:I)(s x:aF):bq A d (.dv e esz bytes z s x) rest=eU A d e esz bytes z (af A x) rest (af A s):=by
 simp only[bq,aW];generalize af A s=s';generalize af A x=x';cases s' <;>simp only[eU]
 rename_i n l;cases x' <;>simp only <;>generalize A.o n=z <;>(cases z with
  |none=>rfl
  |some y=>cases y <;>simp only[o9,pb,tV])
end
theorem Cv :
  (∀ d rest A neg x,bq A d (.nilS neg x) rest=ou d rest A neg (af A x) (ja (af A x)))∧(∀ d rest A neg x,ou d rest A neg x false=cm (ot neg x) (cE d rest A))∧(∀ z,ja (.nils z)=false)∧(∀ n p sz lo k,ja (.view n p sz lo k)=false)∧(∀ d rest A x,bq A d (.lenT x) rest=cm (lT (af A x)) (cE d rest A)) ∧
  (∀ d rest A esz x lo hi mx,bq A d (.sl esz x lo hi mx) rest=cm (gB A esz (lo.map (af A)) (hi.map (af A)) (mx.map (af A)) (af A x)) (cE d rest A)) ∧
  (∀ d rest A T esz ps,bq A d (.bs T esz ps) rest=cm (gr esz (bL false A (ps.map (af A)))) (cE d rest A))∧(∀ d rest A e esz bytes z s x,bq A d (.dv e esz bytes z s x) rest=eU A d e esz bytes z (af A x) rest (af A s)) ∧
  (∀ A d e esz bytes z x rest n l,eU A d e esz bytes z x rest (.own n l)=o9 A d e esz bytes z n l x rest (A.o n))∧(∀ A d e esz bytes z n l x rest T sz es,o9 A d e esz bytes z n l x rest (some (.bQ T sz es))=pb A d e esz bytes n l T sz es rest x)∧(∀ A d e esz bytes z n l x rest T xs,o9 A d e esz bytes z n l x rest (some (.dL T xs))=tV A d e esz bytes z n l T xs rest x) ∧
  (∀ neg z,ot neg (.nils z)=some (.bool (!neg))) :=
 ⟨Xz,fun _ _ _ _ _=>rfl,fun _=>rfl,fun _ _ _ _ _=>rfl,Xr,XE,Xb,W6,fun _ _ _ _ _ _ _ _ _ _=>rfl,fun _ _ _ _ _ _ _ _ _ _ _ _ _=>rfl,fun _ _ _ _ _ _ _ _ _ _ _ _=>rfl,fun _ _=>rfl⟩
theorem oA(p:Nat→Bool)(xs ys:List I):I.bR p (xs++ys)=(I.bR p xs&&I.bR p ys):=by
 induction xs with
 |nil=>simp[I.bR]
 |cons x xs ih=>simp[I.bR,ih,Bool.and_assoc]
section
variable {α:Type} [Enc α]
theorem GC{A:ab}{d:Option Nat}(e:Nat)(esz bytes n:Nat){l:Nat}{es ys:List α}{rest:List az}(hl:l=es.length)(hs:Enc.sz α=esz)(hy:ys≠[])(h1:es.length+ys.length≤maxLen)(h2:(es.length+ys.length)*bytes≤140737488355328) :
  pb A d e esz bytes n l e esz (es.map enc) rest (enc ys)=av rest ((A.aS n (.bQ e esz ((es++ys).map enc))).aP d (.own n (es++ys).length)):=by
 simp only[gI,pb];rw[if_pos ⟨by simpa using hl,hs,rfl,rfl,by simpa using hy,by simpa using h1,by simpa using h2⟩];simp
theorem yb(esz:Nat){ys:List α}(hs:Enc.sz α=esz):gr esz (some (ys.map enc))=some (enc ys):=by
 have h1:((ys.map enc).all fun e:I=>e.size==esz)=true:=by
  simp only[zy6,zy3];rintro x ⟨y,_,rfl⟩;simp[Enc.size,hs]
 simp only[gr,gI];rw[if_pos ⟨h1,pq ys⟩,hs]
theorem nM(esz:Nat)(y:α)(hs:Enc.sz α=esz):gr esz (some [enc y])=some (enc [y]):=yb (ys:=[y]) esz hs
theorem rA(sz:Nat){T k:Nat}{es:List α}(hk:k=es.length)(hs:Enc.sz α=sz):lf k (some (.bQ T sz (es.map enc)))=some (enc es):=by
 simp only[lf,Z2];rw[if_pos ⟨hk,pq es⟩,gI,hs]
theorem ku(p:Nat→Bool)(l:List α):I.bR p (l.map enc)=true:=by
 induction l with
 |nil=>rfl
 |cons x l ih=>simp only[Z3,I.bR,bp,ih,Bool.and_self]
end
theorem Bp :
  (∀ n:Int,gr 1 (some [.int .i64 n])=some (enc [n]))∧(∀ (T:Nat) (es:List Int),lf es.length (some (.bQ T 1 (es.map enc)))=some (enc es)) :=
 ⟨fun n=>nM 1 n rfl,fun _ _=>rA 1 rfl rfl⟩
def eG.g{n:Nat}(x:eG n Int)(k:Nat):Int:=x.l.getD k 0
theorem eG.u5{n k:Nat}(x:eG n Int)(h:k<n):x.l[k]'(x.lt h)=x.g k:=by simp[eG.g,x.lt h]
theorem j8{n k:Nat}{p:List Nat}(x:eG n Int)(h:k<n):kS k p (some (x.l.map enc))=(I.int .i64 (x.g k)).at p:=by
 rw[GM h,x.u5 h];rfl
theorem A8{n k:Nat}(x:eG n Int)(h:k<n):(x.l.map (enc (α:=Int)))[k]?=some (I.int .i64 (x.g k)):=by
 rw[Va x h,x.u5 h];rfl
theorem Cm:(∀ k n,b8 none (.int k n)=true)∧(∀ b,b8 none (.bool b)=true)∧(∀ z es,b8 none (.slice z es)=true)∧(∀ f es,b8 none (.func f es)=true)∧(∀ z,b8 none (.nils z)=true)∧(∀ n k,b8 none (.own n k)=true) :=
 ⟨fun _ _=>rfl,fun _=>rfl,fun _ _=>rfl,fun _ _=>rfl,fun _=>rfl,fun _ _=>rfl⟩
theorem aX:(type_of% @xG)∧(type_of% @Cu)∧(type_of% @Cv)∧(type_of% @Bp)∧(type_of% @Cm)∧(type_of% @Ff)∧(type_of% @Aq)∧(type_of% @xZ)∧(∀ n:Int,(enc n:I)=.int .i64 n)∧(∀ n:Bool,(enc n:I)=.bool n) ∧
  (∀ {α β:Type} (f:α→β) (x:α) (xs:List α),List.map f (x::xs)=f x::List.map f xs)∧(∀ {α β:Type} (f:α→β),List.map f []=[])∧(∀ {α:Type} (xs:List α),[]++xs=xs)∧(∀ n:Nat,(n:Int).toNat=n)∧(∀ {α β:Type} (f:α→β) (x:α),Option.map f (some x)=some (f x)) ∧
  (∀ n:Nat,0≤(n:Int))∧((!true)=false)∧((!false)=true)∧((false=true)=False)∧((true=false)=False) :=
 ⟨@xG,@Cu,@Cv,@Bp,@Cm,@Ff,@Aq,@xZ,uD,Mh,fun _ _ _=>rfl,fun _=>rfl,fun _=>rfl,fun _=>rfl,fun _ _=>rfl,fun n=>Int.natCast_nonneg n,rfl,rfl,by simp,by simp⟩
end Go.Abs
namespace Go.Abs
open Go Go.RowKit
open Enc (enc)
theorem jc.bO{P:Program}{f:FuncId}{fn:Func}{x:bj}{rs:List bt}{Y:Value→List I→List (Nat×ai)→cd→Prop}{args:List I}{os:List (Nat×ai)}{post:cd}(hf:P.funcs[f]?=some fn)(hcall:dR P f=true)(hc:(fn.body.bind (dQ P fn.ntmps))=some x)
  (hrs:fV P fn.results.toList=some rs) (hn:args.length≤fn.ntmps) (hn2:fn.ntmps≤1000000) (hos:∀ m,al os m=true→1000000≤m) (h:I.gD args→∀ (w:World) (D:aJ) (E:aN),U ⟨P,w,D,fn.ntmps,bY E,E,Y,none,none⟩ x (nd rs post) (aq (bD 0 args) os)):jc P f Y args os post:=by
 obtain ⟨body,hb,hc'⟩:=zx5.1 hc;refine ⟨hcall,fun w D E vs hy hD ho hv =>?_⟩;exact (jc.sC hf hb hcall hc' hrs hn (fun m hm=>⟨Nat.le_trans hn2 (hos m hm),hos m hm⟩) (fun w D E=>(h (oJ _ _ hv) w D E).sub (tn args os))).2 w D E vs hy hD ho hv
theorem eT.bO{P:Program}{f:FuncId}{fn:Func}{x:bj}{rs:List bt}{args:List I}{os:List (Nat×ai)}{post:cd}(hf:P.funcs[f]?=some fn)(hcall:dR P f=true)(hc:(fn.body.bind (dQ P fn.ntmps))=some x)
  (hrs:fV P fn.results.toList=some rs) (hn:args.length≤fn.ntmps) (hn2:fn.ntmps≤1000000) (hos:∀ m,al os m=true→1000000≤m) (h:I.gD args→∀ (w:World) (D:aJ) (E:aN),U ⟨P,w,D,fn.ntmps,bY E,E,fp,none,none⟩ x (nd rs post) (aq (bD 0 args) os)):eT P f args os post :=
 eT.Cc (jc.bO hf hcall hc hrs hn hn2 hos h)
theorem vb{A:ab} : ∀ n x,aE [] n=some x→A.o n=some x∧x.only (al [])=true∧x.ej=true:=fun n x h=>by simp[aE] at h
theorem oa{A:ab}{k:Nat}{c:I}(h1:A.o k=some (.box c))(h2:∀ p,c.only p=true):∀ n x,aE [(k,.box c)] n=some x→A.o n=some x∧x.only (al [(k,.box c)])=true∧x.ej=true:=fun n x h=>by
 simp only[aE] at h;split at h
 ·rename_i hn;subst hn;simp only[v6] at h;subst h;exact ⟨h1,h2 _,rfl⟩
 ·cases h
theorem df.nil{aI:Bool}{ρ:List (Nat×Nat)}{os0:List (Nat×ai)}{r:I}(h1:∀ p,r.only p=true)(h2:aI=true→r.cX=true):df aI ρ [] os0 r [] :=
 ⟨fun m x h=>by simp[aE] at h,fun m m' h=>by simp[al,aE] at h,fun m h=>by simp[al,aE] at h,fun m h=>by simp[al,aE] at h,h1 _,h2⟩
theorem fP{k:Nat}{x:ai}{m:Nat} : al [(k,x)] m=true↔m=k:=by
 simp only[al,aE];split <;>simp_all
theorem df.pZ{aI:Bool}{k d:Nat}{os0:List (Nat×ai)}{r c:I}(h1:∀ p,c.only p=true)(h2:aI=true→c.cX=true)(h3:r.only (al [(k,.box c)])=true)(h4:aI=true→r.cX=true)(h5:aE os0 d=none)(h6:d<1000000):df aI [(k,d)] [] os0 r [(k,.box c)]:=by
 refine ⟨fun m x h =>?_,fun m m' h h' _ =>?_,fun m h=>by simp[al,aE] at h,fun m h _ =>?_,h3,h4⟩
 ·simp only[aE] at h;split at h
  ·simp only[v6] at h;subst h;exact ⟨h1 _,rfl,h2⟩
  ·cases h
 ·rw[fP.1 h,fP.1 h']
 ·rw[fP.1 h];simp[bg,h5,h6]
theorem eP.nil{ρ:List (Nat×Nat)}{os0:List (Nat×ai)} : eP ρ [] os0:=⟨fun m x h=>by simp[aE] at h,fun m m' h=>by simp[al,aE] at h⟩
mutual
theorem qh(ρ:Nat→Nat):∀ x:I,x.bz=true→x.aO ρ=x
 | .agg fs,h=>by simp only[I.aO,I.bz] at *;rw[na ρ fs h]
 | .slice _ es,h=>by simp only[I.aO,I.bz] at *;rw[na ρ es h]
 | .ref x,h=>by simp only[I.aO,I.bz] at *;rw[qh ρ x h]
 | .func _ caps,h=>by simp only[I.aO,I.bz] at *;rw[na ρ caps h]
 | .iface _ v,h=>by simp only[I.aO,I.bz] at *;rw[qh ρ v h]
 | .bool _,_ | .int _ _,_ | .ak _,_ | .nilp,_ | .c8,_ | .cQ,_ | .any,_ | .raw _,_ | .nils _,_ | .c0 _,_=>by simp only[I.aO]
 | .cY ks vs,h=>by simp only[I.aO,I.bz,Z0] at *;rw[na ρ ks h.1,na ρ vs h.2]
 | .ptr _ _,h | .own _ _,h | .view _ _ _ _ _,h | .mref _,h | .cU _,h | .undef,h | .cV,h | .tuple _,h=>by simp[I.bz] at h
theorem na(ρ:Nat→Nat):∀ xs:List I,I.cq xs=true→I.cS ρ xs=xs
 | [],_=>rfl
 |x::xs,h=>by
  simp only[I.cq,Z0] at h;simp only[I.cS,qh ρ x h.1,na ρ xs h.2]
end
theorem kD :
  (∀ (k:IntKind) n (ρ:Nat→Nat),(I.int k n).aO ρ=.int k n)∧(∀ (b:Bool) (ρ:Nat→Nat),(I.bool b).aO ρ=.bool b)∧(∀ n p (ρ:Nat→Nat),(I.ptr n p).aO ρ=.ptr (ρ n) p) ∧
  (∀ n p sz lo k (ρ:Nat→Nat),(I.view n p sz lo k).aO ρ=.view (ρ n) p sz lo k)∧(∀ fs (ρ:Nat→Nat),(I.agg fs).aO ρ=.agg (I.cS ρ fs))∧(∀ fs (ρ:Nat→Nat),(I.tuple fs).aO ρ=.tuple (I.cS ρ fs))∧(∀ f fs (ρ:Nat→Nat),(I.func f fs).aO ρ=.func f (I.cS ρ fs)) ∧
  (∀ ρ:Nat→Nat,I.cS ρ []=[])∧(∀ (ρ:Nat→Nat) x xs,I.cS ρ (x::xs)=x.aO ρ::I.cS ρ xs)∧(∀ (ρ:Nat→Nat) (x:I),(ai.box x).aO ρ=.box (x.aO ρ)) ∧
  (∀ (z:Nat) (ρ:Nat→Nat),(I.nils z).aO ρ=.nils z)∧(∀ (z:Nat) (ρ:Nat→Nat),(I.c0 z).aO ρ=.c0 z) ∧
  (∀ n,bg [] n=n)∧(∀ a b r n,bg ((a,b)::r) n=if n=a then b else bg r n)∧(∀ ρ,cL ρ []=[])∧(∀ ρ k x os,cL ρ ((k,x)::os)=(bg ρ k,x.aO (bg ρ))::cL ρ os) :=
 ⟨fun _ _ _=>by simp only[I.aO],fun _ _=>by simp only[I.aO],fun _ _ _=>by simp only[I.aO],fun _ _ _ _ _ _=>by simp only[I.aO],fun _ _=>by simp only[I.aO],fun _ _=>by simp only[I.aO],fun _ _ _=>by simp only[I.aO],
  fun _=>rfl,fun _ _ _=>by simp only[I.cS],fun _ _=>rfl,fun _ _=>by simp only[I.aO],fun _ _=>by simp only[I.aO],fun _=>rfl,fun _ _ _ _=>rfl,fun _=>rfl,fun _ _ _ _=>rfl⟩
section
variable {α:Type} [Enc α]
theorem gJ(ρ:Nat→Nat)(x:α):(enc x).aO ρ=enc x:=qh ρ _ (jG x)
theorem jv(ρ:Nat→Nat)(l:List α):I.cS ρ (l.map enc)=l.map enc:=na ρ _ (pq l)
theorem kJ(A:ab)(esz:Nat)(l:List α)(hs:Enc.sz α=esz):cT A esz (enc l)=some (l.map enc):=by
 simp only[gI,cT,hs,if_true]
theorem tu(l:List α):ja (enc l)=l.isEmpty:=by
 simp only[gI,ja];cases l <;>rfl
theorem B6(neg:Bool)(l:List α)(h:l≠[]):ot neg (enc l)=some (.bool neg):=by
 simp only[gI,ot];cases l with
 |nil=>exact absurd rfl h
 |cons=>rfl
section
variable {P:Program} {Y:Value→List I→List (Nat×ai)→cd→Prop} {K:ab→Prop} {A:ab} {rest:List az} {d:Nat} {e esz bytes:Nat} {q:Nat}
theorem aZ.qX(z:α){l:List α}(hs:Enc.sz α=esz)(hl:l≠[])(hf:A.o d=none)(hb:l.length*bytes≤140737488355328)(hml:l.length≤maxLen)
  (h:∀ m,aZ P Y false K (av rest ((A.aS d (.box (.agg ((l++List.replicate m z).map enc)))).aP (some d) (.view d [] esz 0 l.length)))):aZ P Y false K (eU A (some d) e esz bytes (enc z) (enc l) rest (.c0 q)):=by
 have hne:l.map (enc (α:=α))≠[]:=by simpa using hl
 have h1:cT A esz (.c0 q)=some []:=rfl;simp only[eU,h1,kJ A esz l hs,dZ,if_neg hne,eZ,hf,zx1,Z5,Z2,if_pos (y6 hb hml),zz3];refine .any rfl fun m _ =>?_;have:=h m;simp only[zy7,List.map_replicate] at this;exact this
theorem xL(z:I)(hs:Enc.sz α=esz):eU A (some d) e esz bytes z (enc ([]:List α)) rest (.c0 q)=av rest (A.aP (some d) (.c0 q)):=by
 have h1:cT A esz (.c0 q)=some []:=rfl;simp only[eU,h1,kJ A esz ([]:List α) hs,dZ,zz6,if_true]
theorem Xf(esz:Nat)(z:I)(x:aF)(rest:List az)(A:ab):bq A none (.ji esz z x) rest=nO A esz z (av rest) (af A x):=rfl
theorem EK{n:Nat}{p:List Nat}{sz k total i:Nat}(h:i≤total)(h0:0<total):iJ n p sz 0 k total none (some (.int .i64 i)) none=some (.view n p sz 0 i):=by
 simp only[iJ,gq];rw[if_pos ⟨by omega,by omega,by omega⟩,if_neg (by omega)];simp
theorem mb{n:Nat}{p:List Nat}{sz k total i:Nat}(h:i≤k)(hk:k≤total)(h0:i<total):iJ n p sz 0 k total (some (.int .i64 i)) none none=some (.view n p sz i (k-i)):=by
 simp only[iJ,gq];rw[if_pos ⟨by omega,by omega,by omega⟩,if_neg (by omega)];simp
theorem VZ{m:Nat}{p:List Nat}{sz lo l j:Nat}{fs:List I}(h:j<l):mH m p sz lo l sz (j:Int) (some fs)=some (.ptr m (p++[lo+j])):=by
 simp only[mH,true_and];rw[if_pos ⟨by omega,by omega⟩];simp
theorem mE{sz k:Nat}{xs:List α}(hs:Enc.sz α=sz):jk sz 0 k (some (xs.map enc))=some (enc (xs.take k)):=by
 have h:((xs.map (enc (α:=α))).drop 0).take k=(xs.take k).map enc:=by rw[List.drop_zero,List.map_take]
 simp only[jk,h];rw[if_pos (pq _),gI,hs]
end
end
theorem ve(A:ab)(esz m:Nat)(p:List Nat)(sz lo l:Nat)(k:Int):jm A esz k (.view m p sz lo l)=mH m p sz lo l esz k (eB (dH p (A.o m))):=rfl
theorem pR(A:ab)(m:Nat)(p:List Nat)(sz lo l:Nat):jP A (.view m p sz lo l)=some (.int .i64 l):=rfl
theorem wI(A:ab)(esz:Nat)(lo hi mx:Option I)(n:Nat)(p:List Nat)(l0 k:Nat):gB A esz lo hi mx (.view n p esz l0 k)=lG n p esz l0 k esz lo hi mx (eB (dH p (A.o n))):=rfl
theorem wJ(n:Nat)(p:List Nat)(sz l0 k:Nat)(lo hi mx:Option I)(fs:List I):lG n p sz l0 k sz lo hi mx (some fs)=iJ n p sz l0 k fs.length lo hi mx:=by simp[lG]
theorem gC :
  (∀ A esz m p sz lo l k,jm A esz k (.view m p sz lo l)=mH m p sz lo l esz k (eB (dH p (A.o m))))∧(∀ A m p sz lo l,jP A (.view m p sz lo l)=some (.int .i64 l)) ∧
  (∀ A esz lo hi mx n p l0 k,gB A esz lo hi mx (.view n p esz l0 k)=lG n p esz l0 k esz lo hi mx (eB (dH p (A.o n))))∧(∀ n p sz l0 k lo hi mx fs,lG n p sz l0 k sz lo hi mx (some fs)=iJ n p sz l0 k fs.length lo hi mx) ∧
  (∀ esz z x rest A,bq A none (.ji esz z x) rest=nO A esz z (av rest) (af A x))∧(∀ rest A d esz,bq A d (.bs0 esz) rest=av rest (A.aP d (.c0 esz))) :=
 ⟨ve,pR,wI,wJ,Xf,fun _ _ _ _=>rfl⟩
theorem jY(rs:List bt)(post:cd)(A:ab):nd rs post .ret A=iN rs post A:=rfl
theorem YN(rs:List bt)(post:cd)(A:ab):nd rs post .normal A=iN rs post A:=rfl
theorem bl.jI{ts:List (Nat×I)}{os0:List (Nat×ai)}(ns:List Nat)(d:Nat){x y:I}(hd:bP ts d=x)(h:bd true (aq ts (jO ns os0)) x=some y)(ho:bA (fun n => !ns.contains n) (c7 ns os0)) :
  bl (aq ts os0) (aq ((d,y)::fO ns ts) (c7 ns os0)):=by
 rintro c a w ⟨D,E,hs⟩;obtain ⟨D1,E1,hs1,hw⟩:=hs.freeze ns ho;have hu:du (aq ts (jO ns os0)) (aq ts os0):=fun n z hz=>by
  simp only[aq,pV] at hz ⊢;split at hz
  ·exact hz
  ·cases hz
 have hx:x.cD=true:=by cases x <;>first | rfl | simp[bd] at h
 have hv:=hs.dF d;simp only[aq] at hv;rw[hd] at hv;have h1:ar w D E [x] [a.tmps.getD d undef]:=kI [x] _ (.cons hv .nil) (by intro z hz;simp only[zx4] at hz;subst hz;exact hx);have h2:=lg (E':=E1) hs hu hw [x] [y] _ h1 (by simp only[bL,h]);have h3:aR w D1 E1 y (a.tmps.getD d undef):=by
  simp only[ar] at h2;obtain ⟨v',rest,cs,e,k1,k2,_⟩:=h2;simp only[zz9] at e;obtain ⟨e1,_⟩:=e;rw[e1];exact fB k1 k2
 refine ⟨D1,E1,hs1.sz,hs1.eb,fun t =>?_,hs1.de,hs1.cK,hs1.cO,hs1.bB,hs1.cz,hs1.dw,hs1.eD,hs1.cA,hs1.eS,hs1.ft⟩;simp only[aq,bP];split
 ·rename_i ht;subst ht;exact h3
 ·exact hs1.dF t
theorem bl.jJ{ts ts':List (Nat×I)}{os0 os':List (Nat×ai)}(ns:List Nat)(d:Nat){x y:I}(hd:bP ts d=x)(h:bd true (aq ts (jO ns os0)) x=some y)(ho:bA (fun n => !ns.contains n) (c7 ns os0))
  (h1:bG ((d,y)::fO ns ts) ts') (h2:bJ (c7 ns os0) os') (h3:bF (al os') ts') (h4:bA (al os') os'):bl (aq ts os0) (aq ts' os') :=
 (bl.jI ns d hd h ho).trans (bl.b6 h1 h2 h3 h4)
theorem U.w7{c:cn}{Q:Exit→ab→Prop}{A:ab}{x:bj}(T:ab)(h1:U c x (cH (fun B=>bl B T) fun _ _=>False) A)(h2:∀ B,bl B T→Q .normal B):U c x Q A :=
 h1.mono fun e B hq=>by
  cases e <;>simp only[cH] at hq <;>first
   |exact h2 B hq
   |exact hq.elim
theorem Yq{w:World}{D:aJ}{E:aN}{p:List Nat}{c x y:I}{cs:List Value}(hr:ae w D E c cs)(h:c.at p=some x)(hxy:∀ ds,ae w D E x ds→ae w D E y ds)(hs:y.aK=x.aK):ae w D E (c.dy p y) cs∧(c.dy p y).aK=c.aK:=by
 obtain ⟨off,c1,c2,c3,h1,rfl,h2,h3⟩:=v8 p c x cs hr h;obtain ⟨off',k1,k2,k3,k4⟩:=sS p c x y _ c2 hr h (hxy c2 h3) hs;rw[h1,v6] at k1;subst k1;refine ⟨?_,k4⟩;have e:(c1++c2++c3).take off++c2++(c1++c2++c3).drop (off+c2.length)=c1++c2++c3:=by
  rw[zz1 c1 c2 c3,←h2,List.take_left,List.drop_length_add_append,List.drop_left,zz1]
 rw[←e];exact k3
theorem bl.Gn{A:ab}{m n T sz z:Nat}{p:List Nat}{b:I}(hm:A.o m=some (.box b))(hp:b.at p=some (.nils z))(hn:A.o n=none)(hlt:n<1000000):bl A ((A.aS n (.bQ T sz [])).aS m (.box (b.dy p (.own n 0)))):=by
 rintro c a w ⟨D,E,h⟩;have ao:E n=none:=by have:=h.bB n;rw[hn] at this;exact this
 have hmn:m≠n:=fun e=>by rw[e,hn] at hm;cases hm
 have hl:dm w D E w D (fun m=>if m=n then some (.rw none 0) else E m):=by
  have fg:∀ {m:Nat} {e:bx},E m=some e→(if m=n then some (.rw none 0) else E m)=some e:=fun {m e} he=>by
   have:m≠n:=fun e=>by rw[e,ao] at he;cases he
   rw[if_neg this];exact he
  refine ⟨fun _ _ h=>h,fun _ _ _ _ h=>h,fun m b aK he=>fg he,fun m aG l he =>?_,fun m b he=>fg he,fun m b he=>fg he,fun _ _ _ _ h=>h⟩
  ·have:m≠n:=fun e=>by rw[e,ao] at he;cases he
   exact ⟨aG,l,by simp only[if_neg this];exact he,Z7 _,fun _=>rfl⟩
 refine ⟨D,fun m=>if m=n then some (.rw none 0) else E m,h.sz,h.eb,fun t=>aR.later hl (h.dF t),h.de,h.cK,h.cO,fun k =>?_,fun m m' e e' b h1 h2 h3 h4 =>?_,fun m e hm =>?_,h.eD,h.cA,h.eS,h.ft⟩
 ·simp only[ab.aS];by_cases hk:k=m
  ·subst hk;have ho:=h.bB k;rw[hm] at ho;obtain ⟨b',cs,T',h1,h2,h3,h4,h5⟩:=ho;obtain ⟨q1,q2⟩:=Yq (y:=.own n 0) (ae.later hl _ _ h4) hp (fun ds hd=>by
    simp only[ae] at hd;subst hd;simp only[ae,if_true];exact ⟨none,0,rfl,Z7 _,⟨_,_,_,rfl⟩,fun _=>trivial⟩) rfl
   simp only[if_true,cJ];exact ⟨b',cs,T',by rw[q2];simp only[if_neg hmn];exact h1,h2,h3.aK q2,q1,h5⟩
  ·simp only[if_neg hk];by_cases hkn:k=n
   ·subst hkn;simp only[if_true,cJ];exact ⟨none,by simp,by simp,trivial⟩
   ·simp only[if_neg hkn];exact (h.bB k).later hl (by simp only[if_neg hkn]) fun _ _ _ _=>⟨rfl,fun _ ho=>ho⟩
 ·by_cases hm:m=n <;>by_cases hm':m'=n
  ·rw[hm,hm']
  ·simp only[if_pos hm,v6] at h1;subst h1;simp[bx.aG] at h3
  ·simp only[if_pos hm',v6] at h2;subst h2;simp[bx.aG] at h4
  ·simp only[if_neg hm] at h1;simp only[if_neg hm'] at h2;exact h.cz m m' e e' b h1 h2 h3 h4
 ·have hmn:m≠n:=fun e=>by rw[e,h.jK (.inr hlt)] at hm;cases hm
  simp only[if_neg hmn];exact h.dw m e hm
theorem bl.Gp{ts:List (Nat×I)}{os:List (Nat×ai)}(m n T sz z:Nat)(p:List Nat)(b:I)(hm:aE os m=some (.box b))(hp:b.at p=some (.nils z))(hn:aE os n=none){B:ab}(h:bl (aq ts ((m,.box (b.dy p (.own n 0)))::(n,.bQ T sz [])::os)) B)(hlt:n<1000000:=by decide):bl (aq ts os) B :=
 ((bl.Gn (A:=aq ts os) (T:=T) (sz:=sz) hm hp hn hlt).trans (by rw[vy,vy];exact bl.refl _)).trans h
mutual
theorem ju{p q:Nat→Bool}(h:∀ n,p n=true→q n=true):∀ x:I,x.only p=true→x.only q=true
 | .agg fs,hx | .tuple fs,hx=>by simp only[I.only] at *;exact jU h fs hx
 | .slice _ es,hx=>by simp only[I.only] at *;exact jU h es hx
 | .ref x,hx=>by simp only[I.only] at *;exact ju h x hx
 | .func _ caps,hx=>by simp only[I.only] at *;exact jU h caps hx
 | .iface _ v,hx=>by simp only[I.only] at *;exact ju h v hx
 | .ptr _ _,hx | .own _ _,hx | .view _ _ _ _ _,hx | .mref _,hx | .cU _,hx=>by simp only[I.only] at *;exact h _ hx
 | .cY ks vs,hx=>by simp only[I.only,Z0] at *;exact ⟨jU h ks hx.1,jU h vs hx.2⟩
 | .bool _,_ | .int _ _,_ | .ak _,_ | .nilp,_ | .c8,_ | .cQ,_ | .any,_ | .raw _,_ | .nils _,_ | .c0 _,_ | .undef,_ | .cV,_=>by simp[I.only]
theorem jU{p q:Nat→Bool}(h:∀ n,p n=true→q n=true):∀ xs:List I,I.bR p xs=true→I.bR q xs=true
 | [],_=>rfl
 |x::xs,hx=>by
  simp only[I.bR,Z0] at *;exact ⟨ju h x hx.1,jU h xs hx.2⟩
end
theorem ai.ju{p q:Nat→Bool}(h:∀ n,p n=true→q n=true)(x:ai)(hx:x.only p=true):x.only q=true:=by
 cases x with
 |box y=>simp only[ai.only] at *;exact Abs.ju h y hx
 |bQ T sz es=>simp only[ai.only] at *;exact jU h es hx
 |c6 o=>rfl
 |dL T xs=>rfl
 |cg ks vs=>simp only[ai.only,Z0] at *;exact ⟨jU h ks hx.1,jU h vs hx.2⟩
 |it ks vs left cur=>simp only[ai.only,Z0] at *;exact ⟨jU h ks hx.1,jU h vs hx.2⟩
theorem V1{x:I}(h:x.bz=true):x.cD=true:=by
 cases x <;>first | rfl | simp[I.bz] at h
theorem xO{aI:Bool}{A0:ab}{ρ:List (Nat×Nat)}{os:List (Nat×ai)} : ∀ xs:List I,I.cq xs=true→fU aI A0 ρ os xs xs
 | [],_=>trivial
 |x::xs,h=>by
  simp only[I.cq,Z0] at h;exact ⟨.inl ⟨(qh _ x h.1).symm,lY _ x h.1,V1 h.1⟩,xO xs h.2⟩
structure fw (os os':List (Nat×ai)):Prop where
 same:∀ m,al os' m=al os m
 ok:∀ m x,aE os' m=some x→x.only (al os')=true∧x.ej=true
 lR:∀ m,al os m=true→1000000≤m
def bX(o:Obj)(os:List (Nat×ai)):List (Nat×ai):=(1999999,.c6 o)::os
theorem jN(o:Obj)(os:List (Nat×ai))(m:Nat):al (bX o os) m=(decide (m=1999999)||al os m):=by
 simp only[bX,al,aE];by_cases h:m=1999999 <;>simp[h]
theorem oo(o:Obj)(os:List (Nat×ai))(m:Nat):aE (bX o os) m=if m=1999999 then some (.c6 o) else aE os m:=rfl
theorem fw.bX{os os':List (Nat×ai)}(h:fw os os')(o o':Obj):fw (bX o os) (bX o' os'):=by
 refine ⟨fun m=>by rw[jN,jN,h.same],fun m x hx =>?_,fun m hm =>?_⟩
 ·rw[oo] at hx;split at hx
  ·cases hx;exact ⟨rfl,rfl⟩
  ·obtain ⟨h1,h2⟩:=h.ok m x hx;exact ⟨x.ju (fun n hn=>by rw[jN,hn];simp) h1,h2⟩
 ·rw[jN] at hm;simp only[Bool.or_eq_true,decide_eq_true_eq] at hm;rcases hm with rfl | hm
  ·decide
  ·exact h.lR m hm
def sO:List Nat→List I→List (Nat×I)→List (Nat×I)
 |p::ps,v::vs,ts=>sO ps vs ((p,v)::ts)
 |_,_,ts=>ts
def mc(ρ:List (Nat×Nat))(p:Nat→Bool)(ts:List (Nat×I)):List (Nat×I)→Prop
 | []=>True
 |(k,v)::r=>bP ts k=v.aO (bg ρ)∧v.only p=true∧mc ρ p ts r
theorem EM{ρ:List (Nat×Nat)}{p:Nat→Bool}{ts:List (Nat×I)} : ∀ {tsR:List (Nat×I)},mc ρ p ts tsR→∀ k,bP tsR k=.cV∨(bP ts k=(bP tsR k).aO (bg ρ)∧(bP tsR k).only p=true)
 | [],_,k=>.inl rfl
 |(j,v)::r,h,k=>by
  simp only[mc] at h;simp only[bP];split
  ·rename_i hk;subst hk;exact .inr ⟨h.1,h.2.1⟩
  ·exact EM h.2.2 k
section
variable {c:cn} {a:Act} {w:World} {D:aJ} {E:aN}
theorem aL.wE{A:ab}(h:aL c A a w D E){n b:Nat}{o o':Obj}(hn:A.o n=some (.c6 o))(ao:E n=some (.op b))(ho:od o'=true):aL c (A.aS n (.c6 o')) a (w.putObj b o') D E:=by
 have hob:=h.bB n;rw[hn] at hob;obtain ⟨b',k1,k2,k3,k4,k5⟩:=hob;rw[ao] at k1;cases k1;have hnc:o.isCells=false:=by cases o <;>first | rfl | cases k4
 have hlt:b<w.heap.size:=eQ k3;have hl:dm w D E (w.putObj b o') D E:=⟨fun _ _ h=>h,fun b1 o1 v _ hv=>uo k3 hnc hv,fun _ _ _ h=>h,fun _ aG l h=>⟨aG,l,h,Z7 _,fun _=>rfl⟩,fun _ _ h=>h,fun _ _ h=>h,fun b1 es ck hd hm=>(World.putObj_heap_other (fun e1=>k5 0 (by rw[←e1];exact hd))).trans hm⟩
 refine ⟨h.sz,h.eb.mono fun B _ hB=>(World.putObj_heap_other (fun e=>by rw[e,k3] at hB;cases hB;cases k4)).trans hB,fun t=>aR.later hl (h.dF t),h.de.trans ⟨rfl,rfl,rfl,by simp,fun k hk=>World.putObj_heap_other (fun e=>hk (e▸k2))⟩,h.cK,
  fun b1 o1 hd=>by have:=h.cO b1 o1 hd;simpa using this,fun m =>?_,h.cz,h.dw,h.eD,h.cA,h.eS,h.j5 hl⟩
 simp only[ab.aS];by_cases hm:m=n
 ·subst hm;simp only[if_true,cJ];exact ⟨b,ao,k2,World.putObj_heap_same hlt,ho,k5⟩
 ·simp only[if_neg hm];exact (h.bB m).later hl rfl fun e b1 he hb=>⟨World.putObj_heap_other (fun e1=>hm (h.cz m n e _ b1 he ao hb (by rw[e1];rfl))),fun _ ho=>ho⟩
theorem aL.Mg{A:ab}(h:aL c A a w D E){n b:Nat}(ao:E n=some (.op b)):aL c ⟨A.t,fun m=>if m=n then none else A.o m⟩ a w D (fun m=>if m=n then none else E m):=by
 have hne:∀ {m:Nat} {e:bx},E m=some e→(∀ b,e≠.op b)→m≠n:=fun he h2 e'=>by
  subst e';rw[ao] at he;cases he;exact h2 _ rfl
 have hl:dm w D E w D (fun m=>if m=n then none else E m):=by
  refine ⟨fun _ _ h=>h,fun _ _ _ _ h=>h,fun m b aK he =>?_,fun m aG l he=>⟨aG,l,?_,Z7 _,fun _=>rfl⟩,fun m b he =>?_,fun m b he =>?_,fun _ _ _ _ h=>h⟩
  ·simp only[if_neg (hne he (fun b=>by simp))];exact he
  ·simp only[if_neg (hne he (fun b=>by simp))];exact he
  ·simp only[if_neg (hne he (fun b=>by simp))];exact he
  ·simp only[if_neg (hne he (fun b=>by simp))];exact he
 refine ⟨h.sz,h.eb,fun t=>aR.later hl (h.dF t),h.de,h.cK,h.cO,fun m =>?_,fun m m' e e' b h1 h2 h3 h4 =>?_,fun m e hm =>?_,h.eD,h.cA,h.eS,h.ft⟩
 ·by_cases hm:m=n
  ·simp only[hm,if_true,cJ]
  ·simp only[if_neg hm];exact (h.bB m).later hl (by simp only[if_neg hm]) fun _ _ _ _=>⟨rfl,fun _ ho=>ho⟩
 ·split at h1
  ·cases h1
  ·split at h2
   ·cases h2
   ·exact h.cz m m' e e' b h1 h2 h3 h4
 ·by_cases hmn:m=n
  ·left;simp only[hmn,if_true]
  ·simp only[if_neg hmn];exact h.dw m e hm
theorem aL.enter{ts:List (Nat×I)}{os0:List (Nat×ai)}(h:aL c (aq ts os0) a w D E)(hbase:c.dP=none)(hfree:aE os0 999999=none)(hE0:c.cu 999999=none){o:Obj}(ho:od o=true) :
  ∃ E1,aL c (aq ts ((999999,.c6 o)::os0)) { a with defers := { target:=.collected w.heap.size,args := #[] } :: a.defers } ((w.alloc (.deferred (some []))).alloc o) D E1∧E1 999999=some (.op (w.heap.size+1))∧∀ xs vs,ar w D E xs vs→ar ((w.alloc (.deferred (some []))).alloc o) D E1 xs vs:=by
 have hb:Below w.heap.size w ((w.alloc (.deferred (some []))).alloc o):=((Below.refl _ w).alloc (Z7 _) _).alloc (by simp) _;have h1:=h.grow (D':=D) hb (fun _ _ h=>h) (fun _ _ h _=>h) (fun b o' hd=>by have:=h.cO b o' hd;simp;omega);obtain ⟨W,hW⟩:∃ W,W=(w.alloc (.deferred (some []))).alloc o:=⟨_,rfl⟩
 have hL:W.heap[w.heap.size+1]?=some o:=by
  rw[hW];have:=World.alloc_heap_new (w.alloc (.deferred (some []))) o;rwa [World.size_alloc] at this
 have hK:W.heap[w.heap.size]?=some (.deferred (some [])):=by
  rw[hW];exact (Below.heap_alloc _ _ _ (by simp)).trans (World.alloc_heap_new w _)
 rw[←hW] at h1 hb ⊢;have hEn:E 999999=none:=by have:=h.bB 999999;simp only[aq,hfree] at this;exact this
 have hl:dm W D E W D (fun m=>if m=999999 then some (.op (w.heap.size+1)) else E m):=by
  refine ⟨fun _ _ h=>h,fun _ _ _ _ h=>h,fun m b aK he =>?_,fun m aG l he=>⟨aG,l,?_,Z7 _,fun _=>rfl⟩,fun m b he =>?_,fun m b he =>?_,fun _ _ _ _ h=>h⟩
  all_goals
   have:m≠999999:=fun e=>by rw[e,hEn] at he;cases he
   simp only[if_neg this];exact he
 have hsz:c.cR.heap.size≤w.heap.size:=h.de.size;have nb:∀ {m:Nat} {e:bx} {b:Nat},E m=some e→e.aG=some b→b<w.heap.size:=fun he hb'=>h.fi he hb';refine ⟨fun m=>if m=999999 then some (.op (w.heap.size+1)) else E m,⟨h1.sz,?_,fun t=>aR.later hl (h1.dF t),h1.de,h1.cK,h1.cO,fun m =>?_,fun m m' e e' b g1 g2 g3 g4 =>?_,fun m e hm =>?_,h1.eD,h1.cA,h1.eS,h1.ft⟩,by simp,fun xs vs hx=>ar.later hl xs vs (ar.later (dm.grow hb fun _ _ h=>h) xs vs hx)⟩
 ·have hdf:=h1.eb;rw[hbase] at hdf ⊢;obtain ⟨Bs,k1,k2,k3⟩:=hdf;refine ⟨w.heap.size::Bs,by simp only[Z3];rw[←k1],List.nodup_cons.2 ⟨fun hin =>?_,k2⟩,fun B hB =>?_⟩
  ·have hdf':=h.eb;rw[hbase] at hdf';obtain ⟨Bs',j1,_,j3⟩:=hdf';have e1:Bs=Bs':=by
    have:Bs.map (fun B=>({ target:=.collected B,args := #[] } : Deferred))=Bs'.map (fun B => { target:=.collected B,args := #[] }):=by rw[←k1,←j1]
    exact (List.map_inj_right (fun x y hxy=>by simpa using hxy)).1 this
   rw[e1] at hin;have:=eQ (j3 _ hin).2;omega
  ·rcases zy8.1 hB with rfl | hB
   ·exact ⟨hsz,hK⟩
   ·exact k3 B hB
 ·simp only[aq,aE];by_cases hm:m=999999
  ·subst hm;simp only[if_true,cJ];exact ⟨_,rfl,.inl (by omega),hL,ho,fun o' hd=>by have:=h.cO _ o' hd;omega⟩
  ·simp only[if_neg hm];exact (h1.bB m).later hl (by simp only[if_neg hm]) fun _ _ _ _=>⟨rfl,fun _ ho=>ho⟩
 ·by_cases hm:m=999999 <;>by_cases hm':m'=999999
  ·rw[hm,hm']
  ·simp only[if_pos hm,v6] at g1;simp only[if_neg hm'] at g2;subst g1;simp only[bx.aG,v6] at g3;have:=nb g2 g4;omega
  ·simp only[if_neg hm] at g1;simp only[if_pos hm',v6] at g2;subst g2;simp only[bx.aG,v6] at g4;have:=nb g1 g3;omega
  ·simp only[if_neg hm] at g1;simp only[if_neg hm'] at g2;exact h.cz m m' e e' b g1 g2 g3 g4
 ·have hmn:m≠999999:=fun e=>by rw[e,hE0] at hm;cases hm
  simp only[if_neg hmn];exact h.dw m e hm
theorem cJ.jr{M M':Nat→Prop}{n:Nat}{x:Option ai}(h:cJ M w D E n x)(hM:∀ e b,E n=some e→e.aG=some b→M' b):cJ M' w D E n x:=by
 unfold cJ at *;split
 ·exact h
 ·obtain ⟨b,cs,T,h1,_,h3⟩:=h;exact ⟨b,cs,T,h1,hM _ b h1 rfl,h3⟩
 ·obtain ⟨aG,h1,h2,h3⟩:=h;refine ⟨aG,h1,h2,?_⟩;split
  ·exact h3
  ·obtain ⟨cs,pre,rest,_,h4⟩:=h3;exact ⟨cs,pre,rest,hM _ _ h1 rfl,h4⟩
 ·obtain ⟨b,h1,_,h3⟩:=h;exact ⟨b,h1,hM _ b h1 rfl,h3⟩
 ·obtain ⟨b,es,ck,h1,_,h3⟩:=h;exact ⟨b,es,ck,h1,hM _ b h1 rfl,h3⟩
 ·obtain ⟨r,b,es,ck,dK,se,la,h1,_,h3⟩:=h;exact ⟨r,b,es,ck,dK,se,la,h1,hM _ r h1 rfl,h3⟩
 ·obtain ⟨aG,h1,h2,h3⟩:=h;refine ⟨aG,h1,h2,?_⟩;split
  ·exact h3
  ·obtain ⟨cs,m,_,h4⟩:=h3;exact ⟨cs,m,hM _ _ h1 rfl,h4⟩
theorem aL.CK{os:List (Nat×ai)} : ∀ (ps:List Nat) (vs:List Value) (xs:List I) (ts:List (Nat×I)) (a:Act),aL c (aq ts os) a w D E→(∀ p∈ps,p<c.n)→ar w D E xs vs→ps.length=vs.length →
  aL c (aq (sO ps xs ts) os) { a with tmps:=(ps.zip vs).foldl (fun t q=>t.setIfInBounds q.1 q.2) a.tmps } w D E
 | [],[],xs,ts,a,h,_,hv,_=>by
  cases xs with
  |nil=>exact h
  |cons x xs=>simp[ar] at hv
 | [],_::_,_,_,_,_,_,_,hl=>by simp at hl
 |_::_,[],_,_,_,_,_,_,hl=>by simp at hl
 |p::ps,v::vs,xs,ts,a,h,hp,hv,hl=>by
  cases xs with
  |nil=>simp[ar] at hv
  |cons x xs =>
   simp only[ar] at hv;obtain ⟨v',rest,cs,e,h1,h2,h3⟩:=hv;simp only[zz9] at e;obtain ⟨rfl,rfl⟩:=e;have h4:=h.put (hp p (by simp)) (fB h1 h2);rw[B1] at h4;have:=aL.CK ps vs xs ((p,x)::ts) (a.put (some p) v) h4 (fun q hq=>hp q (by simp[hq])) h3 (by simpa using hl);exact this
end
end Go.Abs
namespace Go.Abs
open Go Go.RowKit
def il:bw→Bool
 | .mv _ | .pick .. | .bin .. | .eqv .. | .conv .. | .un .. | .fl .. | .ix .. | .lenT _ | .bld .. | .ext .. | .mk .. | .nilC _ | .ptrE .. | .max2 .. | .prim .. =>true
 | .ld .. | .fa .. | .ia .. | .is .. | .len _ | .va .. | .bs .. | .sl .. | .cap _ | .bs0 _ | .lk .. | .b2s _=>true
 |_=>false
def sI:bw→Bool
 | .alloc _ | .box _ | .aT .. | .call .. | .fj .. | .dv .. | .eN _=>true
 |op=>il op
def oj(hs:List FuncId):bw→Bool
 | .alloc _ | .box _ | .eN _=>true
 | .call f _ => !hs.contains f
 |op=>il op
abbrev dY:=List (Nat×List Nat)
def gN(au:dY)(s:Nat):Option (List Nat):=(au.find? fun q=>q.1==s).map (·.2)
def dG(au:dY)(A:ab):Prop:=∀ s ns,gN au s=some ns→(A.t s).only (fun n=>ns.contains n)=true
def og(au:dY):aF→Option (List Nat)
 | .t s=>gN au s
 | .c x=>if x.bz then some [] else none
def qx(a:Option (List Nat))(ns:List Nat):Bool:=match a with
 |some ms=>ms.all fun m=>ns.contains m
 |none=>false
def hZ(au:dY)(g:az):Bool:=match g.dst with
 |none=>true
 |some d=>match gN au d with
  |none=>true
  |some ns=>match g.op with
   | .mv x | .nilC x | .fa _ _ x | .ia _ _ x _=>qx (og au x) ns
   | .bin .. | .len _ | .bs .. | .bs0 _ | .conv .. | .lenT _ | .prim .. | .b2s _=>true
   | .box _ | .alloc _ | .eN _=>ns.contains d
   | .is _ x _ | .ld _ x=>qx (og au x) []
   |_=>false
def lU:bw→Option (List Nat)
 | .ld _ (.t x) | .fa _ _ (.t x) | .ia _ _ (.t x) _ | .is _ (.t x) _ | .len (.t x) | .va _ _ (.t x) | .sl _ (.t x) _ _ _ | .cap (.t x) | .lk _ _ _ (.t x) _ | .b2s (.t x)=>some [x]
 | .bs _ _ ps=>if (ps.all fun x=>match x with | .t _=>true | .c _=>false)=true then some (iK ps) else none
 | .bs0 _=>some []
 |op=>if op.fM=0∧il op=true then some [] else none
def qW(au:dY)(g:az)(p:Nat→Bool):Bool:=match lU g.op with
 |some xs=>xs.all fun s=>match gN au s with | some ns=>ns.all p | none=>false
 |none=>false
def mU(hs:List FuncId)(au:dY)(g h:az):Bool:=oj hs h.op||match h.op with
 | .aT _ (.t y) _=>match lU g.op with
  |some []=>true
  |_=>match gN au y with
   |some ms=>qW au g fun n => !ms.contains n
   |none=>false
 | .aT .. =>match lU g.op with
  |some []=>true
  |_=>false
 | .dv _ _ _ _ s _=>qW au g (fun _=>false)||qx (og au s) []
 |_=>false
def mG(hs:List FuncId)(au:dY)(g h:az):Bool:=il g.op&&(mU hs au g h&&((match g.dst with
  |some d => !h.cv.contains d&&h.dst != some d
  |none=>true)&&(match h.dst with
  |some d => !g.cv.contains d
  |none=>true)))
theorem u4{op:bw}(h:il op=true)(A:ab)(dst:Option Nat)(rest:List az)(k:ab→b9):aW A dst op rest k=cm (aV A op) fun v=>k (A.aP dst v):=by
 cases op <;>first | rfl | cases h
inductive bM (P:Program) (Y:Value→List I→List (Nat×ai)→cd→Prop) (hs:List FuncId) (K:ab→Prop):b9→Prop where
 |done {A:ab} : K A→bM P Y hs K (.done A)
 |flat {f:FuncId} {avs cargs:List I} {a2:Option (List I)} {dst:Option Nat} {rest:List az} {A:ab} (r:I):aQ P f cargs r→r.flat=true→bM P Y hs K (av rest (A.aP dst r))→bM P Y hs K (.call f avs (some cargs) a2 dst rest A)
 |lead {f:FuncId} {avs cargs:List I} {a1:Option (List I)} {dst:Option Nat} {rest:List az} {A:ab} (r:I):aQ P f cargs r→bM P Y hs K (av rest (A.aP dst r))→bM P Y hs K (.call f avs a1 (some cargs) dst rest A)
 |bB {f:FuncId} {avs:List I} {a1 a2:Option (List I)} {dst:Option Nat} {rest:List az} {ts:List (Nat×I)} {os0:List (Nat×ai)} (ρ:List (Nat×Nat)) (cargs:List I) (post:cd):eT P f cargs [] post →
   eP ρ [] os0→fU false (aq ts os0) ρ [] avs cargs→(∀ r os',post r os'→df false ρ [] os0 r os') →
   (∀ r os',post r os'→bM P Y hs K (av rest ((aq ts (cL ρ os'++os0)).aP dst (r.aO (bg ρ)))))→bM P Y hs K (.call f avs a1 a2 dst rest (aq ts os0))
 |any {p:Nat→Prop} {k:Nat→b9} : (∀ m,p m→bM P Y hs K (k m))→bM P Y hs K (.any p k)
 |vF {f:FuncId} {avs:List I} {a1 a2:Option (List I)} {dst:Option Nat} {rest:List az} {ts:List (Nat×I)} {os0:List (Nat×ai)} (aI:Bool) (ρ:List (Nat×Nat)) (os:List (Nat×ai)) (cargs:List I) (post:cd):hs.contains f=true→eT P f cargs os post →
   eP ρ os os0→fU aI (aq ts (c7 (iB ρ os) os0)) ρ os avs cargs→(∀ r os',post r os'→df aI ρ os os0 r os') →
   (∀ r os',post r os'→bM P Y hs K (av rest ((aq ts (cL ρ os'++os0)).aP dst (r.aO (bg ρ)))))→bM P Y hs K (.call f avs a1 a2 dst rest (aq ts os0))
 |ZO {v:Value} {avs:List I} {dst:Option Nat} {rest:List az} {ts:List (Nat×I)} {os0:List (Nat×ai)} (os:List (Nat×ai)) (cargs:List I) (post:cd):Y v cargs os post →
   eP [] os os0→fU false (aq ts (c7 (iB [] os) os0)) [] os avs cargs→(∀ r os',post r os'→df false [] os os0 r os') →
   (∀ r os',post r os'→bM P Y hs K (av rest ((aq ts (cL [] os'++os0)).aP dst (r.aO (bg [])))))→bM P Y hs K (.kY v avs dst rest (aq ts os0))
theorem Mf(os:List (Nat×ai)):c7 [] os=os:=by simp[c7]
section
variable {P:Program} {hs:List FuncId} {K:ab→Prop} {Y:Value→List I→List (Nat×ai)→cd→Prop}
theorem bM.qU{p:Nat→Prop}{k:Nat→b9}(h:bM P Y hs K (.any p k)):∀ m,p m→bM P Y hs K (k m):=by cases h;assumption
theorem dG.put{au:dY}{A B:ab}(h:dG au A)(ht:∀ k,B.t k=A.t k){dst:Option Nat}{v:I}(hv:∀ d,dst=some d→∀ ns,gN au d=some ns→v.only (fun n=>ns.contains n)=true):dG au (B.aP dst v):=by
 intro s ns hs';cases dst with
 |none=>exact (ht s).symm▸h s ns hs'
 |some d =>
  simp only[ab.aP,ab.put];by_cases hd:s=d
  ·rw[if_pos hd];exact hv d rfl ns (hd▸hs')
  ·rw[if_neg hd,ht];exact h s ns hs'
theorem nw{au:dY}{A:ab}(h:dG au A){x:aF}{ns:List Nat}(hx:qx (og au x) ns=true):(af A x).only (fun n=>ns.contains n)=true:=by
 cases x with
 |c x =>
  simp only[og] at hx;split at hx
  ·rename_i hc;exact lY _ x hc
  ·cases hx
 |t s =>
  simp only[og] at hx;cases hl:gN au s with
  |none=>rw[hl] at hx;cases hx
  |some ms =>
   rw[hl] at hx;simp only[qx,zy6] at hx;exact ju (fun n hn=>hx n (by simpa using hn)) _ (h s ms hl)
theorem G7{op:BinOp}{x y v:I}(p:Nat→Bool)(h:bN op x y=some v):v.only p=true:=by
 unfold bN at h
 (repeat' split at h) <;>first | (cases h;done) | (simp only[v6] at h;subst h;rfl)
theorem Yc{q:tO}{xs:List I}{v:I}(p:Nat→Bool)(h:ep q xs=some v):v.only p=true:=by
 unfold ep at h
 (repeat' split at h) <;>first | (cases h;done) | (rename_i hc;simp only[v6] at h;subst h;simp only[I.only];exact lY _ _ hc.1) | (simp only[v6] at h;subst h;rfl) | (simp only[t7] at h;obtain ⟨_,_,rfl⟩:=h;rfl)
theorem GO{x:Option (List I)}{v:I}(p:Nat→Bool)(h:kT x=some v):v.only p=true:=by
 unfold kT at h;split at h
 ·simp only[t7] at h;obtain ⟨_,_,rfl⟩:=h;rfl
 ·cases h
theorem sJ{p:Nat→Bool} : ∀ {xs:List I} {i:Nat} {x:I},I.bR p xs=true→xs[i]?=some x→x.only p=true
 | [],_,_,_,h=>by simp at h
 |a::xs,0,x,h,e=>by
  simp only[I.bR,Z0] at h;simp only[List.getElem?_cons_zero,v6] at e;exact e▸h.1
 |a::xs,i+1,x,h,e=>by
  simp only[I.bR,Z0] at h;exact sJ (xs:=xs) h.2 (by simpa using e)
theorem Ck{au:dY}{A:ab}{g:az}(h:dG au A)(hg:hZ au g=true){v:I}(hv:aV A g.op=some v):∀ d,g.dst=some d→∀ ns,gN au d=some ns→v.only (fun n=>ns.contains n)=true:=by
 intro d hd ns hn;obtain ⟨dst,op,gd⟩:=g;simp only at hd hv;subst hd;simp only[hZ,hn] at hg;cases op <;>simp only at hg <;>(try (cases hg;done)) <;>simp only[aV] at hv <;>(try (cases hv;done))
 case mv x=>simp only[v6] at hv;exact hv▸nw h hg
 case nilC x =>
  have:=nw h hg;generalize af A x=u at hv this;cases u <;>simp only[mM] at hv <;>first | (cases hv;done) | (simp only[v6] at hv;exact hv▸this)
 case bin op x y=>exact G7 _ hv
 case conv k x=>split at hv <;>first | (cases hv;done) | (simp only[v6] at hv;subst hv;rfl)
 case prim p xs=>exact Yc _ hv
 case is esz x i =>
  have hx:=nw h hg;split at hv
  case h_2=>cases hv
  split at hv
  ·rename_i sz es he;rw[he] at hx;simp only[I.only] at hx;split at hv
   ·simp only[t7] at hv;obtain ⟨u,hu,rfl⟩:=hv;simp only[I.only];exact ju (fun n hn=>by simp at hn) _ (sJ hx hu)
   ·cases hv
  ·rename_i m l he;rw[he] at hx;simp[I.only] at hx
  ·rename_i m p sz lo l he;rw[he] at hx;simp[I.only] at hx
  ·cases hv
 case ld s x =>
  have hx:=nw h hg;split at hv
  case h_2=>cases hv
  rename_i u hu;split at hv
  case isFalse=>cases hv
  simp only[v6] at hv;subst hv;generalize af A x=z at hx hu;cases z <;>simp only[bZ] at hu <;>try (cases hu;done)
  ·simp only[v6] at hu;subst hu;simp only[I.only] at hx;exact ju (fun n hn=>by simp at hn) _ hx
  ·simp[I.only] at hx
 case b2s x=>exact GO _ hv
 case lenT x=>split at hv <;>first | (cases hv;done) | (simp only[v6] at hv;subst hv;rfl)
 case len x=>(repeat' split at hv) <;>first | (cases hv;done) | (simp only[v6] at hv;subst hv;rfl)
 case bs0 e=>simp only[v6] at hv;subst hv;rfl
 case bs e ps =>
  split at hv
  ·split at hv
   ·rename_i hc;simp only[v6] at hv;subst hv;simp only[I.only];exact mR _ _ hc.2
   ·cases hv
  ·cases hv
 case fa f off x =>
  have hx:=nw h hg;split at hv
  ·rename_i fs he;rw[he] at hx;simp only[I.only] at hx;split at hv
   ·rename_i u hu;split at hv
    ·simp only[v6] at hv;subst hv;simp only[I.only];exact sJ hx hu
    ·cases hv
   ·cases hv
  ·rename_i n q he;rw[he] at hx;simp only[I.only] at hx;split at hv
   ·split at hv
    ·simp only[v6] at hv;subst hv;simpa only[I.only] using hx
    ·cases hv
   ·cases hv
  ·cases hv
 case ia n esz x i =>
  have hx:=nw h hg;split at hv
  case h_2=>cases hv
  split at hv
  case isFalse=>cases hv
  split at hv
  ·rename_i fs he;rw[he] at hx;simp only[I.only] at hx;split at hv
   ·simp only[t7] at hv;obtain ⟨u,hu,rfl⟩:=hv;simp only[I.only];exact sJ hx hu
   ·cases hv
  ·rename_i m q he;rw[he] at hx;simp only[I.only] at hx;split at hv
   ·split at hv
    ·simp only[v6] at hv;subst hv;simpa only[I.only] using hx
    ·cases hv
   ·cases hv
  ·cases hv
def qK(A:ab)(dst:Option Nat)(s:I)(B:ab):Prop:=(∀ t,dst≠some t→B.t t=A.t t)∧(s.only (fun _=>false)=true→du A B)
def mh(A:ab)(dst:Option Nat)(s:I)(R:(ab→b9)→b9):Prop :=
 (∀ k,R k=.fail)∨(∃ B,(∀ k,R k=k B)∧qK A dst s B)∨∃ (p:Nat→Prop) (bo:Nat→ab),(∀ k,R k=.any p fun m=>k (bo m))∧∀ m,qK A dst s (bo m)
theorem qe{A B:ab}{dst:Option Nat}{v:I}{t:Nat}(ht:∀ k,B.t k=A.t k)(h:dst≠some t):(B.aP dst v).t t=A.t t:=by
 cases dst with
 |none=>exact ht t
 |some d =>
  have:t≠d:=fun e=>h (by rw[e]);simp only[ab.aP,ab.put,if_neg this];exact ht t
theorem Gw(A:ab)(dst:Option Nat)(esz bytes:Nat)(z s:I)(es ys:List I):mh A dst s (eZ A dst esz bytes z es ys):=by
 cases dst with
 |none=>exact .inl fun _=>rfl
 |some d =>
  cases ho:A.o d with
  |some y=>exact .inl fun k=>by simp only[eZ,ho]
  |none =>
   by_cases hc:(es.length+ys.length)*bytes≤140737488355328∧es.length+ys.length≤maxLen
   ·refine .inr (.inr ⟨_,fun m=>(A.aS d (.box (.agg (es++(ys++List.replicate m z))))).aP (some d) (.view d [] esz 0 (es.length+ys.length)),fun k=>by simp only[eZ,ho];rw[if_pos hc],fun m=>⟨fun t ht=>qe (A:=A) (B:=A.aS d _) (fun _=>rfl) ht,fun _ n y hy =>?_⟩⟩);have:n≠d:=fun e=>by rw[e,ho] at hy;cases hy
    rw[gz];simp only[ab.aS,if_neg this];exact hy
   ·exact .inl fun k=>by simp only[eZ,ho];rw[if_neg hc]
theorem GA(A:ab)(dst:Option Nat)(esz bytes:Nat)(z s:I)(es ys:Option (List I)):mh A dst s (dZ A dst esz bytes z s es ys):=by
 cases es with
 |none=>exact .inl fun _=>rfl
 |some es =>
  cases ys with
  |none=>exact .inl fun _=>rfl
  |some ys =>
   by_cases h0:ys=[]
   ·exact .inr (.inl ⟨A.aP dst s,fun k=>by simp only[dZ,if_pos h0],fun t ht=>qe (A:=A) (fun _=>rfl) ht,fun _ n y hy=>by rw[gz];exact hy⟩)
   ·have gg:=fun s'=>Gw A dst esz bytes z s' es ys;cases s
    case nils=>simp only[mh,dZ,if_neg h0];exact gg _
    case c0=>simp only[mh,dZ,if_neg h0];exact gg _
    case view n p sz lo l =>
     cases ho:A.o n with
     |none=>exact .inl fun k=>by simp only[dZ,if_neg h0,ho]
     |some y =>
      cases y with
      |box b =>
       cases hb:b.at p with
       |none=>exact .inl fun k=>by simp only[dZ,if_neg h0,ho,hb]
       |some c =>
        cases c
        case agg fs =>
         by_cases h1:lo+l+ys.length≤fs.length
         ·by_cases h2:sz=esz∧I.cF ys=I.cF ((fs.drop (lo+l)).take ys.length)
          ·exact .inr (.inl ⟨(A.aS n (.box (ij b p (lo+l) fs ys))).aP dst (.view n p esz lo (l+ys.length)),fun k=>by simp only[dZ,if_neg h0,ho,hb,if_pos h1];rw[if_pos h2],fun t ht=>qe (A:=A) (B:=A.aS n _) (fun _=>rfl) ht,fun h=>by simp[I.only] at h⟩)
          ·exact .inl fun k=>by simp only[dZ,if_neg h0,ho,hb,if_pos h1];rw[if_neg h2]
         ·simp only[mh,dZ,if_neg h0,ho,hb,if_neg h1];exact gg _
        all_goals exact .inl fun k=>by simp only[dZ,if_neg h0,ho,hb]
      |_=>exact .inl fun k=>by simp only[dZ,if_neg h0,ho]
    all_goals exact .inl fun k=>by simp only[dZ,if_neg h0]
theorem xN(A:ab)(dst:Option Nat)(e esz bytes:Nat)(z:I)(s x:aF)(rest:List az):mh A dst (af A s) (aW A dst (.dv e esz bytes z s x) rest):=by
 generalize hs:af A s=gW;cases gW
 case own n l =>
  cases hx:af A x
  case slice sz ys =>
   cases ho:A.o n with
   |none=>exact .inl fun k=>by simp only[aW,hs,hx,ho]
   |some y =>
    cases y with
    |bQ T sz' es =>
     by_cases hc:vI e esz bytes l sz ys T sz' es
     ·exact .inr (.inl ⟨(A.aS n (.bQ e esz (es++ys))).aP dst (.own n (es.length+ys.length)),fun k=>by simp only[aW,hs,hx,ho];rw[if_pos hc],fun t ht=>qe (A:=A) (B:=A.aS n _) (fun _=>rfl) ht,fun h=>by simp[I.only] at h⟩)
     ·exact .inl fun k=>by simp only[aW,hs,hx,ho];rw[if_neg hc]
    |dL T xs =>
     by_cases hc:vJ e esz bytes l ys T xs z
     ·exact .inr (.inl ⟨(A.aS n (.dL e (xs++pJ ys))).aP dst (.own n (xs.length+ys.length)),fun k=>by simp only[aW,hs,hx,ho];rw[if_pos hc],fun t ht=>qe (A:=A) (B:=A.aS n _) (fun _=>rfl) ht,fun h=>by simp[I.only] at h⟩)
     ·exact .inl fun k=>by simp only[aW,hs,hx,ho];rw[if_neg hc]
    |_=>exact .inl fun k=>by simp only[aW,hs,hx,ho]
  all_goals exact .inl fun k=>by simp only[aW,hs,hx]
 all_goals (simp only[mh,aW,hs];exact GA ..)
theorem vY{A:ab}{d:Nat}{v:I}{n:Nat}{y:ai}{dst:Option Nat}{u:I}(h:dst≠some d):((A.put d v).aS n y).aP dst u=((A.aS n y).aP dst u).put d v:=by
 cases dst with
 |none=>rfl
 |some e =>
  have:e≠d:=fun he=>h (by rw[he]);simp only[ab.aP,ab.put,ab.aS,ab.mk.injEq,and_true]
  funext k
  by_cases h1:k=e <;>by_cases h2:k=d <;>simp_all
theorem Yo{A:ab}{d:Nat}{v:I}{dst:Option Nat}{u:I}(h:dst≠some d):(A.put d v).aP dst u=(A.aP dst u).put d v:=by
 cases dst with
 |none=>rfl
 |some e =>
  have:e≠d:=fun he=>h (by rw[he]);simp only[ab.aP,ab.put,ab.mk.injEq,and_true]
  funext k
  by_cases h1:k=e <;>by_cases h2:k=d <;>simp_all
theorem Gx{A:ab}{d:Nat}{v:I}{dst:Option Nat}(h:dst≠some d)(esz bytes:Nat)(z:I)(es ys:List I)(k:ab→b9):eZ (A.put d v) dst esz bytes z es ys k=eZ A dst esz bytes z es ys fun B=>k (B.put d v):=by
 cases dst with
 |none=>rfl
 |some e =>
  simp only[eZ];have:(A.put d v).o=A.o:=rfl;rw[this];cases A.o e with
  |some _=>rfl
  |none =>
   simp only;split
   ·simp only[vY h]
   ·rfl
theorem GB{A:ab}{d:Nat}{v:I}{dst:Option Nat}(h:dst≠some d)(esz bytes:Nat)(z s:I)(es ys:Option (List I))(k:ab→b9):dZ (A.put d v) dst esz bytes z s es ys k=dZ A dst esz bytes z s es ys fun B=>k (B.put d v):=by
 have ho:(A.put d v).o=A.o:=rfl;cases es with
 |none=>rfl
 |some es =>
  cases ys with
  |none=>rfl
  |some ys =>
   simp only[dZ];split
   ·rw[Yo h]
   ·cases s <;>simp only[Gx h,ho]
    rename_i n p sz lo l;cases A.o n with
    |none=>rfl
    |some y =>
     cases y with
     |box b =>
      simp only;cases b.at p with
      |none=>rfl
      |some c =>
       cases c <;>simp only[vY h]
     |_=>rfl
theorem GG{A:ab}{d:Nat}{v:I}{dst:Option Nat}(h:dst≠some d){e esz bytes:Nat}{z:I}{s x:aF}(hag:dq A (A.put d v) (s.sl++x.sl))(rest rest':List az)(k:ab→b9) :
  aW (A.put d v) dst (.dv e esz bytes z s x) rest k=aW A dst (.dv e esz bytes z s x) rest' fun B=>k (B.put d v):=by
 have ho:(A.put d v).o=A.o:=rfl;have hsrc:∀ y,cT (A.put d v) esz y=cT A esz y:=fun y=>by cases y <;>rfl
 simp only[aW,cC hag.l,cC hag.r,hsrc];cases af A s <;>simp only[GB h]
 rename_i n l;cases af A x <;>simp only[ho]
 cases A.o n with
 |none=>rfl
 |some y=>cases y <;>simp only[vY h]
theorem bM.zx{au:dY}{f:FuncId}{avs:List I}{a1 a2:Option (List I)}{dst:Option Nat}{rest:List az}{A:ab}(hi:dG au A)(hd:∀ d,dst=some d→gN au d=none)(h:bM P Y hs K (.call f avs a1 a2 dst rest A)) :
  aZ P Y false (fun B=>bM P Y hs K (av rest B)∧dG au B) (.call f avs a1 a2 dst [] A):=by
 have no:∀ {v:I},∀ d,dst=some d→∀ ns,gN au d=some ns→v.only (fun n=>ns.contains n)=true:=fun d e ns hn=>by rw[hd d e] at hn;cases hn
 cases h with
 |flat r hc hf hw=>exact .flat r hc hf (.done ⟨hw,hi.put (fun _=>rfl) no⟩)
 |lead r hc hw=>exact .lead r hc (.done ⟨hw,hi.put (fun _=>rfl) no⟩)
 |bB ρ cargs post hc hg ha hb hw=>exact .bB false ρ [] cargs post rfl hc hg (by simp only[iB,zz6,Mf];exact ha) hb fun r os' hp=>.done ⟨hw r os' hp,hi.put (B:=aq _ (cL ρ os'++_)) (fun _=>rfl) no⟩
 |vF aI ρ os cargs post _ hc hg ha hb hw=>exact .bB aI ρ os cargs post rfl hc hg ha hb fun r os' hp=>.done ⟨hw r os' hp,hi.put (B:=aq _ (cL ρ os'++_)) (fun _=>rfl) no⟩
theorem bM.IG{au:dY}{v:Value}{avs:List I}{dst:Option Nat}{rest:List az}{A:ab}(hi:dG au A)(hd:∀ d,dst=some d→gN au d=none)(h:bM P Y hs K (.kY v avs dst rest A)) :
  aZ P Y false (fun B=>bM P Y hs K (av rest B)∧dG au B) (.kY v avs dst [] A):=by
 have no:∀ {v:I},∀ d,dst=some d→∀ ns,gN au d=some ns→v.only (fun n=>ns.contains n)=true:=fun d e ns hn=>by rw[hd d e] at hn;cases hn
 cases h with
 |ZO os cargs post hc hg ha hb hw=>exact .tC os cargs post rfl hc hg ha hb fun r os' hp=>.done ⟨hw r os' hp,hi.put (B:=aq _ (cL [] os'++_)) (fun _=>rfl) no⟩
theorem bM.one{au:dY}{A:ab}{g:az}{rest:List az}(hi:dG au A)(ho:sI g.op=true)(hL:hZ au g=true)(h:bM P Y hs K (aW A g.dst g.op rest (av rest))):aZ P Y false (fun B=>bM P Y hs K (av rest B)∧dG au B) (aW A g.dst g.op [] (av [])):=by
 have hval:=fun v (hv:aV A g.op=some v)=>Ck hi hL hv;obtain ⟨dst,op,gd⟩:=g;simp only at ho h hval ⊢;have pure:il op=true→aZ P Y false (fun B=>bM P Y hs K (av rest B)∧dG au B) (aW A dst op [] (av [])):=by
  intro hsm;rw[u4 hsm] at h ⊢;cases hv:aV A op with
  |none=>rw[hv] at h;cases h
  |some v=>rw[hv] at h;exact .done ⟨h,hi.put (fun _=>rfl) (hval v hv)⟩
 have unl:(∀ ns d,dst=some d→gN au d=some ns→hZ au ⟨dst,op,gd⟩=false)→∀ d,dst=some d→gN au d=none:=fun h1 d hd=>by
  cases hn:gN au d with
  |none=>rfl
  |some ns=>rw[h1 ns d hd hn] at hL;cases hL
 cases op with
 |alloc z =>
  cases dst with
  |none=>simp only[aW] at h;cases h
  |some d =>
   simp only[aW] at h ⊢;split at h
   case h_2=>cases h
   refine .done ⟨h,hi.put (B:=A.aS d _) (dst:=some d) (fun _=>rfl) fun d' e ns hn =>?_⟩;simp only[v6] at e;subst e;simpa only[hZ,hn,I.only] using hL
 |box x =>
  cases dst with
  |none=>simp only[aW] at h;cases h
  |some d =>
   simp only[aW] at h ⊢;split at h
   case h_2=>cases h
   split at h
   case isFalse=>cases h
   rename_i hv;rw[if_pos hv];refine .done ⟨h,hi.put (B:=A.aS d _) (dst:=some d) (fun _=>rfl) fun d' e ns hn =>?_⟩;simp only[v6] at e;subst e;simpa only[hZ,hn,I.only] using hL
 |aT s x v =>
  cases dst with
  |some d=>simp only[aW] at h;cases h
  |none =>
   simp only[aW] at h ⊢;split at h
   case h_2=>cases h
   rename_i n p hx;split at h
   case h_2=>cases h
   rename_i b hb;split at h
   case h_2=>cases h
   rename_i old hold;split at h
   case isFalse=>cases h
   rename_i hok;simp only[if_pos hok];exact .done ⟨h,fun s ns hn=>hi s ns hn⟩
 |eN x =>
  simp only[aW] at h ⊢;cases hse:lB (af A x) with
  |none=>rw[hse] at h;simp only[ig] at h;cases h
  |some ys =>
   rw[hse] at h;cases dst with
   |none=>simp only[ig] at h;cases h
   |some d =>
    simp only[ig] at h ⊢;split at h
    case h_2=>cases h
    rename_i ho;refine .any rfl fun m hm=>.done ⟨h.qU m hm,hi.put (B:=A.aS d _) (dst:=some d) (fun _=>rfl) fun d' e ns hn =>?_⟩;simp only[v6] at e;subst e;simpa only[hZ,hn,I.only] using hL
 |call f args=>exact bM.zx hi (unl fun ns d e hn=>by subst e;simp only[hZ,hn]) h
 |fj x args =>
  have hu:=unl fun ns d e hn=>by subst e;simp only[hZ,hn]
  simp only[aW] at h ⊢;split at h
  ·exact bM.zx hi hu h
  ·exact bM.IG hi hu h
  ·cases h
 |dv e esz bytes z s x =>
  have hu:=unl fun ns d e hn=>by subst e;simp only[hZ,hn]
  have rW:∀ B,qK A dst (af A s) B→dG au B:=fun B hB t ns hn=>by
   rw[hB.1 t fun e=>by rw[hu t e] at hn;cases hn];exact hi t ns hn
  have hf:=xN A dst e esz bytes z s x;rcases hf rest with h1 | ⟨B,h1,h2⟩ | ⟨p,bo,h1,h2⟩
  ·rw[h1] at h;cases h
  ·rw[h1] at h;have:aW A dst (.dv e esz bytes z s x) [] (av [])=av [] B:=(show aW A dst (.dv e esz bytes z s x) [] (av [])=aW A dst (.dv e esz bytes z s x) rest (av []) from rfl).trans (h1 _);rw[this];exact .done ⟨h,rW B h2⟩
  ·rw[h1] at h;have:aW A dst (.dv e esz bytes z s x) [] (av [])=.any p fun m=>av [] (bo m):=(show aW A dst (.dv e esz bytes z s x) [] (av [])=aW A dst (.dv e esz bytes z s x) rest (av []) from rfl).trans (h1 _);rw[this];exact .any rfl fun m hm=>.done ⟨h.qU m hm,rW _ (h2 m)⟩
 |_=>first | exact pure rfl | cases ho
def fx(g:az)(A:ab)(v:I):Prop:=(fG A g∧v=.undef)∨(pass A g∧aV A g.op=some v)
theorem bM.wL{A:ab}{g:az}{rest:List az}(hs':il g.op=true)(h:bM P Y hs K (av (g::rest) A)):∃ v,fx g A v∧bM P Y hs K (av rest (A.aP g.dst v)):=by
 have step:pass A g→bM P Y hs K (aW A g.dst g.op rest (av rest))→∃ v,fx g A v∧bM P Y hs K (av rest (A.aP g.dst v)):=by
  intro hp h;rw[u4 hs'] at h;cases hv:aV A g.op with
  |none=>rw[hv] at h;cases h
  |some v=>rw[hv] at h;exact ⟨v,.inr ⟨hp,hv⟩,h⟩
 simp only[av] at h;split at h
 ·rename_i hg;exact step (by simp only[pass,hg]) h
 ·rename_i t b hg;split at h
  ·rename_i b' hb;split at h
   ·rename_i hbb;subst hbb;exact step (by simp only[pass,hg];exact hb) h
   ·rename_i hbb;exact ⟨_,.inl ⟨by simp only[fG,hg];exact .inl (by rw[hb,ue hbb]),rfl⟩,h⟩
  ·rename_i hb;exact ⟨_,.inl ⟨by simp only[fG,hg];exact .inr hb,rfl⟩,h⟩
  ·cases h
theorem qV{A:ab}{g:az}{rest:List az}(hn:fG A g):av (g::rest) A=av rest (A.aP g.dst .undef):=by
 simp only[av];cases hg:g.guard with
 |none=>simp only[fG,hg] at hn
 |some tb =>
  obtain ⟨t,b⟩:=tb;simp only[fG,hg] at hn;rcases hn with hn | hn
  ·simp only[hn];rw[if_neg (by cases b <;>simp)]
  ·simp only[hn]
theorem fx.to{A:ab}{g:az}{rest:List az}{v:I}(hs':il g.op=true)(h:fx g A v):av (g::rest) A=av rest (A.aP g.dst v):=by
 rcases h with ⟨hn,rfl⟩ | ⟨hp,hv⟩
 ·exact qV hn
 ·rw[mu hp,u4 hs',hv];rfl
theorem LW{A A':ab}{p:Nat→Bool}(ho:∀ n,p n=true→A'.o n=A.o n){x:I}(hx:x.only p=true):bZ A' x=bZ A x:=by
 cases x <;>simp only[bZ]
 rename_i n q;rw[ho n (by simpa[I.only] using hx)]
mutual
theorem MK{A A':ab}{p:Nat→Bool}(ho:∀ n,p n=true→A'.o n=A.o n):∀ {x:I},x.only p=true→bd false A' x=bd false A x
 | .own n k,h=>by simp only[bd];rw[ho n (by simpa[I.only] using h)]
 | .func f caps,h=>by simp only[bd];rw[rC ho (xs:=caps) (by simpa[I.only] using h)]
 | .agg fs,h=>by simp only[bd];rw[rC ho (xs:=fs) (by simpa[I.only] using h)]
 | .undef,_ | .cV,_ | .bool _,_ | .int _ _,_ | .ak _,_ | .nilp,_ | .c8,_ | .cQ,_ | .any,_ | .raw _,_ | .nils _,_ | .c0 _,_ | .slice _ _,_ | .tuple _,_ | .ref _,_ | .iface _ _,_ | .ptr _ _,_ | .view _ _ _ _ _,_ | .mref _,_ | .cU _,_ | .cY _ _,_=>by simp[bd]
theorem rC{A A':ab}{p:Nat→Bool}(ho:∀ n,p n=true→A'.o n=A.o n):∀ {xs:List I},I.bR p xs=true→bL false A' xs=bL false A xs
 | [],_=>rfl
 |x::xs,h=>by
  simp only[I.bR,Z0] at h;simp only[bL,MK ho h.1,rC ho h.2]
end
theorem Cs{p:Nat→Bool}{f:aF→I} : ∀ {xs:List aF},(∀ x∈xs,(f x).only p=true)→I.bR p (xs.map f)=true
 | [],_=>rfl
 |x::xs,h=>by
  simp only[Z3,I.bR,Z0];exact ⟨h x (by simp),Cs fun y hy=>h y (by simp[hy])⟩
theorem WE{A A':ab}{p:Nat→Bool}(ho:∀ n,p n=true→A'.o n=A.o n){x:I}(hx:x.only p=true):fQ A' x=fQ A x:=by
 cases x with
 |mref n=>simp only[fQ];rw[ho n (by simpa[I.only] using hx)]
 |raw v=>cases v <;>first | rfl | (rename_i o;cases o <;>rfl)
 |_=>rfl
theorem Ye{A A':ab}{op:bw}{xs:List Nat}{p:Nat→Bool}(hm:lU op=some xs)(h:dq A A' op.cv)(hx:∀ s∈xs,(A.t s).only p=true)(ho:∀ n,p n=true→A'.o n=A.o n):aV A' op=aV A op:=by
 have jI:op.fM=0→aV A' op=aV A op:=fun hc=>vW hc h;have dl:=fun {x:I} (hx:x.only p=true)=>LW ho hx;unfold lU at hm;split at hm
 ·rename_i s x;simp only[v6] at hm;subst hm;have e:=h x (by simp[bw.cv,aF.sl]);simp only[aV,af,e,dl (hx x (by simp))]
 ·rename_i f off x;simp only[v6] at hm;subst hm;have e:=h x (by simp[bw.cv,aF.sl]);have k:=hx x (by simp);simp only[aV,af,e];generalize A.t x=u at k ⊢;cases u with
  |ptr n q=>simp only[dl (x:=.ptr n q) k]
  |ref c=>cases c <;>rfl
  |_=>rfl
 ·rename_i n esz x i;simp only[v6] at hm;subst hm;have e:=h x (by simp[bw.cv,aF.sl]);have ei:=cC (x:=i) (fun m hm=>h m (by simp[bw.cv,hm]));have k:=hx x (by simp);simp only[aV,ei];generalize af A i=w;simp only[af,e];generalize A.t x=u at k ⊢;cases u with
  |ptr n q=>simp only[dl (x:=.ptr n q) k]
  |ref c=>cases c <;>rfl
  |_=>rfl
 ·rename_i esz x i;simp only[v6] at hm;subst hm;have e:=h x (by simp[bw.cv,aF.sl]);have ei:=cC (x:=i) (fun m hm=>h m (by simp[bw.cv,hm]));have k:=hx x (by simp);simp only[aV,ei];generalize af A i=w;simp only[af,e];generalize A.t x=u at k ⊢;cases u with
  |own n l=>simp only[ho n (by simpa[I.only] using k)]
  |view n q=>simp only[dl (x:=.ptr n q) (by simpa[I.only] using k)]
  |_=>rfl
 ·rename_i x;simp only[v6] at hm;subst hm;have e:=h x (by simp[bw.cv,aF.sl]);have k:=hx x (by simp);simp only[aV,af,e];generalize A.t x=u at k ⊢;cases u with
  |own n l=>simp only[ho n (by simpa[I.only] using k)]
  |_=>rfl
 ·rename_i n esz x;simp only[v6] at hm;subst hm;have e:=h x (by simp[bw.cv,aF.sl]);have k:=hx x (by simp);simp only[aV,af,e];generalize A.t x=u at k ⊢;cases u with
  |ptr n q=>simp only[dl (x:=.ptr n q) k]
  |ref c=>cases c <;>rfl
  |_=>rfl
 ·rename_i esz x lo hi mx;simp only[v6] at hm;subst hm;have e:=h x (by simp[bw.cv,aF.sl]);have e1:=nW (x:=lo) (fun m hm=>h m (by simp[bw.cv,hm]));have e2:=nW (x:=hi) (fun m hm=>h m (by simp[bw.cv,hm]));have e3:=nW (x:=mx) (fun m hm=>h m (by simp[bw.cv,hm]));have k:=hx x (by simp);simp only[aV,e1,e2,e3];generalize lo.map (af A)=w1;generalize hi.map (af A)=w2;generalize mx.map (af A)=w3;simp only[af,e];generalize A.t x=u at k ⊢;cases u with
  |view n q=>simp only[dl (x:=.ptr n q) (by simpa[I.only] using k)]
  |_=>rfl
 ·rename_i x;simp only[v6] at hm;subst hm;have e:=h x (by simp[bw.cv,aF.sl]);have k:=hx x (by simp);simp only[aV,af,e];generalize A.t x=u at k ⊢;cases u with
  |view n q=>simp only[dl (x:=.ptr n q) (by simpa[I.only] using k)]
  |_=>rfl
 ·rename_i ty z ok x kk;simp only[v6] at hm;subst hm;have e:=h x (by simp[bw.cv,aF.sl]);have ek:=cC (x:=kk) (fun m hm=>h m (by simp[bw.cv,hm]));have k:=hx x (by simp);simp only[aV,ek];generalize af A kk=w;simp only[af,e,WE ho k]
 ·rename_i x;simp only[v6] at hm;subst hm;have e:=h x (by simp[bw.cv,aF.sl]);have k:=hx x (by simp);simp only[aV,af,e];generalize A.t x=u at k ⊢;cases u with
  |own n l=>simp only[cT,ho n (by simpa[I.only] using k)]
  |view n q=>simp only[cT,dl (x:=.ptr n q) (by simpa[I.only] using k)]
  |_=>rfl
 ·rename_i esz ps;split at hm
  case isFalse=>cases hm
  rename_i hall;simp only[v6] at hm;subst hm;have hev:ps.map (af A')=ps.map (af A):=ke h;have hon:I.bR p (ps.map (af A))=true:=Cs fun x hx'=>by
   have h1:=zy6.1 hall x hx';cases x with
   |c _=>cases h1
   |t s=>exact hx s (by simp only[iK,List.mem_flatMap];exact ⟨_,hx',by simp[aF.sl]⟩)
  simp only[aV,hev,rC ho hon]
 ·rfl
 ·split at hm
  ·rename_i hc;exact jI hc.1
  ·cases hm
theorem xK{au:dY}{A:ab}{g:az}{p:Nat→Bool}(hi:dG au A)(h:qW au g p=true):∃ xs,lU g.op=some xs∧∀ s∈xs,(A.t s).only p=true:=by
 unfold qW at h;split at h
 case h_2=>cases h
 rename_i xs hm;refine ⟨xs,hm,fun s hs' =>?_⟩;have h1:=zy6.1 h s hs';split at h1
 case h_2=>cases h1
 rename_i ns hn;exact ju (fun n h2=>zy6.1 h1 n (by simpa using h2)) _ (hi s ns hn)
theorem fx.vq{A A':ab}{g:az}{v:I}{xs:List Nat}{p:Nat→Bool}(h:fx g A v)(hm:lU g.op=some xs)(ha:dq A A' g.cv)(hx:∀ s∈xs,(A.t s).only p=true)(ho:∀ n,p n=true→A'.o n=A.o n):fx g A' v:=by
 rcases h with ⟨h,rfl⟩ | ⟨h,k⟩
 ·exact .inl ⟨ox ha h,rfl⟩
 ·exact .inr ⟨lZ ha h,by rw[Ye hm (az.iV ha) hx ho];exact k⟩
theorem fx.rW{au:dY}{A:ab}{g:az}{v:I}(hi:dG au A)(hg:hZ au g=true)(h:fx g A v):dG au (A.aP g.dst v):=by
 rcases h with ⟨_,rfl⟩ | ⟨_,k⟩
 ·exact hi.put (fun _=>rfl) fun _ _ _ _=>rfl
 ·exact hi.put (fun _=>rfl) (Ck hi hg k)
theorem fx.cA{A A':ab}{g:az}{v:I}(h:fx g A v)(hu:du A A')(ha:dq A A' g.cv):fx g A' v:=by
 rcases h with ⟨h,rfl⟩ | ⟨h,k⟩
 ·exact .inl ⟨ox ha h,rfl⟩
 ·exact .inr ⟨lZ ha h,CG hu (az.iV ha) k⟩
theorem Bm{au:dY}{g h:az}(hi:mG hs au g h=true):il g.op=true∧mU hs au g h=true∧(∀ d,g.dst=some d→d∉h.cv)∧(∀ d,g.dst=some d→h.dst≠some d)∧(∀ d,h.dst=some d→d∉g.cv):=by
 simp only[mG,Z0] at hi;obtain ⟨h1,h2,h3,h4⟩:=hi;refine ⟨h1,h2,fun d hd =>?_,fun d hd =>?_,fun d hd =>?_⟩
 ·rw[hd] at h3;simp at h3;exact h3.1
 ·rw[hd] at h3;simp at h3;exact h3.2
 ·rw[hd] at h4;simpa using h4
theorem xQ{aI:Bool}{A A':ab}{ρ:List (Nat×Nat)}{os:List (Nat×ai)}(hu:du A A'):∀ {xs cs:List I},fU aI A ρ os xs cs→fU aI A' ρ os xs cs
 | [],[],_=>trivial
 |x::xs,c::cs,h=>⟨h.1.imp id fun h=>Aw hu h,xQ hu h.2⟩
 | [],_::_,h=>h.elim
 |_::_,[],h=>h.elim
theorem WM{A:ab}{d:Option Nat}{v:I}{ts:List (Nat×I)}{os:List (Nat×ai)}(h:A.aP d v=aq ts os):∃ ts2,A=aq ts2 os∧∀ X:List (Nat×ai),(aq ts2 X).aP d v=aq ts X:=by
 cases d with
 |none=>exact ⟨ts,h,fun _=>rfl⟩
 |some d =>
  have ht:∀ k,(A.aP (some d) v).t k=bP ts k:=fun k=>by rw[h];rfl
  have ho:A.o=aE os:=by
   have:(A.aP (some d) v).o=aE os:=by rw[h];rfl
   rwa [gz] at this
  refine ⟨(d,A.t d)::ts,?_,fun X =>?_⟩
  ·cases A with
   |mk t o =>
    simp only[aq,ab.mk.injEq];refine ⟨funext fun k =>?_,ho⟩;have:=ht k;simp only[ab.aP,ab.put] at this;simp only[bP];by_cases hk:k=d
    ·subst hk;simp
    ·rw[if_neg hk] at this;have hk':¬ d=k:=fun e=>hk e.symm;simp only[hk,if_false];exact this
  ·simp only[ab.aP,ab.put,aq,ab.mk.injEq,and_true]
   funext k
   have:=ht k;simp only[ab.aP,ab.put] at this;by_cases hk:k=d
   ·subst hk;simp at this ⊢;exact this
   ·have hk':¬ d=k:=fun e=>hk e.symm;simp only[bP,hk,if_false]
theorem X9{ρ:List (Nat×Nat)}{os0 os':List (Nat×ai)}{r:I}(hb:df false ρ [] os0 r os'){n:Nat}{x:ai}(hx:aE os0 n=some x):aE (cL ρ os'++os0) n=some x:=by
 rw[pW];cases hp:pre ρ os' n with
 |none=>exact hx
 |some m =>
  obtain ⟨h1,h2⟩:=iD hp;have:=(hb.oq m h1 (by simp[al,aE])).1;rw[h2,hx] at this;cases this
theorem bM.IE{A B:ab}{j:az}{v:I}{f:FuncId}{args:List aF}{dst:Option Nat}{rest:List az}(hj:il j.op=true)(hv:fx j A v)(hB:B=A.aP j.dst v)(hf:hs.contains f=false)(hag:dq A B (iK args))(hd:∀ d,j.dst=some d→dst≠some d)(hr:∀ d,dst=some d→d∉j.cv)
  (h:bM P Y hs K (.call f (args.map (af B)) (bL true B (args.map (af B))) (bL false B (args.map (af B))) dst rest B)):bM P Y hs K (.call f (args.map (af A)) (bL true A (args.map (af A))) (bL false A (args.map (af A))) dst (j::rest) A):=by
 have eo:B.o=A.o:=by rw[hB,gz]
 have cA:du B A:=fun n x hx=>by rwa [←eo]
 have up':du A B:=fun n x hx=>by rwa [eo]
 have eav:args.map (af B)=args.map (af A):=ke hag;rw[eav] at h;have cont:∀ r:I,bM P Y hs K (av rest (B.aP dst r))→bM P Y hs K (av (j::rest) (A.aP dst r)):=fun r hw=>by
  have h1:fx j (A.aP dst r) v:=hv.cA (fun n x hx=>by rwa [gz]) (lr hr);rw[h1.to hj,oD (fun d hd'=>fun e=>hd d e hd'),←hB];exact hw
 generalize e1:bL true B (args.map (af A))=a1 at h;generalize e2:bL false B (args.map (af A))=a2 at h;generalize hBm:B=B0 at h;cases h with
 |flat r hc hfl hw =>
  subst hBm;rw[ki cA e1];exact .flat r hc hfl (cont r hw)
 |lead r hc hw =>
  subst hBm;rw[ki cA e2];exact .lead r hc (cont r hw)
 |bB ρ cargs post hc hg ha hb hw =>
  rename_i ts os0;rw[hB] at hBm;obtain ⟨ts2,hA,hts⟩:=WM hBm;have hA':=hA;clear cont;subst hA;refine .bB ρ cargs post hc hg (xQ (A:=aq ts os0) (A':=aq ts2 os0) (fun n x hx=>hx) ha) hb fun r os' hp =>?_;have h1:fx j ((aq ts2 (cL ρ os'++os0)).aP dst (r.aO (bg ρ))) v:=hv.cA (fun n x hx=>by
   rw[gz];exact X9 (hb r os' hp) hx) (fun k hk=>by
    have:=lr (A:=aq ts2 (cL ρ os'++os0)) (v:=r.aO (bg ρ)) hr k hk;rw[this];rfl)
  rw[h1.to hj,oD (fun d hd'=>fun e=>hd d e hd'),hts];exact hw r os' hp
 |vF aI ρ os cargs post hfs =>
  rw[hf] at hfs;cases hfs
theorem bM.qz{au:dY}{A:ab}{j g:az}{rest:List az}(hinv:dG au A)(hi:mG hs au j g=true)(hw:bM P Y hs K (av (j::g::rest) A)):bM P Y hs K (av (g::j::rest) A):=by
 obtain ⟨hj,hl,i1,i2,i3⟩:=Bm hi;obtain ⟨v,hv,hw⟩:=bM.wL hj hw;have ag:dq (A.aP j.dst v) A g.cv:=(lr i1).symm;have ag':dq A (A.aP j.dst v) g.cv:=lr i1;have cA:du (A.aP j.dst v) A:=fun n x hx=>by rwa [gz] at hx
 have up':∀ (d:Option Nat) (u:I),du A (A.aP d u):=fun d u n x hx=>by rwa [gz]
 by_cases hsg:il g.op=true
 ·obtain ⟨u,hu,hw⟩:=bM.wL hsg hw;rw[(hu.cA cA ag).to hsg,(hv.cA (up' _ _) (lr i3)).to hj,←oD i2];exact hw
 ·-- the guard
  have guard:(fG (A.aP j.dst v) g∧av (g::rest) (A.aP j.dst v)=av rest ((A.aP j.dst v).aP g.dst .undef))∨(pass (A.aP j.dst v) g∧av (g::rest) (A.aP j.dst v)=aW (A.aP j.dst v) g.dst g.op rest (av rest))∨av (g::rest) (A.aP j.dst v)=.fail:=by
   cases hg:g.guard with
   |none=>exact .inr (.inl ⟨by simp only[pass,hg],by simp only[av,hg]⟩)
   |some tb =>
    obtain ⟨t,b⟩:=tb;cases ht:(A.aP j.dst v).t t with
    |bool b' =>
     by_cases hbb:b'=b
     ·subst hbb;have hp:pass (A.aP j.dst v) g:=by simp only[pass,hg,ht]
      exact .inr (.inl ⟨hp,mu hp⟩)
     ·have hn:fG (A.aP j.dst v) g:=by simp only[fG,hg];exact .inl (by rw[ht,ue hbb])
      exact .inl ⟨hn,qV hn⟩
    |undef =>
     have hn:fG (A.aP j.dst v) g:=by simp only[fG,hg];exact .inr ht
     exact .inl ⟨hn,qV hn⟩
    |_=>exact .inr (.inr (by simp only[av,hg,ht]))
  rcases guard with ⟨hn,he⟩ | ⟨hp,he⟩ | he
  ·rw[he] at hw;rw[qV (ox ag hn),(hv.cA (up' _ _) (lr i3)).to hj,←oD i2];exact hw
  ·rw[he] at hw;rw[mu (lZ ag hp)];obtain ⟨dst,op,gd⟩:=g;simp only at hw hsg i2 i3 ⊢;cases op with
   |alloc z =>
    cases dst with
    |none=>simp only[aW] at hw;cases hw
    |some d =>
    simp only[aW] at hw ⊢;split at hw
    case h_2=>cases hw
    rename_i ho;rw[gz] at ho;simp only[ho];have h1:fx j ((A.aS d (.box z)).put d (.ptr d [])) v:=hv.cA (fun n y hy=>by
     have:n≠d:=fun he=>by rw[he,ho] at hy;cases hy
     simp only[ab.put,ab.aS,this,if_false];exact hy) (fun k hk=>by
     have:k≠d:=fun he=>i3 d rfl (he▸hk);simp only[ab.put,ab.aS,this,if_false])
    rw[h1.to hj];have e:((A.aP j.dst v).aS d (.box z)).put d (.ptr d [])=((A.aS d (.box z)).put d (.ptr d [])).aP j.dst v:=by
     cases hgd:j.dst with
     |none=>rfl
     |some e =>
      have hne:e≠d:=fun he=>i2 e hgd (by rw[he]);simp only[ab.aP,ab.put,ab.aS,ab.mk.injEq,and_true]
      funext k
      by_cases h1:k=e <;>by_cases h2:k=d <;>simp_all
    rw[←e];exact hw
   |box x =>
    have ex:af (A.aP j.dst v) x=af A x:=cC (az.iV ag');cases dst with
    |none=>simp only[aW] at hw;cases hw
    |some d =>
    simp only[aW] at hw ⊢;split at hw
    case h_2=>cases hw
    rename_i ho;rw[gz] at ho;simp only[ho];rw[ex] at hw;split at hw
    case isFalse=>cases hw
    rename_i hval;rw[if_pos hval];have h1:fx j ((A.aS d (.box (af A x))).put d (.ptr d [])) v:=hv.cA (fun n y hy=>by
     have:n≠d:=fun he=>by rw[he,ho] at hy;cases hy
     simp only[ab.put,ab.aS,this,if_false];exact hy) (fun k hk=>by
     have:k≠d:=fun he=>i3 d rfl (he▸hk);simp only[ab.put,ab.aS,this,if_false])
    rw[h1.to hj];have e:((A.aP j.dst v).aS d (.box (af A x))).put d (.ptr d [])=((A.aS d (.box (af A x))).put d (.ptr d [])).aP j.dst v:=by
     cases hgd:j.dst with
     |none=>rfl
     |some e =>
      have hne:e≠d:=fun he=>i2 e hgd (by rw[he]);simp only[ab.aP,ab.put,ab.aS,ab.mk.injEq,and_true]
      funext k
      by_cases h1:k=e <;>by_cases h2:k=d <;>simp_all
    rw[←e];exact hw
   |eN x =>
    have ex:af (A.aP j.dst v) x=af A x:=cC (az.iV ag');simp only[aW] at hw ⊢;rw[ex] at hw;cases hse:lB (af A x) with
    |none=>rw[hse] at hw;simp only[ig] at hw;cases hw
    |some ys =>
    rw[hse] at hw;cases dst with
    |none=>simp only[ig] at hw;cases hw
    |some d =>
    simp only[ig] at hw ⊢;rw[gz] at hw;split at hw
    case h_2=>cases hw
    rename_i ho;refine .any fun m hm =>?_;have hw:=hw.qU m hm;generalize hbx:ai.box (.agg (ys++List.replicate m (.int .u8 0)))=aI at hw ⊢;generalize hvw:I.view d [] 1 0 ys.length=vw at hw ⊢;have h1:fx j ((A.aS d aI).aP (some d) vw) v:=hv.cA (fun n y hy=>by
     have:n≠d:=fun he=>by rw[he,ho] at hy;cases hy
     simp only[ab.aP,ab.put,ab.aS,this,if_false];exact hy) (fun k hk=>by
     have:k≠d:=fun he=>i3 d rfl (he▸hk);simp only[ab.aP,ab.put,ab.aS,this,if_false])
    rw[h1.to hj];have e:((A.aP j.dst v).aS d aI).aP (some d) vw=((A.aS d aI).aP (some d) vw).aP j.dst v:=by
     cases hgd:j.dst with
     |none=>rfl
     |some e =>
      have hne:e≠d:=fun he=>i2 e hgd (by rw[he]);simp only[ab.aP,ab.put,ab.aS,ab.mk.injEq,and_true]
      funext k
      by_cases h1:k=e <;>by_cases h2:k=d <;>simp_all
    rw[←e];exact hw
   |call f args =>
    simp only[aW] at hw ⊢;refine bM.IE hj hv rfl (by simpa[mU,oj] using hl) (az.iV ag') i2 i3 hw
   |aT s y u =>
    cases dst with
    |some d=>simp only[aW] at hw;cases hw
    |none =>
    have ey:af (A.aP j.dst v) y=af A y:=cC (az.iV ag').l;have eu:af (A.aP j.dst v) u=af A u:=cC (az.iV ag').r;simp only[aW] at hw ⊢;rw[ey,eu,gz] at hw;cases hx:af A y <;>simp only[hx] at hw ⊢ <;>try (cases hw;done)
    rename_i n q;cases ho:A.o n with
    |none=>rw[ho] at hw;cases hw
    |some ob =>
    rw[ho] at hw;cases ob <;>simp only at hw ⊢ <;>try (cases hw;done)
    rename_i b;cases hb:b.at q with
    |none=>rw[hb] at hw;cases hw
    |some old =>
    rw[hb] at hw;simp only at hw ⊢;split at hw
    case isFalse=>cases hw
    rename_i hok;rw[if_pos hok];have h1:fx j (A.aS n (.box (b.dy q (af A u)))) v:=by
     have none0:lU j.op=some []→fx j (A.aS n (.box (b.dy q (af A u)))) v:=fun hm=>hv.vq (p:=fun _=>false) hm (fun _ _=>rfl) (fun s hs'=>by cases hs') (fun m hm=>by cases hm);cases y with
     |c y =>
      simp only[mU,oj,il,Bool.false_or] at hl;split at hl
      ·rename_i hm;exact none0 hm
      ·cases hl
     |t y =>
      simp only[mU,oj,il,Bool.false_or] at hl;split at hl
      ·rename_i hm;exact none0 hm
      ·split at hl
       case h_2=>cases hl
       rename_i ms hms;obtain ⟨xs,hm,hx2⟩:=xK hinv hl;refine hv.vq hm (fun _ _=>rfl) hx2 fun m hm2 =>?_;have hn:=hinv y ms hms;simp only[af] at hx;rw[hx] at hn;have:m≠n:=fun e=>by subst e;simp[I.only] at hn hm2;exact hm2 hn
       simp only[ab.aS,if_neg this]
    rw[h1.to hj];have e:(A.aP j.dst v).aS n (.box (b.dy q (af A u)))=(A.aS n (.box (b.dy q (af A u)))).aP j.dst v:=by cases j.dst <;>rfl
    rw[←e];exact hw
   |dv e esz bytes z s x =>
    have hag:dq A (A.aP j.dst v) (s.sl++x.sl):=az.iV ag';have he2:aW (A.aP j.dst v) dst (.dv e esz bytes z s x) rest (av rest)=aW A dst (.dv e esz bytes z s x) (j::rest) fun B=>av rest (B.aP j.dst v):=by
     cases hjd:j.dst with
     |none=>rfl
     |some d =>
      rw[hjd] at hag;exact GG (fun e=>i2 d hjd e) hag rest (j::rest) (av rest)
    rw[he2] at hw;have jL:∀ B,qK A dst (af A s) B→av (j::rest) B=av rest (B.aP j.dst v):=fun B hB=>by
     have hagB:dq A B j.cv:=fun k hk=>hB.1 k fun e=>i3 k e hk;have:fx j B v:=by
      simp only[mU,oj,il,Bool.false_or,Bool.or_eq_true] at hl;rcases hl with hl | hl
      ·obtain ⟨xs,hm,hx2⟩:=xK hinv hl;exact hv.vq hm hagB hx2 fun m hm2=>by cases hm2
      ·have:=nw hinv hl;exact hv.cA (hB.2 (by simpa using this)) hagB
     rw[this.to hj]
    rcases xN A dst e esz bytes z s x (j::rest) with h1 | ⟨B,h1,h2⟩ | ⟨p,bo,h1,h2⟩
    ·rw[h1] at hw;cases hw
    ·rw[h1] at hw ⊢;rw[jL B h2];exact hw
    ·rw[h1] at hw ⊢;exact .any fun m hm=>by rw[jL _ (h2 m)];exact hw.qU m hm
   |_=>first | exact absurd rfl hsg | (simp[mU,oj,il] at hl)
  ·rw[he] at hw;cases hw
theorem bM.pk{au:dY}{g:az} : ∀ {l:List az} {r:List az} {A:ab},dG au A→(∀ j∈l,mG hs au j g=true∧hZ au j=true)→bM P Y hs K (av (l++g::r) A)→bM P Y hs K (av (g::(l++r)) A)
 | [],r,A,_,_,h=>h
 |j::l,r,A,hinv,hi,h=>by
  have hj:=(Bm (hi j (by simp)).1).1;obtain ⟨v,hv,h2⟩:=bM.wL (g:=j) (rest:=l++g::r) hj h;have h3:=bM.pk (l:=l) (r:=r) (hv.rW hinv (hi j (by simp)).2) (fun k hk=>hi k (by simp[hk])) h2;refine bM.qz hinv (hi j (by simp)).1 ?_;rw[hv.to hj];exact h3
end
def sy:List Nat→Bool
 | []=>true
 |a::l => !l.contains a&&sy l
def qQ(hs:List FuncId)(au:dY)(gs:List az)(cl:List Nat):List Nat→List Nat→Bool
 |_,[]=>true
 |before,i::σ=>(before.all fun j=>(cl.getD i 0).testBit j||mG hs au (gs.getD j default) (gs.getD i default))&&qQ hs au gs cl (i::before) σ
def sL(hs:List FuncId)(au:dY)(on:List (List Nat))(gs:List az)(cl:List Nat)(σ:List Nat):Bool :=
 (Nat.beq σ.length gs.length&&(sy σ&&(σ.all (fun i=>decide (i<gs.length))&&((List.range gs.length).all (fun i=>σ.contains i)&&gs.all fun g=>sI g.op&&hZ au g))))&&(qQ hs au gs cl [] σ&&(List.range gs.length).all fun i=>(on.getD i []).all (fun k=>decide (k<i))&&Nat.beq (cl.getD i 0) (ny cl (on.getD i [])))
theorem B7:∀ {l:List Nat},sy l=true→l.Nodup
 | [],_=>List.nodup_nil
 |a::l,h=>by
  simp only[sy,Z0,Bool.not_eq_true',List.contains_eq_mem,decide_eq_false_iff_not] at h;exact List.nodup_cons.2 ⟨h.1,B7 h.2⟩
theorem xH{hs:List FuncId}{au:dY}{gs:List az}{cl:List Nat} : ∀ {σ before:List Nat},qQ hs au gs cl before σ=true→∀ s1 i s2,σ=s1++i::s2→∀ j,j∈before∨j∈s1→(cl.getD i 0).testBit j=true∨mG hs au (gs.getD j default) (gs.getD i default)=true
 | [],_,_,s1,i,s2,e,_,_=>by cases s1 <;>cases e
 |a::σ,before,h,s1,i,s2,e,j,hj=>by
  simp only[qQ,Z0,zy6,Bool.or_eq_true] at h;cases s1 with
  |nil =>
   simp only[zz3,zz9] at e;obtain ⟨rfl,rfl⟩:=e;rcases hj with hj | hj
   ·exact h.1 j hj
   ·cases hj
  |cons b s1 =>
   simp only[zz2,zz9] at e;obtain ⟨rfl,rfl⟩:=e;refine xH h.2 s1 i s2 rfl j ?_;rcases hj with hj | hj
   ·exact .inl (List.mem_cons_of_mem _ hj)
   ·rcases zy8.1 hj with hj | hj
    ·exact .inl (by rw[hj];exact List.mem_cons_self)
    ·exact .inr hj
def ic(σ:List Nat)(listed:Array Bool):List Nat:=σ.filter fun i => !listed.getD i true
def mX(gs:List az)(σ:List Nat)(listed:Array Bool):List az:=(ic σ listed).map fun i=>gs.getD i default
theorem YB{σ:List Nat}{listed:Array Bool}{i:Nat}(hn:σ.Nodup)(hi:i∈σ)(hl:i<listed.size)(hu:listed.getD i true=false):∃ s1 s2,σ=s1++i::s2∧ic σ listed=(s1.filter fun j => !listed.getD j true)++i::(s2.filter fun j => !listed.getD j true) ∧
  ic σ (listed.setIfInBounds i true)=(s1.filter fun j => !listed.getD j true)++(s2.filter fun j => !listed.getD j true):=by
 obtain ⟨s1,s2,rfl⟩:=List.append_of_mem hi;have same:∀ j,j≠i→(listed.setIfInBounds i true).getD j true=listed.getD j true:=fun j hj=>getD_set_ne true (Ne.symm hj);have jM:(listed.setIfInBounds i true).getD i true=true:=by simp[hl]
 have hnd:=List.nodup_append.1 hn;have h1:∀ j∈s1,j≠i:=fun j hj=>hnd.2.2 j hj i List.mem_cons_self;have h2:∀ j∈s2,j≠i:=fun j hj e=>(List.nodup_cons.1 hnd.2.1).1 (e▸hj);refine ⟨s1,s2,rfl,?_,?_⟩
 ·simp only[ic,List.filter_append,List.filter_cons,hu,Bool.not_false,if_true]
 ·simp only[ic,List.filter_append,List.filter_cons,jM,Bool.not_true,Z4,if_false]
  congr 1
  ·exact List.filter_congr fun j hj=>by rw[same j (h1 j hj)]
  ·exact List.filter_congr fun j hj=>by rw[same j (h2 j hj)]
structure xC (hs:List FuncId) (au:dY) (l:List Oper) (gs:List az) (σ:List Nat):Prop where
 WW:σ.Nodup
 lt:∀ i∈σ,i<gs.length
 all:∀ i,i<gs.length→i∈σ
 ok:∀ g∈gs,sI g.op=true∧hZ au g=true
 len:σ.length=gs.length
 kU:∀ i o,l[i]?=some o→∀ k∈dN o,k<i
 vc:∀ (S:Nat→Prop),(∀ i o,l[i]?=some o→S i→∀ k∈dN o,S k)→∀ s1 i s2 o,σ=s1++i::s2→l[i]?=some o→(∀ k∈dN o,S k)→∀ j∈s1,¬ S j→mG hs au (gs.getD j default) (gs.getD i default)=true
theorem X5{hs:List FuncId}{au:dY}{l:List Oper}{gs:List az}{cl σ:List Nat}(hlen:gs.length=l.length)(h:sL hs au (l.map dN) gs cl σ=true):xC hs au l gs σ:=by
 simp only[sL,Z0,zy6,decide_eq_true_eq,List.mem_range,List.contains_eq_mem] at h;obtain ⟨⟨h1,h2,h3,h4,h5⟩,h6,h7⟩:=h;have aY:∀ i o,l[i]?=some o→(∀ k∈dN o,k<i)∧(∀ j,(cl.getD i 0).testBit j=true→j∈dN o∨∃ k∈dN o,(cl.getD k 0).testBit j=true):=by
  intro i o ho;have hi:i<l.length:=(Z6.1 ho).1;have h8:=h7 i (by omega);have hon:(l.map dN).getD i []=dN o:=by simp[zz5,ho]
  rw[hon] at h8;have hb:=Nat.eq_of_beq_eq_true h8.2;exact ⟨h8.1,fun j hj=>w6 (by rw[←hb];exact hj)⟩
 refine ⟨B7 h2,h3,h4,h5,Nat.eq_of_beq_eq_true h1,fun i o ho=>(aY i o ho).1,?_⟩;intro S hS s1 i s2 o e ho hon j hj hnj;have key:∀ n i o,i≤n→l[i]?=some o→(∀ k∈dN o,S k)→∀ j,(cl.getD i 0).testBit j=true→S j:=by
  intro n
  induction n with
  |zero =>
   intro i o hi ho hon j hj;obtain ⟨h8,h9⟩:=aY i o ho;rcases h9 j hj with h | ⟨k,hk,_⟩
   ·exact hon j h
   ·have:=h8 k hk;omega
  |succ n ih =>
   intro i o hi ho hon j hj;obtain ⟨h8,h9⟩:=aY i o ho;rcases h9 j hj with h | ⟨k,hk,hjk⟩
   ·exact hon j h
   ·have hki:=h8 k hk;have hkl:k<l.length:=Nat.lt_trans hki (Z6.1 ho).1;obtain ⟨ok,hok⟩:∃ ok,l[k]?=some ok:=⟨l[k],zz0 hkl⟩
    exact ih k ok (by omega) hok (hS k ok hok (hon k hk)) j hjk
 rcases xH h6 s1 i s2 e j (.inr hj) with h | h
 ·exact absurd (key i i o (Z7 _) ho hon j h) hnj
 ·exact h
section
variable {c:cn}
theorem UD{K:ab→Prop}{hs:List FuncId}{au:dY}{bf:Array Oper}{Q:Exit→Act→World→Prop}{o:Oper}{g:az}{rest:List az}{A:ab}{a:Act}{w:World}{Kw:Act→World→Prop}(hg:kX c.P c.n bf o=some g)(hi:dG au A)(ho:sI g.op=true∧hZ au g=true)(hwp:bM c.P c.Y hs K (av (g::rest) A))(hs':bC c A a w)
  (hK:∀ B a' w',bM c.P c.Y hs K (av rest B)→dG au B→bC c B a' w'→Kw a' w'):if Region.wanted o (yielded bf a.tmps) then o.wpIn c.bo 9 c.P a w Kw Q else (∀ f,o.about c.P w a.eval=some f→c.bo.fn f)∧Kw (a.put o.dst undef) w:=by
 obtain ⟨h1,h2,h3,h4⟩:=nN hg;have step:bM c.P c.Y hs K (aW A g.dst g.op rest (av rest))→o.wpIn c.bo 9 c.P a w Kw Q:=fun h =>
  rM h1 h2.symm (by rw[h2];exact h3) (bM.one (Y:=c.Y) hi ho.1 ho.2 h) hs' (fun B a' w' hw hs2=>by
   cases hw with
   |done hk=>exact hK B a' w' hk.1 hk.2 hs2)
 simp only[av] at hwp;rcases h4 with ⟨h5,h6⟩ | ⟨j,b,t,h5,h6,h7⟩
 ·rw[h6] at hwp;have hw:Region.wanted o (yielded bf a.tmps)=true:=by simp[Region.wanted,h5]
  rw[hw,if_pos rfl];exact step hwp
 ·rw[h7] at hwp;simp only at hwp;split at hwp
  ·rename_i b' hb';rw[rR hs' h5 h6 hb'];split at hwp
   ·rename_i hbb;subst hbb;simp only[BEq.rfl,if_true];exact step hwp
   ·rename_i hbb;have:(b'==b)=false:=by simpa using hbb
    rw[this];simp only[Z4,if_false];exact ⟨fun f _=>lh c f,hK _ _ _ hwp (hi.put (fun _=>rfl) fun _ _ _ _=>rfl) (by rw[h2];exact hs'.l9 h3)⟩
  ·rename_i hb';rw[rS hs' h5 h6 hb'];simp only[Z4,if_false];exact ⟨fun f _=>lh c f,hK _ _ _ hwp (hi.put (fun _=>rfl) fun _ _ _ _=>rfl) (by rw[h2];exact hs'.l9 h3)⟩
  ·cases hwp
theorem Gu{K:ab→Prop}{fs:List FuncId}{au:dY}{bf:Array Oper}{gs:List az}{σ:List Nat}{Q:Exit→Act→World→Prop}(hQ:∀ B a w,K B→bC c B a w→Q .normal a w)(hgs:fA c.P c.n bf bf.toList=some gs)(hd:xC fs au bf.toList gs σ) :
  ∀ (fuel:Nat) (listed:Array Bool) (A:ab) (a:Act) (w:World),listed.size=bf.size→(∀ i o,bf.toList[i]?=some o→listed.getD i false=true→∀ k∈dN o,listed.getD k false=true)→(ic σ listed).length≤fuel →
   dG au A→bM c.P c.Y fs K (av (mX gs σ listed) A)→bC c A a w→wpAnyIn c.bo 9 c.P .any bf Q fuel listed a w:=by
 obtain ⟨hlen,hat⟩:=lN hgs;have onOf_mem:∀ (o:Oper) (e:Edge),e∈o.after→Region.binds .any e=true→e.on∈dN o:=fun o e he hb=>by
  simp only[dN,zy3,List.mem_filter];exact ⟨e,⟨by simpa using he,hb⟩,rfl⟩
 have of_onOf:∀ (o:Oper) (k:Nat),k∈dN o→∃ e∈o.after,Region.binds .any e=true∧e.on=k:=fun o k hk=>by
  simp only[dN,zy3,List.mem_filter] at hk;obtain ⟨e,⟨h1,h2⟩,h3⟩:=hk;exact ⟨e,by simpa using h1,h2,h3⟩
 have hgl:gs.length=bf.size:=by rw[hlen,zy5]
 have last:∀ (listed:Array Bool) (A:ab) (a:Act) (w:World),listed.size=bf.size→Region.ready .any bf listed=[]→bM c.P c.Y fs K (av (mX gs σ listed) A)→bC c A a w→Q .normal a w:=by
  intro listed A a w hsz hr hwp hs;have hnone:ic σ listed=[]:=by
   have all:∀ n,∀ i,i<n→i<bf.size→listed.getD i true=true:=by
    intro n
    induction n with
    |zero=>intro i hi;omega
    |succ n ih =>
     intro i hi his;cases hb:listed.getD i true with
     |true=>rfl
     |false =>
      exfalso
      have ho:bf[i]?=some bf[i]:=zx6 his;have:i∈Region.ready .any bf listed:=mem_ready.2 ⟨hb,bf[i],ho,fun e he hbd=>by
       have hlt:=hd.kU i bf[i] (by simp) e.on (onOf_mem _ e he hbd);have h1:=ih e.on (by omega) (by omega);have h2:e.on<listed.size:=by omega
       simpa[Array.getD_eq_getD_getElem?,h2] using h1⟩
      rw[hr] at this;cases this
   simp only[ic];refine List.filter_eq_nil_iff.2 fun i hi =>?_;have:=all (i+1) i (by omega) (by rw[←hgl];exact hd.lt i hi);simp only[this,Bool.not_true,Z4,not_false_eq_true]
  simp only[mX,hnone,zz6,av] at hwp;cases hwp with
  |done hk=>exact hQ A a w hk hs
 intro fuel
 induction fuel with
 |zero =>
  intro listed A a w hsz hcl hcnt hinv hwp hs;have hnone:ic σ listed=[]:=List.length_eq_zero_iff.1 (by omega);have hr:Region.ready .any bf listed=[]:=by
   refine List.eq_nil_iff_forall_not_mem.2 fun i hi =>?_;obtain ⟨h1,o,ho,_⟩:=mem_ready.1 hi;have:i∈ic σ listed:=by
    simp only[ic,List.mem_filter,h1,Bool.not_false,and_true];exact hd.all i (by rw[hgl];exact (zz4.1 ho).1)
   rw[hnone] at this;cases this
  exact ⟨hr,last listed A a w hsz hr hwp hs⟩
 |succ fuel ih =>
  intro listed A a w hsz hcl hcnt hinv hwp hs;refine ⟨fun hr=>last listed A a w hsz hr hwp hs,fun i hi =>?_⟩;obtain ⟨hun,o,ho,hall⟩:=mem_ready.1 hi;have hin:i<bf.size:=(zz4.1 ho).1;obtain ⟨s1,s2,hσ,e1,e2⟩:=YB hd.WW (hd.all i (by omega)) (by omega) hun;have hol:bf.toList[i]?=some o:=by simpa using ho
  obtain ⟨g,hgi,hcg⟩:=hat i o hol;have hon:∀ k∈dN o,listed.getD k false=true:=fun k hk=>by
   obtain ⟨e,h1,h2,h3⟩:=of_onOf o k hk;exact h3▸hall e h1 h2
  have hgd:gs.getD i default=g:=by simp[zz5,hgi]
  have hwp':bM c.P c.Y fs K (av (g::mX gs σ (listed.setIfInBounds i true)) A):=by
   simp only[mX,e1,zy7,Z3,hgd] at hwp;simp only[mX,e2,zy7];refine bM.pk hinv (fun j hj =>?_) hwp;obtain ⟨k,hk,rfl⟩:=zy3.1 hj;obtain ⟨hk1,hk2⟩:=List.mem_filter.1 hk;have:=hd.vc (fun k=>listed.getD k false=true) hcl s1 i s2 o hσ hol hon k hk1 (by
    have hks:k<listed.size:=by
     have:=hd.lt k (by rw[hσ];exact List.mem_append_left _ hk1);omega
    simp[Array.getD_eq_getD_getElem?,hks] at hk2 ⊢;exact hk2)
   rw[hgd] at this;refine ⟨this,(hd.ok _ ?_).2⟩;have hkl:=hd.lt k (by rw[hσ];exact List.mem_append_left _ hk1);rw[zz5,zz0 hkl];exact List.getElem_mem _
  unfold wpOpIn;rw[ho];refine UD hcg hinv (hd.ok g (List.mem_of_getElem? hgi)) hwp' hs fun B a' w' hw hiB hs'=>ih _ B a' w' (by simpa using hsz) ?_ ?_ hiB hw hs'
  ·intro m om hom hm k hk;by_cases hmi:m=i
   ·subst hmi;rw[hol,v6] at hom;subst hom;exact getD_set_true (hon k hk)
   ·rw[getD_set_ne false (Ne.symm hmi)] at hm;exact getD_set_true (hcl m om hom hm k hk)
  ·have:(ic σ listed).length=(ic σ (listed.setIfInBounds i true)).length+1:=by
    rw[e1,e2];simp;omega
   omega
def jW(σ:List Nat)(gs:List az):List az:=σ.map fun i=>gs.getD i default
theorem U.Yy{Q:Exit→ab→Prop}{A:ab}{on:List (List Nat)}{gs:List az}(hs:List FuncId)(au:dY)(cl σ:List Nat)(hd:sL hs au on gs cl σ=true)(hi:dG au A)(h:∀ K:ab→Prop,(∀ B,Q .normal B→K B)→bM c.P c.Y hs K (av (jW σ gs) A)):U c (.bU (some on) gs) Q A:=by
 intro code hc a w hs';cases code <;>simp only[dQ] at hc <;>try (first | (cases hc;done) | ((repeat' split at hc) <;>cases hc;done))
 rename_i id bf draw;split at hc
 ·rename_i gs' hgs;split at hc
  case isFalse=>cases hc
  rename_i hok;simp only[v6,bj.bU.injEq] at hc;obtain ⟨he,rfl⟩:=hc;cases draw with
  |false=>cases he
  |true =>
   simp only[cond_true,v6] at he;subst he;simp only[Bool.not_true,Bool.false_or] at hok;have hp:=X5 (lN hgs).1 hd;refine wpIn_region_any hok (Gu (K:=Q .normal) (fun B a w hk hs=>⟨B,hk,hs⟩) hgs hp bf.size (Array.replicate bf.size false) A a _ (by simp) ?_ ?_ hi ?_ ?_)
   ·intro i o _ h
    exfalso
    simp only[Array.getD_eq_getD_getElem?,Array.getElem?_replicate] at h;split at h <;>simp at h
   ·refine Nat.le_trans (List.length_filter_le _ _) ?_;rw[hp.len,(lN hgs).1,zy5];exact Z7 _
   ·have hall:ic σ (Array.replicate bf.size false)=σ:=by
     simp only[ic];refine List.filter_eq_self.2 fun i hi =>?_;have h1:=hp.lt i hi;rw[(lN hgs).1,zy5] at h1;simp[h1]
    simp only[mX,hall];exact h _ fun _ hb=>hb
   ·obtain ⟨D,E,hs'⟩:=hs';exact ⟨D,E,hs'.grow (w' := { w with drawn:=w.drawn+1 }) ⟨rfl,rfl,rfl,Z7 _,fun _ _=>rfl⟩ (fun _ _ h=>h) (fun _ _ h _=>h) (fun b o h=>hs'.cO b o h)⟩
 ·cases hc
def jl(ts:List (Nat×I)):dY→Prop
 | []=>True
 |(s,ns)::au=>(bP ts s).only (fun n=>ns.contains n)=true∧jl ts au
theorem dG.of{ts:List (Nat×I)}{os:List (Nat×ai)}{au:dY}(h:jl ts au):dG au (aq ts os):=by
 intro s ns hn;simp only[aq]
 induction au with
 |nil=>cases hn
 |cons q au ih =>
  obtain ⟨s',ns'⟩:=q;simp only[jl] at h;simp only[gN,List.find?_cons] at hn;split at hn
  ·rename_i e;simp only[Z8,v6] at hn;simp only[beq_iff_eq] at e;subst e hn;exact h.1
  ·exact ih h.2 hn
end
end Go.Abs
namespace Go.Abs
open Go Go.RowKit
open Enc (enc)
theorem YZ{P:Program}(w:World)(tS tR e:TypeId)(ht:P.underlying tS=some (.slice e))(size:Nat)(hz:∀ w,(Go.sizeOf e).run P w=.ok size w)
  (a b:Addr) (la ca lb cb:Nat) (hne:a.block≠b.block) (tA tB:TypeId) (kA kB:Nat) (hsa:w.shape? a.block=some (tA,kA+1)) (hsb:w.shape? b.block=some (tB,kB+1)) (hfb:w.frozen? b=false) (hfe:w.frozen? { block:=b.block,off:=kB+1 } = false) :
  (Extern.SlicesOverlaps.overlaps #[tS,tS] #[tR] #[.slice (some a) la ca,.slice (some b) lb cb]).run P w=.ok (.bool false) w:=by
 have hnb:(a.block != b.block)=true:=by simpa using hne
 have hnb':(a.block==b.block)=false:=by simpa using hne
 change Sem.run P (α:=Value) (do
  let some t := (#[tS, tS] : Array TypeId)[0]? | stuck "slices.overlaps: no parameter types"
  let .slice elem ← underlying t | stuck "slices.overlaps: slice type expected"
  let size ←sizeOf elem
  match (some a:Option Addr),(some b:Option Addr) with
  |some a,some b =>
   if la=0∨lb=0∨size=0 then pure (Value.bool false)
   else if a.block != b.block&&(←frozen a)&&(←frozen b) then unsupported .addressObserved
   else do
    if a.block != b.block then do
     noView a;noView b
     if ← mayBeOne a b then return Value.bool ((← choose (.extern "sameAddr.stringBytes" 2)) == 1)
    pure (Value.bool (a.block==b.block&&a.off<b.off+lb*size&&b.off<a.off+la*size))
  |_,_=>pure (Value.bool false)) w=_
 by_cases h0:la=0∨lb=0∨size=0
 ·simp[run_underlying ht,hz,h0]
 ·cases hfa:w.frozen? a <;>cases hfk:w.frozen? { block:=a.block,off:=kA+1 } <;>
   simp[run_underlying ht,hz,h0,hnb,hnb',frozen,noView,viewAt,mayBeOne,stringish,shape,Sem.run,hsa,hsb,hfa,hfb,hfe,hfk]
theorem El{P:Program}(w:World)(tS tR e:TypeId)(ht:P.underlying tS=some (.slice e))(size:Nat)(hz:∀ w,(Go.sizeOf e).run P w=.ok size w)(a:Option Addr)(b:Addr)(ca lb cb:Nat) :
  (Extern.SlicesOverlaps.overlaps #[tS,tS] #[tR] #[.slice a 0 ca,.slice (some b) lb cb]).run P w=.ok (.bool false) w:=by
 cases a with
 |none =>
  change Sem.run P (α:=Value) (do
   let some t := (#[tS, tS] : Array TypeId)[0]? | stuck "slices.overlaps: no parameter types"
   let .slice elem ← underlying t | stuck "slices.overlaps: slice type expected"
   let size ←sizeOf elem
   pure (Value.bool false)) w=_
  simp[run_underlying ht,hz]
 |some a =>
  change Sem.run P (α:=Value) (do
   let some t := (#[tS, tS] : Array TypeId)[0]? | stuck "slices.overlaps: no parameter types"
   let .slice elem ← underlying t | stuck "slices.overlaps: slice type expected"
   let size ←sizeOf elem
   if (0:Nat)=0∨lb=0∨size=0 then pure (Value.bool false)
   else if a.block != b.block&&(←frozen a)&&(←frozen b) then unsupported .addressObserved
   else do
    if a.block != b.block then do
     noView a;noView b
     if ← mayBeOne a b then return Value.bool ((← choose (.extern "sameAddr.stringBytes" 2)) == 1)
    pure (Value.bool (a.block==b.block&&a.off<b.off+lb*size&&b.off<a.off+0*size))) w=_
  simp[run_underlying ht,hz]
theorem Y9{w:World}{b o:Nat}{v:Value}(h:w.cell? ⟨b,o,none⟩=some v):∃ t k,w.shape? b=some (t,k+1):=by
 simp only[World.cell?] at h;cases hb:w.heap[b]? with
 |none=>rw[hb] at h;cases h
 |some ob =>
  rw[hb] at h;cases ob with
  |cells cs T fr =>
   simp only at h;have hlt:o<cs.size:=(zz4.1 (by simpa using h)).1;exact ⟨T,cs.size-1,by simp only[World.shape?,hb];congr 2;omega⟩
  |_=>cases h
theorem AF{α:Type}[Enc α]{xs:List α}(h:xs≠[])(hs:(Enc.aK α).Bu=false):(I.agg (xs.map Enc.enc)).aK.flat=false:=by
 cases xs with
 |nil=>exact absurd rfl h
 |cons x xs=>simp only[Z3,I.aK,I.cF,bS.flat,List.all_cons,Enc.iI,hs,Bool.false_and]
theorem ZM {P : Program} {f : FuncId} {fn : Func} {tS tR e : TypeId} (hf : P.funcs[f]? = some fn) (hname : (fn.name == "runtime.NumGoroutine") = false) (hb : fn.body.isNone = true) (hn : Extern.findNext fn = none) (he : Extern.find fn = some (Extern.SlicesOverlaps.overlaps #[tS, tS] #[tR]))
  (ht:P.underlying tS=some (.slice e)) (hi:(P.info? e).isSome=true) {A:ab} {n sz sz' lo k:Nat} {p:List Nat} {y:I} {es fs:List I} (hA:A.o n=some (.box y)) (hat:y.at p=some (.agg fs)) (hy:y.size≠0) (hsz:sz'≠0) (hfl:y.aK.flat=false):xF P A f [.slice sz' es,.view n p sz lo k] (.bool false):=by
 intro c a w D E vs hP hs hargs;subst hP;obtain ⟨i,hi⟩:=zz7.1 hi;have hz:∀ w,(Go.sizeOf e).run c.P w=.ok i.size w:=fun w=>by simp[sizeOf,typeInfo,hi]
 cases hargs with
 |cons h1 hrest =>
  cases hrest with
  |cons h2 hnil =>
   cases hnil;rename_i v1 v2;refine ⟨.bool false,?_,km false⟩;rw[run_callFunc_extern hf hname hb hn he];obtain ⟨ad,cap,rfl,c1,c2,c3,c4⟩:=kH h1;obtain ⟨y',b,cs,T,off,d1,d2,d3,q1,q2,q3,q4,q5,q6,q7,q8,q9,q10,q11,q12,rfl⟩:=hs.view (fs:=fs) h2 (by simp only[bZ,hA,hat]);rw[hA] at q1;simp only[v6,ai.box.injEq] at q1;subst q1;rcases c3 with rfl | ⟨b1,off1,cs1,rfl,r1,iF⟩
   ·rw[zx1,El w tS tR e ht i.size hz];rfl
   ·cases es with
    |nil=>rw[zx1,El w tS tR e ht i.size hz];rfl
    |cons e0 es =>
     have hl:=aH.length _ _ iF;have he0:=c4 e0 (by simp);have hpos:0<cs1.length:=by rw[hl];simp only[I.sizes];omega
     have hc:=r1 0 cs1[0] (zz0 hpos);obtain ⟨tA,kA,hsa⟩:=Y9 hc.1;have ho:=hs.bB n;rw[hA] at ho;obtain ⟨b',cs',T',k1,k2,k3,k4,k5⟩:=ho;rw[q2] at k1;simp only[v6,bx.aI.injEq,and_true] at k1;subst k1;have hne:b1≠b:=fun e1=>k5 _ (e1▸hc.2);have hcs:cs.size≠0:=by
      have:=ae.length _ _ q9;rw[zy5] at this;omega
     replace q3:=q3.plain hfl
     obtain ⟨kB,hkB⟩:∃ kB,cs.size=kB+1:=⟨cs.size-1,by omega⟩
     rw[YZ w tS tR e ht i.size hz ⟨b1,off1,none⟩ ⟨b,off+lo*sz,none⟩ _ _ _ _ hne tA T kA kB hsa (by simp only[World.shape?,q3,hkB]) (by simp[World.frozen?,q3]) (by simp[World.frozen?,q3])];rfl
noncomputable def tW(A:ab)(d:Option Nat)(esz bytes:Nat)(z s:I)(rest:List az):I→b9
 | .int _ m=>pc A d esz bytes z m.toNat s (cT A esz s) (av rest)
 |_=>.fail
theorem W7(A:ab)(d:Option Nat)(rest:List az)(e esz bytes:Nat)(z:I)(s n:aF):bq A d (.jA e esz bytes z s n) rest=tW A d esz bytes z (af A s) rest (af A n):=by
 simp only[bq,aW];cases af A n <;>rfl
theorem XI(A:ab)(d:Option Nat)(rest:List az)(f:FuncId)(args:List aF):bq A d (.gE f args) rest=.gE f (args.map (af A)) d rest A:=rfl
def ri(A:ab):I→Option I
 | .nils _ | .c0 _=>some (.int .i64 ((0:Nat):Int))
 | .view n p _ lo _=>match eB (dH p (A.o n)) with
  |some fs=>some (.int .i64 ((fs.length-lo:Nat):Int))
  |none=>none
 |_=>none
theorem Xe(A:ab)(d:Option Nat)(rest:List az)(x:aF):bq A d (.cap x) rest=cm (ri A (af A x)) (cE d rest A):=by
 simp only[bq,aW,aV];cases af A x <;>try rfl
 rename_i n p sz l0 k;simp only[ri,jF,fE];cases dH p (A.o n) with
 |none=>rfl
 |some c=>cases c <;>rfl
theorem lW(A:ab)(d:Option Nat)(rest:List az)(esz:Nat)(x y:aF):bq A d (.fW esz x y) rest=kb A d esz (av rest) (af A x) (j2 A esz (af A y)):=rfl
section
variable {α:Type} [Enc α] {P:Program} {Y:Value→List I→List (Nat×ai)→cd→Prop} {K:ab→Prop} {A:ab} {rest:List az} {esz bytes:Nat}
theorem IK{n lo k sz:Nat}{xs:List α}(ho:A.o n=some (.box (.agg (xs.map enc)))):ri A (.view n [] sz lo k)=some (.int .i64 ((xs.length-lo:Nat):Int)):=by
 have h2:(I.agg (xs.map (enc (α:=α)))).at []=some (.agg (xs.map enc)):=rfl;simp only[ri,dH,ho,h2,eB,I.dc,Z2]
theorem nq{n lo k:Nat}{xs:List α}(ho:A.o n=some (.box (.agg (xs.map enc))))(h:lo+k≤xs.length):cT A esz (.view n [] esz lo k)=some (((xs.drop lo).take k).map enc):=by
 have h1:bZ A (.ptr n [])=some (.agg (xs.map enc)):=by simp only[bZ,ho];rfl
 simp only[cT,h1,Z2];rw[if_pos ⟨h,trivial⟩,List.map_take,List.map_drop]
theorem wG{xs ys:List α}(h:xs.length=ys.length):I.cF (xs.map enc)=I.cF (ys.map enc):=by
 rw[wH,wH,h]
theorem nR{d:Option Nat}{n lo l c:Nat}{xs ys:List α}(ho:A.o n=some (.box (.agg (xs.map enc))))(hl:lo+l≤xs.length)(hc:min ys.length l=c) :
  kb A d esz (av rest) (.view n [] esz lo l) (some (ys.map enc))=av rest ((A.aS n (.box (.agg ((xs.take lo++(ys.take c++xs.drop (lo+c))).map enc)))).aP d (.int .i64 (c:Nat))):=by
 have h2:(I.agg (xs.map (enc (α:=α)))).at []=some (.agg (xs.map enc)):=rfl;have h1:I.cF ((ys.map (enc (α:=α))).take c)=I.cF (((xs.map (enc (α:=α))).drop lo).take c):=by
  rw[←List.map_take,←List.map_drop,←List.map_take];exact wG (by rw[Z9,Z9,List.length_drop];omega)
 have hc':min (ys.map (enc (α:=α))).length l=c:=by rw[Z2];exact hc
 simp only[kb,ho,h2,hc'];rw[if_pos ⟨rfl,by rw[hc'];exact h1⟩];have h3:((ys.map (enc (α:=α))).take c).length=c:=by rw[Z9,Z2];omega
 simp only[ij,fI,h3,zy7,List.map_take,List.map_drop]
theorem aZ.GI{d:Nat}(z:α)(hs:Enc.sz α=esz){n l m:Nat}{xs:List α}(ho:A.o n=some (.box (.agg (xs.map enc))))(hl:l≤xs.length)(hm:0<m)(hr:xs.length<l+m)(hf:A.o d=none)(hb:(l+m)*bytes≤140737488355328)(hml:l+m≤maxLen)
  (h:∀ q,aZ P Y false K (av rest ((A.aS d (.box (.agg ((xs.take l++(List.replicate m z++List.replicate q z)).map enc)))).aP (some d) (.view d [] esz 0 (l+m))))):aZ P Y false K (tW A (some d) esz bytes (enc z) (.view n [] esz 0 l) rest (.int .i64 (m:Nat))):=by
 have h1:=nq (A:=A) (esz:=esz) (lo:=0) (k:=l) ho (by omega);have h2:(I.agg (xs.map (enc (α:=α)))).at []=some (.agg (xs.map enc)):=rfl;have h4:(xs.take l).length=l:=by rw[Z9];omega
 simp only[tW,h1,List.drop_zero,pc,ho,h2,Z2,Int.toNat_natCast];rw[if_pos ⟨hm,by omega⟩];simp only[eZ,hf,Z2,h4,List.length_replicate];rw[if_pos ⟨hb,hml⟩];refine .any rfl fun q _ =>?_;have:=h q;simp only[zy7,List.map_replicate] at this;exact this
theorem xM{d:Option Nat}{e:Nat}(z:I)(hs:Enc.sz α=esz){n l:Nat}{xs ys:List α}(hy:ys≠[])(ho:A.o n=some (.box (.agg (xs.map enc))))(hr:l+ys.length≤xs.length) :
  eU A d e esz bytes z (enc ys) rest (.view n [] esz 0 l)=av rest ((A.aS n (.box (.agg ((xs.take l++(ys++xs.drop (l+ys.length))).map enc)))).aP d (.view n [] esz 0 (l+ys.length))):=by
 have h1:=nq (A:=A) (esz:=esz) (lo:=0) (k:=l) ho (by omega);have h2:(I.agg (xs.map (enc (α:=α)))).at []=some (.agg (xs.map enc)):=rfl;have h3:I.cF (ys.map (enc (α:=α)))=I.cF (((xs.map (enc (α:=α))).drop l).take ys.length):=by
  rw[←List.map_drop,←List.map_take];exact wG (by rw[Z9,List.length_drop];omega)
 simp only[eU,h1,kJ A esz ys hs,dZ];rw[if_neg (by simpa using hy)];simp only[ho,h2,Z2,Z5];rw[if_pos hr,if_pos ⟨rfl,by rw[Z2,Z5];exact h3⟩];simp only[ij,fI,Z2,zy7,List.map_take,List.map_drop]
theorem aZ.Gy{d e:Nat}(z:α)(hs:Enc.sz α=esz){n l:Nat}{xs ys:List α}(hy:ys≠[])(ho:A.o n=some (.box (.agg (xs.map enc))))(hl:l≤xs.length)(hr:xs.length<l+ys.length)(hf:A.o d=none)(hb:(l+ys.length)*bytes≤140737488355328)(hml:l+ys.length≤maxLen)
  (h:∀ q,aZ P Y false K (av rest ((A.aS d (.box (.agg ((xs.take l++(ys++List.replicate q z)).map enc)))).aP (some d) (.view d [] esz 0 (l+ys.length))))):aZ P Y false K (eU A (some d) e esz bytes (enc z) (enc ys) rest (.view n [] esz 0 l)):=by
 have h1:=nq (A:=A) (esz:=esz) (lo:=0) (k:=l) ho (by omega);have h2:(I.agg (xs.map (enc (α:=α)))).at []=some (.agg (xs.map enc)):=rfl;have h4:(xs.take l).length=l:=by rw[Z9];omega
 simp only[eU,h1,List.drop_zero,kJ A esz ys hs,dZ];rw[if_neg (by simpa using hy)];simp only[ho,h2,Z2,Z5];rw[if_neg (by omega)];simp only[eZ,hf,Z2,h4];rw[if_pos ⟨hb,hml⟩];refine .any rfl fun q _ =>?_;have:=h q;simp only[zy7,List.map_replicate] at this;exact this
theorem aZ.Gz{d e q0:Nat}(z:α){l:List α}(hs:Enc.sz α=esz)(hl:l≠[])(hf:A.o d=none)(hb:l.length*bytes≤140737488355328)(hml:l.length≤maxLen)
  (h:∀ m,aZ P Y false K (av rest ((A.aS d (.box (.agg ((l++List.replicate m z).map enc)))).aP (some d) (.view d [] esz 0 l.length)))):aZ P Y false K (eU A (some d) e esz bytes (enc z) (enc l) rest (.nils q0)):=by
 have hne:l.map (enc (α:=α))≠[]:=by simpa using hl
 have h1:cT A esz (.nils q0)=some []:=rfl;simp only[eU,h1,kJ A esz l hs,dZ,if_neg hne,eZ,hf,zx1,Z5,Z2,if_pos (y6 hb hml),zz3];refine .any rfl fun m _ =>?_;have:=h m;simp only[zy7,List.map_replicate] at this;exact this
end
theorem Zd{n:Nat}{p:List Nat}{sz k total i:Nat}(h:i≤k)(hk:k≤total):∃ y,iJ n p sz 0 k total (some (.int .i64 i)) none none=some y:=by
 simp only[iJ,gq];rw[if_pos ⟨by omega,by omega,by omega⟩];split <;>exact ⟨_,rfl⟩
theorem vr(k:Nat):bP [] k=.cV:=rfl
def gb(au:List Nat):List (Nat×I)→List (Nat×I)
 | []=>[]
 |(s,v)::ts=>if au.contains s=true then (s,v)::gb au ts else gb au ts
theorem Wb(au:List Nat):gb au []=[]:=rfl
theorem Wa(au:List Nat)(s:Nat)(v:I)(ts:List (Nat×I)):gb au ((s,v)::ts)=if au.contains s=true then (s,v)::gb au ts else gb au ts:=rfl
theorem BV(au:List Nat)(t:Nat):∀ ts,bP (gb au ts) t=.cV∨bP (gb au ts) t=bP ts t
 | []=>.inl rfl
 |(s,v)::ts=>by
  simp only[gb];have ih:=BV au t ts;by_cases hs:au.contains s=true
  ·rw[if_pos hs];simp only[bP];split
   ·exact .inr rfl
   ·exact ih
  ·rw[if_neg hs];simp only[bP];split
   ·rename_i e;subst e
    left
    have:∀ ts,bP (gb au ts) t=.cV:=by
     intro ts
     induction ts with
     |nil=>rfl
     |cons q ts ih2 =>
      obtain ⟨s',v'⟩:=q;simp only[gb];split
      ·rename_i h';simp only[bP];have:t≠s':=fun e=>hs (e▸h');rw[if_neg this];exact ih2
      ·exact ih2
    exact this ts
   ·exact ih
theorem U.pP(au:List Nat){c:cn}{x:bj}{Q:Exit→ab→Prop}{ts:List (Nat×I)}{os:List (Nat×ai)}(h:U c x Q (aq (gb au ts) os)):U c x Q (aq ts os):=by
 refine U.sub ?_ h;rintro cc a w ⟨D,E,hs⟩;refine ⟨D,E,hs.sz,hs.eb,fun t =>?_,hs.de,hs.cK,hs.cO,hs.bB,hs.cz,hs.dw,hs.eD,hs.cA,hs.eS,hs.ft⟩;simp only[aq];rcases BV au t ts with e | e
 ·rw[e];simp[aR]
 ·rw[e];exact hs.dF t
theorem Bz:(∀ au,gb au []=[])∧(∀ au s v ts,gb au ((s,v)::ts)=if au.contains s=true then (s,v)::gb au ts else gb au ts)∧(∀ (a:Nat) l b,(a::l).contains b=(b==a||l.contains b))∧(∀ b:Nat,([]:List Nat).contains b=false)∧(∀ b,(false||b)=b)∧(∀ b,(true||b)=true)∧(∀ b,(b||true)=true)∧(∀ b,(b||false)=b)∧((false=true)=False) :=
 ⟨Wb,Wa,fun _ _ _=>List.contains_cons,fun _=>rfl,fun _=>rfl,fun _=>rfl,fun b=>by cases b <;>rfl,fun b=>by cases b <;>rfl,by simp⟩
end Go.Abs
namespace Go.Abs
open Go Go.RowKit
open Enc (enc)
def vt:Option ai→Option (List I×List I)
 |some (.cg ks vs)=>some (ks,vs)
 |_=>none
noncomputable def vC(A:ab)(n:Nat)(rest:List az):Option (List I×List I)→b9
 |some (ks,vs)=>av rest (A.aS n (.cg ks vs))
 |none=>.fail
noncomputable def vB(A:ab)(n:Nat)(ty:cj)(k v:I)(rest:List az):Option ai→b9
 |some (.cg ks vs)=>vC A n rest (pY ty k v ks vs)
 |_=>.fail
noncomputable def vA(A:ab)(ty:cj)(k v:I)(rest:List az):I→b9
 | .mref n=>vB A n ty k v rest (A.o n)
 |_=>.fail
noncomputable def vz(A:ab)(d:Nat)(rest:List az):Option ai→b9
 |none=>av rest ((A.aS d (.cg [] [])).put d (.mref d))
 |some _=>.fail
open Classical in
noncomputable def su(A:ab)(d bytes:Nat)(z:I)(rest:List az):I→b9
 | .int _ n=>if 0≤n∧n.toNat*bytes≤281474976710656∧n.toNat≤maxLen then av rest ((A.aS d (.box (.agg (List.replicate n.toNat z)))).put d (.view d [] 1 0 n.toNat)) else .fail
 |_=>.fail
noncomputable def sr(A:ab)(d bytes:Nat)(z n:I)(rest:List az):Option ai→b9
 |none=>su A d bytes z rest n
 |some _=>.fail
noncomputable def wi(A:ab)(d:Nat)(rest:List az):I→b9
 | .cY ks vs=>av rest ((A.aS d (.it ks vs (List.range ks.length) none)).put d (.cU d))
 |_=>.fail
noncomputable def s8(A:ab)(d:Nat)(x:I)(rest:List az):Option ai→b9
 |none=>wi A d rest x
 |some _=>.fail
def uG:Option ai→Option I
 |some (.it ks vs _ cur)=>rv ks vs cur
 |_=>none
def uF(A:ab):I→Option I
 | .cU n=>uG (A.o n)
 |_=>none
open Classical in
noncomputable def B9(A:ab)(d:Option Nat)(n:Nat)(rest:List az):Option ai→b9
 |some (.it ks vs left _)=>if left=[] then av rest (A.aP d (.tuple [.bool false])) else
   .any (fun i=>i∈left) fun i=>match ks[i]?,vs[i]? with
    |some kk,some x=>av rest ((A.aS n (.it ks vs (left.filter (· != i)) (some i))).aP d (.tuple [.bool true,kk,x]))
    |_,_=>.fail
 |_=>.fail
noncomputable def vE(A:ab)(d:Option Nat)(rest:List az):I→b9
 | .cU n=>B9 A d n rest (A.o n)
 |_=>.fail
section
variable (d:Option Nat) (rest:List az) (A:ab)
theorem Xy(x:aF):bq A d (.nilC x) rest=cm (mM (af A x)) (cE d rest A):=rfl
theorem XC(neg:Bool)(x y:aF):bq A d (.ptrE neg x y) rest=cm (l8 neg (hG (af A x)) (hG (af A y))) (cE d rest A):=rfl
theorem Xs(ty:cj)(z:I)(ok:Bool)(m k:aF):bq A d (.lk ty z ok m k) rest=cm (pS ty z ok (af A k) (fQ A (af A m))) (cE d rest A):=rfl
theorem WH(n:Nat):fQ A (.mref n)=vt (A.o n):=by
 simp only[fQ];cases A.o n with
 |none=>rfl
 |some y=>cases y <;>rfl
theorem Xw(ty:cj)(m k v:aF):bq A none (.jR ty m k v) rest=vA A ty (af A k) (af A v) rest (af A m):=by
 simp only[bq,aW];cases af A m <;>rfl
theorem Xu(d:Nat):bq A (some d) .kp rest=vz A d rest (A.o d):=by
 simp only[bq,aW];cases A.o d <;>rfl
theorem Xv(d e bytes:Nat)(z:I)(n:aF):bq A (some d) (.jt e bytes z n) rest=sr A d bytes z (af A n) rest (A.o d):=by
 simp only[bq,aW];cases A.o d with
 |some _=>rfl
 |none=>simp only[sr];cases af A n <;>rfl
theorem XD(d:Nat)(x:aF):bq A (some d) (.jZ x) rest=s8 A d (af A x) rest (A.o d):=by
 simp only[bq,aW];cases A.o d with
 |some _=>rfl
 |none=>simp only[s8];cases af A x <;>rfl
theorem Xh(x:aF):bq A d (.ent x) rest=cm (uF A (af A x)) (cE d rest A):=by
 simp only[bq,aW,aV];cases af A x <;>rfl
theorem XA(x:aF):bq A d (.jS x) rest=vE A d rest (af A x):=by
 simp only[bq,aW];cases af A x <;>rfl
end
theorem si :
  (∀ d rest A x,bq A d (.nilC x) rest=cm (mM (af A x)) (cE d rest A))∧(∀ n p,mM (.ptr n p)=some (.ptr n p))∧(∀ x,mM (.ref x)=some (.ref x)) ∧
  (∀ d rest A neg x y,bq A d (.ptrE neg x y) rest=cm (l8 neg (hG (af A x)) (hG (af A y))) (cE d rest A))∧(hG .nilp=some true)∧(∀ n p,hG (.ptr n p)=some false)∧(∀ x,hG (.ref x)=some false) ∧
  (l8 false (some true) (some true)=some (.bool true))∧(l8 false (some false) (some true)=some (.bool false))∧(l8 true (some true) (some true)=some (.bool false))∧(l8 true (some false) (some true)=some (.bool true)) ∧
  (∀ d rest A ty z ok m k,bq A d (.lk ty z ok m k) rest=cm (pS ty z ok (af A k) (fQ A (af A m))) (cE d rest A))∧(∀ A n,fQ A (.mref n)=vt (A.o n))∧(∀ A ks vs,fQ A (.cY ks vs)=some (ks,vs))∧(∀ ks vs,vt (some (.cg ks vs))=some (ks,vs)) ∧
  (∀ ty z ok k ks vs,pS ty z ok k (some (ks,vs))=pT ok (pU ty z k ks vs))∧(∀ v b,pT false (some (v,b))=some v)∧(∀ v b,pT true (some (v,b))=some (.tuple [v,.bool b])) ∧
  (∀ rest A ty m k v,bq A none (.jR ty m k v) rest=vA A ty (af A k) (af A v) rest (af A m))∧(∀ A ty k v rest n,vA A ty k v rest (.mref n)=vB A n ty k v rest (A.o n))∧(∀ A n ty k v rest ks vs,vB A n ty k v rest (some (.cg ks vs))=vC A n rest (pY ty k v ks vs)) ∧
  (∀ A n rest ks vs,vC A n rest (some (ks,vs))=av rest (A.aS n (.cg ks vs))) ∧
  (∀ rest A d,bq A (some d) .kp rest=vz A d rest (A.o d))∧(∀ A d rest,vz A d rest none=av rest ((A.aS d (.cg [] [])).put d (.mref d))) ∧
  (∀ rest A d e bytes z n,bq A (some d) (.jt e bytes z n) rest=sr A d bytes z (af A n) rest (A.o d))∧(∀ A d bytes z n rest,sr A d bytes z n rest none=su A d bytes z rest n) ∧
  (∀ rest A d x,bq A (some d) (.jZ x) rest=s8 A d (af A x) rest (A.o d))∧(∀ A d x rest,s8 A d x rest none=wi A d rest x)∧(∀ A d rest ks vs,wi A d rest (.cY ks vs)=av rest ((A.aS d (.it ks vs (List.range ks.length) none)).put d (.cU d))) ∧
  (∀ d rest A x,bq A d (.ent x) rest=cm (uF A (af A x)) (cE d rest A))∧(∀ A n,uF A (.cU n)=uG (A.o n))∧(∀ ks vs l cur,uG (some (.it ks vs l cur))=rv ks vs cur) ∧
  (∀ d rest A x,bq A d (.jS x) rest=vE A d rest (af A x))∧(∀ A d rest n,vE A d rest (.cU n)=B9 A d n rest (A.o n)) :=
 ⟨Xy,fun _ _=>rfl,fun _=>rfl,XC,rfl,fun _ _=>rfl,fun _=>rfl,rfl,rfl,rfl,rfl,Xs,WH,fun _ _ _=>rfl,fun _ _=>rfl,fun _ _ _ _ _ _=>rfl,fun _ _=>rfl,fun _ _=>rfl,
  fun rest A ty m k v=>Xw rest A ty m k v,fun _ _ _ _ _ _=>rfl,fun _ _ _ _ _ _ _ _=>rfl,fun _ _ _ _ _=>rfl,fun rest A d=>Xu rest A d,fun _ _ _=>rfl,fun rest A d e bytes z n=>Xv rest A d e bytes z n,fun _ _ _ _ _ _=>rfl,
  fun rest A d x=>XD rest A d x,fun _ _ _ _=>rfl,fun _ _ _ _ _=>rfl,Xh,fun _ _=>rfl,fun _ _ _ _=>rfl,XA,fun _ _ _ _=>rfl⟩
theorem sv{A:ab}{d bytes:Nat}{z:I}{rest:List az}{n:Nat}(h1:n*bytes≤281474976710656)(h2:n≤maxLen):su A d bytes z rest (.int .i64 n)=av rest ((A.aS d (.box (.agg (List.replicate n z)))).put d (.view d [] 1 0 n)):=by
 simp only[su,Int.toNat_natCast];rw[if_pos ⟨Int.natCast_nonneg n,h1,h2⟩]
section
variable {α:Type} [Enc α]
theorem Zo{A:ab}{n i:Nat}{xs:List α}(v u:α){rest:List az}(hA:Enc.gw α=false)(h:i<xs.length):eO A none n [i] (.agg (xs.map enc)) (enc v) rest (some (enc u))=av rest (A.aS n (.box (.agg ((xs.set i v).map enc)))):=by
 rw[fK (e9 v) (by rw[Mj,hA];rfl) ((eK v).trans (eK u).symm)];have h2:(xs.map (enc (α:=α)))[i]?=some (enc (xs[i])):=by simp[h]
 simp only[I.dy,h2,List.map_set]
end
theorem V0{m sz lo l i:Nat}{fs:List I}(h:i<l):mH m [] sz lo l sz (i:Int) (some fs)=some (.ptr m [lo+i]):=by rw[VZ h];rfl
theorem zE:(∀ {α:Type} [Enc α] (x:α),(enc x).bz=true)∧(∀ n p z lo k,(I.view n p z lo k).bz=false)∧(∀ n,(I.mref n).bz=false)∧(∀ n p,(I.ptr n p).bz=false)∧(∀ n k,(I.own n k).bz=false) :=
 ⟨@jG,fun _ _ _ _ _=>rfl,fun _=>rfl,fun _ _=>rfl,fun _ _=>rfl⟩
end Go.Abs
namespace Go.Abs
open Go Go.RowKit
def rj(on:List (List Nat)):List Nat:=on.foldl (fun acc ks=>acc++[ny acc ks]) []
def uB(d:Option (List (List Nat)))(gs:List az):Bool:=match d with
 |none=>true
 |some on=>ru on gs (rj on)
section
variable {c:cn} {Q:Exit→ab→Prop} {A:ab} {d:Option (List (List Nat))} {on:List (List Nat)} {gs:List az}
theorem U.gS(hd:uB d gs=true)(h:∀ K:ab→Prop,(∀ B,Q .normal B→K B)→aZ c.P c.Y d.isSome K (av gs A)):U c (.bU d gs) Q A:=by
 cases d with
 |none=>exact U.bU (cl:=[]) rfl h
 |some on=>exact U.bU (cl:=rj on) hd h
theorem U.dE{y:bj}(hd:uB d gs=true)(h:∀ K:ab→Prop,(∀ B,U c y Q B→K B)→aZ c.P c.Y d.isSome K (av gs A)):U c (.seq (.bU d gs) y) Q A :=
 U.seq (U.gS hd h)
theorem U.lv(hs:List FuncId)(au:dY)(σ:List Nat)(hd:sL hs au on gs (rj on) σ=true)(hi:dG au A)(h:∀ K:ab→Prop,(∀ B,Q .normal B→K B)→bM c.P c.Y hs K (av (jW σ gs) A)):U c (.bU (some on) gs) Q A :=
 U.Yy hs au (rj on) σ hd hi h
def fL(c:cn):bj→(Exit→ab→Prop)→ab→Prop
 | .seq x y,Q,A=>fL c x (cH (fun B=>U c y Q B) Q) A
 | .block id x,Q,A=>fL c x (kW id Q) A
 | .skip,Q,A=>Q .normal A
 | .exit id,Q,A=>Q (.exit id) A
 | .ret,Q,A=>Q .ret A
 | .cond b x y,Q,A=>aj (af A b) (U c x Q A) (U c y Q A)
 |x,Q,A=>U c x Q A
def VX:bj→Bool
 | .seq _ _ | .block _ _ | .skip | .exit _ | .ret | .cond _ _ _=>true
 |_=>false
theorem fL.tZ:∀ (x:bj) {Q:Exit→ab→Prop} {A:ab},fL c x Q A→U c x Q A
 | .seq x y,_,_,h=>U.seq (fL.tZ x h)
 | .block id x,_,_,h=>U.block (fL.tZ x h)
 | .skip,_,_,h=>U.skip h
 | .exit _,_,_,h=>U.exit h
 | .ret,_,_,h=>U.ret h
 | .cond _ _ _,_,_,h=>U.gM h
 | .bU _ _,_,_,h | .loop _,_,_,h | .scope _,_,_,h | .label,_,_,h | .ph,_,_,h | .nh _ _ _ _,_,_,h=>h
theorem U.of{x:bj}(_:VX x=true)(h:fL c x Q A):U c x Q A:=fL.tZ x h
theorem aD :
  (∀ c x y Q A,fL c (.seq x y) Q A=fL c x (cH (fun B=>U c y Q B) Q) A)∧(∀ c id x Q A,fL c (.block id x) Q A=fL c x (kW id Q) A)∧(∀ c Q A,fL c .skip Q A=Q .normal A)∧(∀ c id Q A,fL c (.exit id) Q A=Q (.exit id) A)∧(∀ c Q A,fL c .ret Q A=Q .ret A) ∧
  (∀ c b x y Q A,fL c (.cond b x y) Q A=aj (af A b) (U c x Q A) (U c y Q A))∧(∀ c d gs Q A,fL c (.bU d gs) Q A=U c (.bU d gs) Q A)∧(∀ c x Q A,fL c (.loop x) Q A=U c (.loop x) Q A)∧(∀ c f ps x y Q A,fL c (.nh f ps x y) Q A=U c (.nh f ps x y) Q A) ∧
  (∀ k Q A,cH k Q .normal A=k A)∧(∀ k Q A,cH k Q .ret A=Q .ret A)∧(∀ k Q A i,cH k Q (.exit i) A=Q (.exit i) A)∧(∀ i Q A,kW i Q .normal A=Q .normal A)∧(∀ i Q A,kW i Q .ret A=Q .ret A)∧(∀ i Q A j,kW i Q (.exit j) A=if j=i then Q .normal A else Q (.exit j) A) ∧
  (∀ p q,aj (.bool true) p q=p)∧(∀ p q,aj (.bool false) p q=q)∧(type_of% @Bz) :=
 ⟨fun _ _ _ _ _=>rfl,fun _ _ _ _ _=>rfl,fun _ _ _=>rfl,fun _ _ _ _=>rfl,fun _ _ _=>rfl,fun _ _ _ _ _ _=>rfl,fun _ _ _ _ _=>rfl,fun _ _ _ _=>rfl,fun _ _ _ _ _ _ _=>rfl,fun _ _ _=>rfl,fun _ _ _=>rfl,fun _ _ _ _=>rfl,fun _ _ _=>rfl,fun _ _ _=>rfl,fun _ _ _ _=>rfl,
  fun p q=>by simp[aj],fun p q=>by simp[aj],Bz⟩
theorem aj.aB{t:Bool}{p q:Prop}(h1:t=true→p)(h2:t=false→q):aj (.bool t) p q:=⟨h1,h2⟩
theorem U.aC{g:az}{r:List az}(hd:uB d gs=true)(e:gs=g::r)(h:∀ K:ab→Prop,(∀ B,Q .normal B→K B)→aZ c.P c.Y d.isSome K (av (g::r) A)):U c (.bU d gs) Q A :=
 U.gS hd (e▸h)
theorem aZ.aA(au:List Nat){P:Program}{Y:Value→List I→List (Nat×ai)→cd→Prop}{dr:Bool}{x:bj}{K:ab→Prop}{ts:List (Nat×I)}{os:List (Nat×ai)}(hK:∀ B,U c x Q B→K B)(h:U c x Q (aq (gb au ts) os)):aZ P Y dr K (.done (aq ts os)) :=
 .done (hK _ (U.pP au h))
theorem bM.aA(au:List Nat){P:Program}{Y:Value→List I→List (Nat×ai)→cd→Prop}{hs:List FuncId}{x:bj}{K:ab→Prop}{ts:List (Nat×I)}{os:List (Nat×ai)}(hK:∀ B,U c x Q B→K B)(h:U c x Q (aq (gb au ts) os)):bM P Y hs K (.done (aq ts os)) :=
 .done (hK _ (U.pP au h))
end
section
variable {c:cn} {A:ab} {o:Oper}
theorem zo{P:Program}{m:Nat}{bf:Array Oper}{l:List Oper}{gs:List az}(h:fA P m bf (o::l)=some gs):∃ g gs',gs=g::gs'∧kX P m bf o=some g∧fA P m bf l=some gs':=by
 simp only[fA] at h;split at h
 ·rename_i g gs' h1 h2;simp only[v6] at h;exact ⟨g,gs',h.symm,h1,h2⟩
 ·cases h
end
def ta(P:Program)(f:FuncId)(ch:List PanicEntry)(vs:Array Value)(w:World)(R:Ending→World→Prop):Prop :=
 Calls P f vs w fun e w'=>e=.panicked ch∧R (.returned (.tuple #[])) w'
theorem ta.mono{P:Program}{f:FuncId}{ch:List PanicEntry}{vs:Array Value}{w:World}{R R':Ending→World→Prop}(h:ta P f ch vs w R)(hr:∀ e w',R e w'→R' e w'):ta P f ch vs w R' :=
 Calls.mono h fun _ _ q=>⟨q.1,hr _ _ q.2⟩
def oC(post:List (Nat×ai)→Prop):cd:=fun r os'=>r=.tuple []∧post os'
def oU(P:Program)(f:FuncId)(ch:List PanicEntry)(args:List I)(os:List (Nat×ai))(post:List (Nat×ai)→Prop):Prop :=
 dR P f=true∧mi (ta P f ch) (fun w _ E=>eH P w (bY E)) args os (oC post)
def vS(ch:List PanicEntry)(post:List (Nat×ai)→Prop):Exit→ab→Prop
 | .panic ch',A=>ch'=ch∧iN [] (oC post) A
 |_,_=>False
theorem BN{P:Program}{n:Nat}{w:World}{D:aJ}{E:aN}{Y:Value→List I→List (Nat×ai)→cd→Prop}{post:List (Nat×ai)→Prop}{fn:Func}{A:ab}{D':aJ}{E':aN}{ch:List PanicEntry}(h:iN [] (oC post) A){R:World→Prop}(hR:∀ v w',kQ w D E (oC post) v w'→R w') :
  ∀ (ds:List Deferred) (a:Act) (w':World),a.defers=ds→aL ⟨P,w,D,n,bY E,E,Y,none,none⟩ A a w' D' E'→LeavesInM Fence.wide 9 P fn a.tmps (fun e w'=>e=.panicked ch∧R w') ds (.panicking ch) w'
 | [],a,w',_,hs=>by
  obtain ⟨v,h1,h2⟩:=hs.r7 (fn := { fn with results := #[] }) (rs:=[]) rfl h;exact ⟨rfl,hR v w' h2⟩
 |d::ds,a,w',hd,hs=>by
  obtain ⟨Bs,h1,_⟩:=hs.eb;rw[hd] at h1;cases Bs with
  |nil=>cases h1
  |cons B Bs =>
   simp only[Z3,zz9] at h1;obtain ⟨rfl,rfl⟩:=h1;obtain ⟨k1,k2⟩:=hs.zF rfl hd;exact ⟨by simp,.inl ⟨B,_,rfl,run_takeDeferred k1,BN h hR _ { a with defers:=Bs.map _ } _ rfl k2⟩⟩
theorem Wu{w:World}{D:aJ}{E:aN}{post:List (Nat×ai)→Prop}{v:Value}{w':World}(h:kQ w D E (oC post) v w'):∃ v' D' E' r os',Ending.returned (.tuple #[])=.returned v'∧oC post r os'∧aR w' D' E' r v'∧jd (fun b=>w.heap.size≤b∨bY E b) w' D' E' (aE os') ∧
   ez (fun b=>w.heap.size≤b∨bY E b) w w'∧(∀ b o,D b o→D' b o)∧(∀ b o,D' b o→b<w'.heap.size)∧(∀ b o,D' b o→b<w.heap.size→¬ bY E b→D b o) ∧
   (∀ n e,E n=some e→al os' n=true→∃ e',E' n=some e'∧e.fk e')∧fT w D w':=by
 obtain ⟨D',E',r,os',h1,h2,h3⟩:=h;refine ⟨_,D',E',r,os',rfl,h1,?_,h3⟩;obtain ⟨rfl,_⟩:=h1;simp only[aR];exact ⟨[],by simp,by simp[ar]⟩
theorem oU.mk{P:Program}{f:FuncId}{fn:Func}{x:bj}{ch:List PanicEntry}{args:List I}{os:List (Nat×ai)}{post:List (Nat×ai)→Prop}(hf:P.funcs[f]?=some fn)(hcall:dR P f=true)(hc:(fn.body.bind (dQ P fn.ntmps))=some x)
  (hn:args.length≤fn.ntmps) (hn2:fn.ntmps≤1000000) (hos:∀ m,al os m=true→1000000≤m) (h:I.gD args→∀ (w:World) (D:aJ) (E:aN),U ⟨P,w,D,fn.ntmps,bY E,E,fp,none,none⟩ x (vS ch post) (aq (bD 0 args) os)):oU P f ch args os post:=by
 obtain ⟨body,hb,hc'⟩:=zx5.1 hc;refine ⟨hcall,fun w D E vs hl hD ho hv =>?_⟩;have hlen:=qm hv;have hsim:=wR (P:=P) (n:=fn.ntmps) (Y:=fp) hD ho hv (by omega) (fun m hm=>⟨Nat.le_trans hn2 (hos m hm),hos m hm⟩) (oS hl);refine (callsIn_wide (n:=9)).1 (callsIn_of_wp_marks hf hb trivial ?_);refine wpIn_mono (((h (oJ _ _ hv) w D E).sub (tn args os)) body hc' _ w ⟨D,E,hsim⟩) ?_;rintro e a w' ⟨A,hq,D',E',hs⟩;cases e <;>simp only[vS] at hq
 obtain ⟨rfl,hq⟩:=hq;exact BN hq (fun v w' h=>Wu h) a.defers a w' rfl hs
section
variable {c:cn} {A:ab} {Q:Exit→ab→Prop}
theorem rP{dr:Bool}{K:ab→Prop}{bf:Array Oper}{Q:Exit→Act→World→Prop}{l2:List Oper}(hQ:∀ B a w,K B→bC c B a w→wpListIn c.bo 9 c.P bf Q l2 a w):∀ (l:List Oper) (gs:List az) (A:ab) (a:Act) (w:World),fA c.P c.n bf l=some gs→aZ c.P c.Y dr K (av gs A) →
  bC c A a w→wpListIn c.bo 9 c.P bf Q (l++l2) a w
 | [],gs,A,a,w,hc,hwp,hs=>by
  simp only[fA,v6] at hc;subst hc;simp only[av] at hwp;cases hwp with
  |done hk=>exact hQ A a w hk hs
 |o::l,gs,A,a,w,hc,hwp,hs=>by
  simp only[fA] at hc;split at hc
  case h_2=>cases hc
  rename_i g gs' hg hgs;simp only[v6] at hc;subst hc;obtain ⟨h1,h2,h3,h4⟩:=nN hg;have step:aZ c.P c.Y dr K (aW A g.dst g.op gs' (av gs'))→o.wpIn c.bo 9 c.P a w (wpListIn c.bo 9 c.P bf Q (l++l2)) Q:=fun h =>
   rM h1 h2.symm (by rw[h2];exact h3) h hs (fun B a' w' hw hs'=>rP hQ l gs' B a' w' hgs hw hs')
  simp only[zz2,wpListIn];simp only[av] at hwp;rcases h4 with ⟨h5,h6⟩ | ⟨j,b,t,h5,h6,h7⟩
  ·rw[h6] at hwp;have hw:Region.wanted o (yielded bf a.tmps)=true:=by simp[Region.wanted,h5]
   rw[hw,if_pos rfl];exact step hwp
  ·rw[h7] at hwp;simp only at hwp;split at hwp
   ·rename_i b' hb';rw[rR hs h5 h6 hb'];split at hwp
    ·rename_i hbb;subst hbb;simp only[BEq.rfl,if_true];exact step hwp
    ·rename_i hbb;have:(b'==b)=false:=by simpa using hbb
     rw[this];simp only[Z4,if_false];exact ⟨fun f _=>lh c f,rP hQ l gs' _ _ w hgs hwp (by rw[h2];exact hs.l9 h3)⟩
   ·rename_i hb';rw[rS hs h5 h6 hb'];simp only[Z4,if_false];exact ⟨fun f _=>lh c f,rP hQ l gs' _ _ w hgs hwp (by rw[h2];exact hs.l9 h3)⟩
   ·cases hwp
theorem zn{P:Program}{m:Nat}{bf:Array Oper}{g:az}{gs2:List az} : ∀ {l:List Oper} {gs1:List az},fA P m bf l=some (gs1++g::gs2)→∃ l1 o l2,l=l1++o::l2∧fA P m bf l1=some gs1∧kX P m bf o=some g
 | [],gs1,h=>by simp[fA] at h
 |o::l,[],h=>by
  obtain ⟨g',gs',e,h1,h2⟩:=zo h;simp only[zz3,zz9] at e;obtain ⟨rfl,rfl⟩:=e;exact ⟨[],o,l,rfl,rfl,h1⟩
 |o::l,k::gs1,h=>by
  obtain ⟨g',gs',e,h1,h2⟩:=zo h;simp only[zz2,zz9] at e;obtain ⟨rfl,rfl⟩:=e;obtain ⟨l1,o',l2,rfl,q1,q2⟩:=zn h2;exact ⟨o::l1,o',l2,rfl,by simp only[fA,h1,q1],q2⟩
inductive o7 (P:Program) (Q:Exit→ab→Prop) (f:FuncId) (avs:List I):ab→Prop where
 |mk {ts:List (Nat×I)} {os0:List (Nat×ai)} (aI:Bool) (ρ:List (Nat×Nat)) (os:List (Nat×ai)) (cargs:List I) (ch:List PanicEntry) (post:List (Nat×ai)→Prop):oU P f ch cargs os post→eP ρ os os0→fU aI (aq ts (c7 (iB ρ os) os0)) ρ os avs cargs →
  (∀ os',post os'→df aI ρ os os0 (.tuple []) os')→(∀ os',post os'→Q (.panic ch) (aq ts (cL ρ os'++os0)))→o7 P Q f avs (aq ts os0)
inductive lL (P:Program) (Q:Exit→ab→Prop):bw→ab→Prop where
 |call {f:FuncId} {args:List aF} {A:ab} : o7 P Q f (args.map (af A)) A→lL P Q (.call f args) A
 |fj {x:aF} {args:List aF} {f:Nat} {caps:List I} {A:ab} : af A x=.func f caps→o7 P Q (kg f) (gL f (args.map (af A)) caps) A→lL P Q (.fj x args) A
 |ky {x:aF} {t:TypeId} {A:ab} : af A x=.iface t (.agg [])→Q (.panic [{ v:=.iface t (.agg #[]),recovered:=false }]) A→lL P Q (.prim .ky [x]) A
theorem vT{o:Oper}{g:bw}{f:FuncId}{avs:List I}{vs:List Value}{a:Act}{w:World}{D:aJ}{E:aN}{Kw:Act→World→Prop}(hop0:cB c.P o=some g)(h:o7 c.P Q f avs A)(hs:aL c A a w D E)(hall:dW (aR w D E) avs vs)
  (hrun:dR c.P f=true→(execOp a.eval o).run c.P w=.ok (.enter f vs.toArray) w):o.wpIn c.bo 9 c.P a w Kw (r9 c Q):=by
 cases h with
 |mk aI ρ os cargs ch post hspec hgv ha hb hrest =>
  have hu:=hspec.2.use hs aI (fun h=>h.mono) ⟨fun _ _=>hs.oh,fun _=>hs.oh⟩ hgv ha (fun r os' hp=>by obtain ⟨rfl,hp⟩:=hp;exact hb os' hp) hall;refine ⟨jf,?_⟩;rw[jy hop0,hrun hspec.1,Oper.uponIn_enter];refine ⟨uy c,zA (Calls.mono hu ?_)⟩;rintro e w' ⟨rfl,v,r,os',D2,E2,he,⟨rfl,hp⟩,hs',hv,_⟩;exact ⟨_,hrest os' hp,D2,E2,hs'⟩
theorem X4{o:Oper}{g:bw}{a:Act}{w:World}{Kw:Act→World→Prop}(hop:cB c.P o=some g)(h:lL c.P Q g A)(hsim:bC c A a w):o.wpIn c.bo 9 c.P a w Kw (r9 c Q):=by
 have hop0:=hop;obtain ⟨D,E,hs⟩:=hsim;cases h with
 |call h =>
  unfold cB at hop;split at hop <;>try (first | (simp at hop;done) | ((repeat' split at hop) <;>simp at hop;done))
  rename_i f' xs ts ho;split at hop
  case isFalse=>simp at hop
  simp only[t7,bw.call.injEq] at hop;obtain ⟨ys,hys,rfl,rfl⟩:=hop;have e:xs.map a.eval=(xs.toList.map a.eval).toArray:=by apply Array.ext';simp
  refine vT (vs:=xs.toList.map a.eval) hop0 h hs (j7 hs xs.toList ts.toList ys hys) fun hc =>?_;simp only[execOp,ho,resolve,Act.eval,Deferred.ofValue,Sem.run_bind,Sem.run_pure,Result.andThen_ok,invoke,Array.append_empty,Array.empty_append,ma hc];rw[←e]
 |fj hx h =>
  rename_i x args f caps;unfold cB at hop;split at hop <;>try (first | (simp at hop;done) | ((repeat' split at hop) <;>simp at hop;done))
  rename_i y xs ts _ ho;split at hop
  case h_2=>cases hop
  rename_i y' ys h1 h2;simp only[v6,bw.fj.injEq] at hop;obtain ⟨rfl,rfl⟩:=hop;have hv:=br hs h1;rw[hx] at hv;obtain ⟨cs,q1,q2⟩:=hv;simp only[ae] at q2;obtain ⟨vs,q3,q4⟩:=q2;have hval:a.eval y=iT f vs:=by simpa[ba,I.isAgg,q3] using q1.symm
  have e:xs.map a.eval=(xs.toList.map a.eval).toArray:=by apply Array.ext';simp
  have hargs:=j7 hs xs.toList ts.toList ys h2;rcases Nat.lt_or_ge f 1000000 with hf | hf
  ·rw[uO hf,uN hf] at h;rw[lQ hf] at hval;refine vT (vs:=xs.toList.map a.eval++vs) hop0 h hs (hargs.append (oH q4)) fun hc =>?_;simp only[execOp,ho,resolve,hval,Deferred.ofValue,Sem.run_bind,Sem.run_pure,Result.andThen_ok,invoke,Array.empty_append,ma hc];rw[e];simp
  ·obtain ⟨g,rfl⟩:∃ g:Nat,f=g+1000000:=⟨Nat.sub f 1000000,(Nat.sub_add_cancel hf).symm⟩
   rw[Ao,An] at h;rw[pC] at hval;refine vT (vs:=vs++xs.toList.map a.eval) hop0 h hs ((oH q4).append hargs) fun hc =>?_;simp only[execOp,ho,resolve,hval,Deferred.ofValue,Sem.run_bind,Sem.run_pure,Result.andThen_ok,invoke,Array.append_empty,ma hc];rw[e];simp

 |ky hx hq =>
  rename_i x t;unfold cB at hop;split at hop <;>try (first | (simp at hop;done) | ((repeat' split at hop) <;>simp at hop;done))
  rename_i x0 ho;simp only[t7,bw.prim.injEq,zz9,and_true,true_and] at hop;obtain ⟨y,hy,rfl⟩:=hop;have hv:=br hs hy;rw[hx] at hv;obtain ⟨cs,q1,q2⟩:=hv;simp only[ae] at q2;obtain ⟨u,cs',q3,q4,q5⟩:=q2;simp only[aH] at q5;subst q5;have hu:u=.agg #[]:=by simpa[ba,I.isAgg] using q4
  have hval:a.eval x0=.iface t (.agg #[]):=by simpa[ba,I.isAgg,q3,hu] using q1.symm
  have hrun:(execOp a.eval o).run c.P w=.halt (.panic (.iface t (.agg #[]))) w:=by simp[execOp,ho,hval,Instr.panic,goPanic]
  refine ⟨jf,?_⟩;rw[jy hop0,hrun,Oper.uponIn_panic];exact ⟨A,hq,D,E,hs⟩
theorem U.Yx{gs:List az}(k:Nat){g:bw}{dst:Option Nat}(hk:gs=gs.take k++⟨dst,g,none⟩::gs.drop (k+1))(h:∀ K:ab→Prop,(∀ B,lL c.P Q g B→K B)→aZ c.P c.Y false K (av (gs.take k) A)):U c (.bU none gs) Q A:=by
 intro code hc a w hs;cases code <;>simp only[dQ] at hc <;>try (first | (cases hc;done) | ((repeat' split at hc) <;>cases hc;done))
 rename_i id bf draw;split at hc
 case h_2=>cases hc
 rename_i gs' hgs;split at hc
 case isFalse=>cases hc
 simp only[v6,bj.bU.injEq] at hc;obtain ⟨hdr,rfl⟩:=hc;cases draw with
 |true=>simp at hdr
 |false =>
  refine wpIn_region_list ?_;rw[hk] at hgs;obtain ⟨l1,o,l2,hl,h1,h2⟩:=zn hgs;rw[hl];refine rP (K:=lL c.P Q g) (fun B a' w' hp hs' =>?_) l1 _ A a w h1 (h _ fun _ hb=>hb) hs;obtain ⟨q1,q2,q3,q4⟩:=nN h2;have wn:Region.wanted o (yielded bf a'.tmps)=true:=by
   rcases q4 with ⟨a5,_⟩ | ⟨_,_,_,_,_,a5⟩
   ·simp[Region.wanted,a5]
   ·simp at a5
  simp only[wpListIn,wn,if_true];exact X4 q1 hp hs'
theorem U.lx{gs gs1 gs2:List az}{g:bw}{dst:Option Nat}(e:gs=gs1++⟨dst,g,none⟩::gs2)(h:∀ K:ab→Prop,(∀ B,lL c.P Q g B→K B)→aZ c.P c.Y false K (av gs1 A)):U c (.bU none gs) Q A:=by
 subst e;refine U.Yx gs1.length (g:=g) (dst:=dst) ?_ fun K hK =>?_
 ·simp
 ·simpa using h K hK
end
section
variable {P:Program} {n:Nat} {w:World} {D:aJ} {E:aN} {rs:List bt} {post:cd} {fn:Func} {ch:List PanicEntry} {f:FuncId} {N b:Nat}
theorem oi{bo:Fence}{m:Nat}{tmps:Array Value}{R R':Ending→World→Prop}(hr:∀ e w,R e w→R' e w):∀ (ds:List Deferred) (u:FrameMode) (w:World),LeavesInM bo m P fn tmps R ds u w→LeavesInM bo m P fn tmps R' ds u w
 | [],u,w,h=>by
  cases u with
  |run=>exact h
  |returning=>obtain ⟨v,h1,h2⟩:=h;exact ⟨v,h1,hr _ _ h2⟩
  |panicking c=>exact hr _ _ h
 |d::ds,u,w,h=>by
  obtain ⟨h1,h2⟩:=h;refine ⟨h1,?_⟩;rcases h2 with ⟨r,w',k1,k2,k3⟩ | ⟨k1,fv,cap,g,args,k2,k3,k4,k5⟩
  ·exact .inl ⟨r,w',k1,k2,oi hr ds u w' k3⟩
  ·refine .inr ⟨k1,fv,cap,g,args,k2,k3,k4,k5.mono fun e u' w' h =>?_⟩;cases e with
   |returned v=>exact oi hr ds _ w' h
   |panicked c=>exact oi hr ds _ w' h
   |outgrown=>exact hr _ _ h
def ql(P:Program)(fn:Func)(rest:Code)(slots:List Nat)(a:Act)(vs:Array Value)(w:World)(R:Ending→World→Prop):Prop :=
 vs.toList=slots.map (fun t=>a.tmps.getD t undef)→rest.wpIn Fence.wide 9 P (bodyPostM Fence.wide 9 P fn R) a w
theorem ql.mono{rest:Code}{slots:List Nat}{a:Act}{vs:Array Value}{w:World}{R R':Ending→World→Prop}(h:ql P fn rest slots a vs w R)(hr:∀ e w,R e w→R' e w):ql P fn rest slots a vs w R':=fun hv=>by
 refine wpIn_mono (h hv) fun e a' w' q =>?_;cases e <;>simp only[bodyPostM] at q ⊢ <;>first
  |exact oi hr _ _ _ q
  |exact hr _ _ q
  |exact q
theorem Fa{w:World}{D:aJ}{E:aN}(g:Nat→Value):∀ (slots:List Nat) (args:List I),ar w D E args (slots.map g)→∀ t,aR w D E (bP (slots.zip args) t) (g t)
 | [],args,h,t=>by simp[bP,aR]
 |s::slots,[],h,t=>by simp[bP,aR]
 |s::slots,x::args,h,t=>by
  simp only[ar,Z3] at h;obtain ⟨v,rest,cs,e,h1,h2,h3⟩:=h;simp only[zz9] at e;obtain ⟨rfl,rfl⟩:=e;simp only[List.zip_cons_cons,bP];split
  ·rename_i hk;subst hk;exact fB h1 h2
  ·exact Fa g slots args h3 t
end
abbrev rn(P:Program)(w:World)(D:aJ)(n:Nat)(E:aN)(b:Option (List Deferred)):cn:=⟨P,w,D,n,bY E,E,fp,none,b⟩
theorem aL.Ws{P:Program}{n:Nat}{w:World}{D:aJ}{E:aN}{dP:Option (List Deferred)}{post:cd}{A:ab}{a:Act}{w':World}{D':aJ}{E':aN}{r:I}{v:Value}{os:List (Nat×ai)}
  (hs:aL (rn P w D n E dP) A a w' D' E') (h1:∀ m z,aE os m=some z→A.o m=some z∧z.only (al os)=true∧z.ej=true) (hf:r.flat=true) (hv:aR w' D' E' r v) (hp:post r os):kQ w D E post v w':=by
 obtain ⟨D2,E2,hw,e2,e2n,q1,q2,q3,q4,q5,q6⟩:=hs.vn h1;exact ⟨D2,E2,r,os,hp,aR.flat hf hv,q1,q2,q3,q4,q5,q6⟩
def jX(b:Nat):Value:=.pointer (some ⟨b,0,none⟩)
def qL(P:Program)(f:FuncId)(k:Nat):Prop:=dR P f=true∧∀ (bs:List Nat) (w:World),bs.length=k →
 CallsDIn Fence.wide 8 P f (bs.map jX).toArray .returning w fun e u' w'=>(∃ v,e=.returned v)∧u'=.returning∧w'=w
def nl(A:ab):List Nat→List I→ab
 |N::Ns,z::zs=>nl (A.aS N (.box z)) Ns zs
 |_,_=>A
def kO(E:aN):List Nat→List Nat→List I→Prop
 | [],[],[]=>True
 |N::Ns,b::bs,z::zs=>E N=some (.aI b z.aK)∧kO E Ns bs zs
 |_,_,_=>False
def nC(A:ab):List Nat→List I→Prop
 | [],[]=>True
 |N::Ns,z::zs=>(∃ x,A.o N=some (.box x)∧x.aK=z.aK)∧nC A Ns zs
 |_,_=>False
def qG(P:Program)(f:FuncId)(ch:List PanicEntry)(zs:List I):Prop:=dR P f=true∧∀ (c:cn) (A:ab) (a:Act) (w:World) (D:aJ) (E:aN) (Ns bs:List Nat),c.P=P→aL c A a w D E→kO E Ns bs zs→nC A Ns zs →
 CallsDIn Fence.wide 8 P f (bs.map jX).toArray (.panicking ch) w fun e u' w'=>(∃ v,e=.returned v)∧settle u'=.returning∧aL c (nl A Ns zs) a w' D E
def jE(f:FuncId)(vs:List Value):Deferred := { target:=.fn (.func f) vs.toArray,args := #[] }
def qg(rs:List bt)(post:cd)(ch:List PanicEntry)(Ns:List Nat)(zs:List I):Exit→ab→Prop
 | .ret,A=>nC A Ns zs∧iN rs post A
 | .panic ch',A=>ch'=ch∧nC A Ns zs∧iN rs post (nl A Ns zs)
 |_,_=>False
theorem kO.len{E:aN} : ∀ {Ns bs:List Nat} {zs:List I},kO E Ns bs zs→bs.length=zs.length∧Ns.length=zs.length
 | [],[],[],_=>⟨rfl,rfl⟩
 |_::Ns,_::bs,_::zs,h=>by
  have:=kO.len h.2;simp[this.1,this.2]
 | [],_::_,_,h=>h.elim
 | [],[],_::_,h=>h.elim
 |_::_,[],_,h=>h.elim
 |_::_,_::_,[],h=>h.elim
section
variable {P:Program} {n:Nat} {w:World} {D:aJ} {E:aN} {rs:List bt} {post:cd} {fn:Func} {ch:List PanicEntry} {f:FuncId} {Ns bs:List Nat} {zs:List I}
theorem yc{A:ab}{a:Act}{w':World}{D':aJ}{E':aN}{dP:Option (List Deferred)}(hs:aL ⟨P,w,D,n,bY E,E,fp,none,dP⟩ A a w' D' E'):∀ {Ns bs:List Nat} {zs:List I},kO E Ns bs zs→nC A Ns zs→kO E' Ns bs zs
 | [],[],[],_,_=>trivial
 |N::Ns,b::bs,z::zs,h,hx=>by
  refine ⟨?_,yc hs h.2 hx.2⟩;obtain ⟨x,hx,_⟩:=hx.1;have hob:cJ _ w' D' E' N (some (.box x)):=hx▸hs.bB N;rcases hs.uV (n:=N) (e:=.aI b z.aK) h.1 rfl with k | k
  ·exact absurd k (p7 hob)
  ·exact k
 | [],_::_,_,h,_=>h.elim
 | [],[],_::_,h,_=>h.elim
 |_::_,[],_,h,_=>h.elim
 |_::_,_::_,[],h,_=>h.elim
theorem BO(hrs:fV P fn.results.toList=some rs)(hEN:kO E Ns bs zs){A:ab}{D':aJ}{E':aN}{u:FrameMode}(hx:nC A Ns zs)
  (hcase:(u=.returning∧iN rs post A∧qL P f zs.length)∨(u=.panicking ch∧iN rs post (nl A Ns zs)∧qG P f ch zs)) :
  ∀ (ds:List Deferred) (a:Act) (w':World),a.defers=ds→aL ⟨P,w,D,n,bY E,E,fp,none,some [jE f (bs.map jX)]⟩ A a w' D' E'→LeavesInM Fence.wide 9 P fn a.tmps (fun e w'=>∃ v,e=.returned v∧kQ w D E post v w') ds u w'
 | [],a,w',hd,hs=>by
  have h1:a.defers=[jE f (bs.map jX)]:=hs.eb;rw[hd] at h1;cases h1
 |d::ds,a,w',hd,hs=>by
  have h1:a.defers=[jE f (bs.map jX)]:=hs.eb;rw[hd] at h1;simp only[zz9] at h1;obtain ⟨rfl,rfl⟩:=h1;refine ⟨by rcases hcase with ⟨rfl,_⟩ | ⟨rfl,_⟩ <;>simp,.inr ⟨fun _=>by decide,.func f,(bs.map jX).toArray,f,(bs.map jX).toArray,rfl,?_,fun _ _=>trivial,?_⟩⟩
  ·have hcb:dR P f=true:=by rcases hcase with ⟨_,_,h⟩ | ⟨_,_,h⟩ <;>exact h.1
   simp only[jE,invoke,ma hcb,Array.empty_append]
  ·rcases hcase with ⟨rfl,hr,hi⟩ | ⟨rfl,hr,hc⟩
   ·refine (hi.2 bs w' hEN.len.1).mono ?_;rintro e u' w'' ⟨⟨v,rfl⟩,rfl,rfl⟩;obtain ⟨v,h1,h2⟩:=hs.r7 hrs hr;exact ⟨v,h1,v,rfl,h2⟩
   ·refine (hc.2 _ A a w' D' E' Ns bs rfl hs (yc hs hEN hx) hx).mono ?_;rintro e u' w'' ⟨⟨v,rfl⟩,hu,hs2⟩;obtain ⟨v,h1,h2⟩:=hs2.r7 hrs hr;simp only[hu];exact ⟨v,h1,v,rfl,h2⟩
theorem CE{w:World}{D:aJ}{E:aN} : ∀ {Ns:List Nat} {zs:List I} {vs:List Value},dW (aR w D E) (Ns.map fun N=>.ptr N []) vs→(∀ q∈Ns.zip zs,∃ b,E q.1=some (.aI b q.2.aK))→Ns.length=zs.length→∃ bs,vs=bs.map jX∧kO E Ns bs zs
 | [],[],_,.nil,_,_=>⟨[],rfl,trivial⟩
 |N::Ns,z::zs,_,.cons h hs,hb,hl=>by
  obtain ⟨bs,rfl,h2⟩:=CE (zs:=zs) hs (fun q hq=>hb q (by simp[hq])) (by simpa using hl);obtain ⟨b,ao⟩:=hb (N,z) (by simp);obtain ⟨b',aK,off,p1,p2,rfl⟩:=kG h;simp only at ao;rw[ao] at p1;simp only[v6,bx.aI.injEq] at p1;obtain ⟨rfl,rfl⟩:=p1;have hoff:off=0:=by
   cases hz:z.aK <;>rw[hz] at p2 <;>simpa[bS.off] using p2.symm
  subst hoff;exact ⟨b::bs,rfl,ao,h2⟩
 | [],_::_,_,_,_,hl=>by simp at hl
 |_::_,[],_,_,_,hl=>by simp at hl
theorem qR{α:Type}{R:I→Value→Prop}{f:α→I}{g:α→Value}(h:∀ x,R (f x) (g x)):∀ l:List α,dW R (l.map f) (l.map g)
 | []=>.nil
 |x::l=>.cons (h x) (qR h l)
theorem YK{rest:Code}{x:bj}{slots:List Nat}{a:Act}{args:List I}{os:List (Nat×ai)}{tss:List Nat}(hrs:fV P fn.results.toList=some rs)(hx:dQ P n rest=some x)(hsz:a.tmps.size=n)(hd:a.defers=[jE f (tss.map fun t=>a.tmps.getD t undef)])(hos:∀ m,al os m=true→n≤m∧1000000≤m)
  (hts:tss.map (bP (slots.zip args))=Ns.map fun N=>.ptr N []) (hl:Ns.length=zs.length) (hN:∀ q∈Ns.zip zs,∃ y,aE os q.1=some (.box y)∧y.aK=q.2.aK) (hi:qL P f zs.length) (hc:qG P f ch zs)
  (hAW:∀ (w:World) (D:aJ) (E:aN) (d:Deferred),U ⟨P,w,D,n,bY E,E,fp,none,some [d]⟩ x (qg rs post ch Ns zs) (aq (slots.zip args) os)):mi (ql P fn rest slots a) (fun w _ E=>eH P w (bY E)) args os post:=by
 intro w D E vs hl0 hD ho hv hvs;have hvs':vs=slots.map (fun t=>a.tmps.getD t undef):=by simpa using hvs
 subst hvs';have htm:=Fa (fun t=>a.tmps.getD t undef) slots args hv;have hp:=qR htm tss;rw[hts] at hp;obtain ⟨bs,hbs,hat⟩:=CE (zs:=zs) hp (fun q hq=>by
  obtain ⟨y,h1,h2⟩:=hN q hq;have hob:cJ _ w D E q.1 (some (.box y)):=h1▸ho.bB q.1;obtain ⟨b',cs,T,e1,_⟩:=hob;exact ⟨b',by rw[e1,h2]⟩) hl
 rw[hbs] at hd;have hsim:aL ⟨P,w,D,n,bY E,E,fp,none,some [jE f (bs.map jX)]⟩ (aq (slots.zip args) os) a w D E:=by
  refine ⟨hsz,hd,htm,ez.refl _ _,fun _ _ h _=>h,hD,fun m =>?_,ho.cz,fun m e h=>.inr ⟨e,h,.refl e⟩,fun m hm =>?_,fun _ _ h=>h,oS hl0,.refl _ _⟩
  ·have h:=ho.bB m;simp only[aq];cases hx:aE os m with
   |none=>rw[hx] at h;exact h
   |some x=>rw[hx] at h;exact cJ.jr h fun e b he hb=>.inr ⟨m,e,he,hb⟩
  ·refine hos m ?_;cases hx:aE os m with
   |none=>have h:=ho.bB m;rw[hx] at h;exact absurd h hm
   |some x=>simp[al,hx]
 refine wpIn_mono ((hAW w D E _) rest hx a w ⟨D,E,hsim⟩) ?_;rintro e a' w' ⟨A,hq,D',E',hs⟩;have bd:∀ e w',(∃ v,e=Ending.returned v∧kQ w D E post v w')→∃ v D' E' r os',e=.returned v∧post r os'∧aR w' D' E' r v∧jd (fun b=>w.heap.size≤b∨bY E b) w' D' E' (aE os') ∧
   ez (fun b=>w.heap.size≤b∨bY E b) w w'∧(∀ b o,D b o→D' b o)∧(∀ b o,D' b o→b<w'.heap.size)∧(∀ b o,D' b o→b<w.heap.size→¬ bY E b→D b o) ∧
   (∀ n e,E n=some e→al os' n=true→∃ e',E' n=some e'∧e.fk e')∧fT w D w':=fun e w' ⟨v,h1,D',E',r,os',h2⟩=>⟨v,D',E',r,os',h1,h2⟩
 cases e <;>simp only[qg] at hq
 ·obtain ⟨h1,h2⟩:=hq;exact oi bd _ _ _ (BO (ch:=ch) hrs hat h1 (.inl ⟨rfl,h2,hi⟩) a'.defers a' w' rfl hs)
 ·obtain ⟨rfl,h1,h2⟩:=hq;exact oi bd _ _ _ (BO hrs hat h1 (.inr ⟨rfl,h2,hc⟩) a'.defers a' w' rfl hs)
end
def oO:List aF→Option (List Nat)
 | []=>some []
 | .t n::l=>(oO l).map (n :: ·)
 |_=>none
theorem Fb:∀ {l:List aF} {ts:List Nat},oO l=some ts→l=ts.map .t
 | [],ts,h=>by simp only[oO,v6] at h;subst h;rfl
 | .t n::l,ts,h=>by
  simp only[oO,t7] at h;obtain ⟨r,h1,rfl⟩:=h;rw[Fb h1];rfl
 | .c _::_,_,h=>by simp[oO] at h
def ux(P:Program)(n:Nat):Code→Option (bj×FuncId×List Nat×Nat×bj)
 | .seq iE (.seq (.region _ bf false) rest)=>match bf.toList with
  | [o1,o2]=>match kX P n bf o1,o2.op with
   |some ⟨some t5,.mk g caps,none⟩,.defer { callee:=.value (.tmp t),args,.. } =>if t=t5∧args = #[]∧o2.guard=none∧o2.dst=none then (match dQ P n iE,dQ P n rest,oO caps with
     |some x0,some x,some tss=>some (x0,g,tss,t5,x)
     |_,_,_=>none)
    else none
   |_,_=>none
  |_=>none
 |_=>none
structure Gf (P:Program) (n:Nat) (x:bj) (rs:List bt) (post:cd) (ch:List PanicEntry) (g:FuncId) (tss:List Nat) (t5:Nat) (tsl:List (Nat×I)) (os0:List (Nat×ai)) (ρ:List (Nat×Nat)) (os1:List (Nat×ai)) (slots:List Nat) (cargs:List I) (Ns:List Nat) (zs:List I) (post1:cd):Prop where
 aY:tss.map (bP tsl)=Ns.map fun N=>.ptr (bg ρ N) []
 Bg:eP ρ os1 os0
 arg:fU false (aq ((t5,.func g (Ns.map fun N=>.ptr (bg ρ N) []))::tsl) (c7 (iB ρ os1) os0)) ρ os1 (slots.map (bP ((t5,.func g (Ns.map fun N=>.ptr (bg ρ N) []))::tsl))) cargs
 xV:∀ r os',post1 r os'→df false ρ os1 os0 r os'
 EL:tss.map (bP (slots.zip cargs))=Ns.map fun N=>.ptr N []
 len:Ns.length=zs.length
 box:∀ q∈Ns.zip zs,∃ y,aE os1 q.1=some (.box y)∧y.aK=q.2.aK
 lR:∀ m,al os1 m=true→n≤m∧1000000≤m
 rest:∀ (w:World) (D:aJ) (E:aN) (d:Deferred),U ⟨P,w,D,n,bY E,E,fp,none,some [d]⟩ x (qg rs post1 ch Ns zs) (aq (slots.zip cargs) os1)
 kU:∀ r os',post1 r os'→∃ osF,r.flat=true∧r.aO (bg ρ)=r∧(∀ m z,aE osF m=some z→aE (cL ρ os'++os0) m=some z∧z.only (al osF)=true∧z.ej=true)∧post r osF
theorem CF{w:World}{D:aJ}{E:aN}{ρ:List (Nat×Nat)} : ∀ {Ns:List Nat} {vs vs':List Value},dW (aR w D E) (Ns.map fun N=>.ptr (bg ρ N) []) vs→dW (aR w D E) (Ns.map fun N=>.ptr (bg ρ N) []) vs'→vs=vs'
 | [],_,_,.nil,.nil=>rfl
 |N::Ns,_,_,.cons h hs,.cons h' hs'=>by
  obtain ⟨b1,sh1,off1,p1,p2,rfl⟩:=kG h;obtain ⟨b2,sh2,off2,q1,q2,rfl⟩:=kG h';rw[p1] at q1;simp only[v6,bx.aI.injEq] at q1;obtain ⟨rfl,rfl⟩:=q1;rw[p2] at q2;simp only[v6] at q2;subst q2;rw[CF hs hs']
theorem eT.XJ{P:Program}{f:FuncId}{fn:Func}{x0 x:bj}{g:FuncId}{tss:List Nat}{t5:Nat}{rs:List bt}{args:List I}{os:List (Nat×ai)}{post:cd}{ch:List PanicEntry}{zs:List I}(hf:P.funcs[f]?=some fn)(hcall:dR P f=true)(hc:(fn.body.bind (ux P fn.ntmps))=some (x0,g,tss,t5,x))
  (hrs:fV P fn.results.toList=some rs) (hn:args.length≤fn.ntmps) (hn2:fn.ntmps≤1000000) (hos:∀ m,al os m=true→1000000≤m) (hi:qL P g zs.length) (hca:qG P g ch zs) (hts:tss.contains t5=false)
  (h:I.gD args→∀ (w:World) (D:aJ) (E:aN),U ⟨P,w,D,fn.ntmps,bY E,E,fp,none,some []⟩ x0 (cH (fun B=>∃ tsl os0 ρ os1 slots cargs Ns post1,B=aq tsl os0∧Gf P fn.ntmps x rs post ch g tss t5 tsl os0 ρ os1 slots cargs Ns zs post1) (fun _ _=>False)) (aq (bD 0 args) os)):eT P f args os post:=by
 obtain ⟨body,hb,hc⟩:=zx5.1 hc;refine ⟨hcall,fun w D E vs hl hD ho hv =>?_⟩;have hlen:=qm hv;have s0:=wR (P:=P) (n:=fn.ntmps) (Y:=fp) hD ho hv (by omega) (fun m hm=>⟨Nat.le_trans hn2 (hos m hm),hos m hm⟩) (oS hl);have hsim:aL (rn P w D fn.ntmps E (some [])) (nv args os) { tmps:=vs.toArray++Array.replicate (fn.ntmps-vs.toArray.size) undef,defers:=[] } w D E :=
  ⟨s0.sz,rfl,s0.dF,s0.de,s0.cK,s0.cO,s0.bB,s0.cz,s0.dw,s0.eD,s0.cA,oS hl,s0.ft⟩
 obtain ⟨RR,hRR⟩:∃ RR:Ending→World→Prop,RR=fun e w'=>∃ v,e=.returned v∧kQ w D E post v w':=⟨_,rfl⟩
 refine Calls.mono (R:=RR) ?_ (fun e w' q=>by rw[hRR] at q;obtain ⟨v,he,D',E',r,os',k⟩:=q;exact ⟨v,D',E',r,os',he,k⟩);refine (callsIn_wide (n:=9)).1 (callsIn_of_wp_marks hf hb trivial ?_);unfold ux at hc;split at hc
 case h_2=>cases hc
 rename_i iE id bf rest;split at hc
 case h_2=>cases hc
 rename_i o1 o2 hops;split at hc
 case h_2=>cases hc
 rename_i t5' g' caps t dargs _ hg1 ho2;split at hc
 case isFalse=>cases hc
 rename_i hok;obtain ⟨ht,hda,hgd,hdst⟩:=hok;split at hc
 case h_2=>cases hc
 rename_i y0 y tss' hx0 hx htt;simp only[v6,Prod.mk.injEq] at hc;obtain ⟨e1,e2,e3,e4,e5⟩:=hc;subst e4 ht hda e1 e2 e3 e5;have hcaps:=Fb htt;subst hcaps;refine wpIn_seq ?_;have hw0:=((h (oJ _ _ hv) w D E).sub (tn args os)) iE hx0 _ w ⟨D,E,hsim⟩;refine wpIn_mono hw0 ?_;rintro e a1 w1 ⟨B,hq,D1,E1,hs1⟩;cases e <;>simp only[cH] at hq
 obtain ⟨tsl,os0,ρ,os1,slots,cargs,Ns,post1,rfl,R⟩:=hq;simp only[Exit.then];refine wpIn_seq (wpIn_region_list ?_);rw[hops];obtain ⟨q1,q2,q3,q4⟩:=nN hg1;simp only at q1 q2;have wn1:∀ a:Act,Region.wanted o1 (yielded bf a.tmps)=true:=fun a=>by
  rcases q4 with ⟨a5,_⟩ | ⟨_,_,_,_,_,a5⟩
  ·simp[Region.wanted,a5]
  ·simp at a5
 have wn2:∀ a:Act,Region.wanted o2 (yielded bf a.tmps)=true:=fun a=>by simp[Region.wanted,hgd]
 simp only[wpListIn,wn1,if_true];have hmk:aV (aq tsl os0) (.mk g' (tss'.map .t))=some (.func g' (Ns.map fun N=>.ptr (bg ρ N) [])):=by
  have e:(tss'.map aF.t).map (af (aq tsl os0))=Ns.map fun N=>.ptr (bg ρ N) []:=by
   rw[←R.aY,List.map_map];rfl
  simp only[aV,e];rw[if_pos];simp[I.cD]
 have d1:=(CH (c:=rn P w D fn.ntmps E (some [])) q1 hmk).does q3;rw[←q2] at d1;refine d1.wp q1 ⟨D1,E1,hs1⟩ fun a2 w2 hs2 =>?_;obtain ⟨D2,E2,hs2⟩:=hs2;simp only[wn2,if_true];rw[B3] at hs2
 -- the deferred call
 have hglt:=zy hi.1;have hfv:=hs2.dF t;simp only[aq,bP,if_true] at hfv;obtain ⟨fc,f1,f2⟩:=hfv;simp only[ae] at f2;obtain ⟨fvs,f3,f4⟩:=f2;have hval:a2.tmps.getD t undef=.func (.func g') #[] fvs.toArray:=by
  rw[←lQ hglt];simpa[ba,I.isAgg,f3] using f1.symm
 have htl:tss'.map (bP ((t,.func g' (Ns.map fun N=>.ptr (bg ρ N) []))::tsl))=Ns.map fun N=>.ptr (bg ρ N) []:=by
  rw[←R.aY];refine List.map_congr_left fun k hk =>?_;simp only[bP];rw[if_neg];intro e;have:tss'.contains k=true:=by simpa using hk
  rw[e,hts] at this;cases this
 have hfvs:fvs=tss'.map fun k=>a2.tmps.getD k undef:=by
  refine CF (w:=w2) (D:=D2) (E:=E2) (ρ:=ρ) (oH f4) ?_;have:=qR (f:=bP ((t,.func g' (Ns.map fun N=>.ptr (bg ρ N) []))::tsl)) (g:=fun k=>a2.tmps.getD k undef) (fun k=>hs2.dF k) tss'
  rwa [htl] at this
 have hdf:a2.defers=[]:=hs2.eb;obtain ⟨a3,ha3⟩:∃ a3:Act,a3 = { a2 with defers:=[jE g' (tss'.map fun k=>a2.tmps.getD k undef)] } :=⟨_,rfl⟩
 have hrun:(o2.semAt Fence.wide.round a2.eval).run P w2=.ok (.defer (jE g' (tss'.map fun k=>a2.tmps.getD k undef))) w2:=by
  show (execOp a2.eval o2).run P w2=_
  have he:a2.eval (.tmp t)=.func (.func g') #[] fvs.toArray:=hval;simp[execOp,ho2,resolve,he,Deferred.ofValue,jE,hfvs]
 refine ⟨fun _ _=>trivial,?_⟩;rw[hrun,Oper.uponIn_defer,hdf,hdst];simp only[Exit.then];have hput:({ tmps:=a2.tmps,defers:=[jE g' (tss'.map fun k=>a2.tmps.getD k undef)] } : Act).put none undef=a3:=by rw[ha3];rfl
 rw[hput]
 -- the rest
 have hand:=YK (P:=P) (n:=fn.ntmps) (fn:=fn) (f:=g') (Ns:=Ns) (zs:=zs) (ch:=ch) (slots:=slots) (a:=a3) (args:=cargs) (os:=os1) (tss:=tss') hrs hx (by rw[ha3];exact hs2.sz) (by rw[ha3]) R.lR R.EL R.len R.box hi hca R.rest;have hs3:aL (rn P w D fn.ntmps E (some [jE g' (tss'.map fun k=>a2.tmps.getD k undef)])) (aq ((t,.func g' (Ns.map fun N=>.ptr (bg ρ N) []))::tsl) os0) a3 w2 D2 E2:=by
  rw[ha3];exact ⟨hs2.sz,rfl,hs2.dF,hs2.de,hs2.cK,hs2.cO,hs2.bB,hs2.cz,hs2.dw,hs2.eD,hs2.cA,oS hl,hs2.ft⟩
 have hall:∀ l:List Nat,dW (aR w2 D2 E2) (l.map (bP ((t,.func g' (Ns.map fun N=>.ptr (bg ρ N) []))::tsl))) (l.map fun k=>a3.tmps.getD k undef):=fun l=>qR (fun k=>hs3.dF k) l;have hus:=hand.use hs3 false (fun h hr=>h.mono hr) ⟨(fun h=>by cases h),fun _=>hs3.oh⟩ R.Bg R.arg R.xV (hall slots);refine ql.mono hus ?_ (by simp);rintro e w' ⟨v,r,os',D4,E4,rfl,hp,hs4,hv4,_⟩;rw[hRR];obtain ⟨osF,g1,g2,g3,g4⟩:=R.kU r os' hp;rw[g2] at hv4;exact ⟨v,rfl,hs4.Ws g3 g1 hv4 g4⟩
end Go.Abs
namespace Go.Abs
open Go Go.RowKit
open Enc (enc)
def jz(w:World):aJ:=fun b _=>b<w.heap.size
structure qO (P:Program) (t:TypeId) (α:Type) [Enc α]:Prop where
 cells:P.cellsOf t=Enc.sz α
 sM:0<Enc.sz α
 mS:∀ {H:Type} {enc0:TypeId×Value→H} {w:World} {fuel:Nat} {cs:List Value} {x:DataW H×List MemPlace},DataW.trod enc0 P w 0 (fun _=>true) true fuel t cs=some x→∃ a:α,ae w (jz w) cu (enc a) cs
theorem X0{P:Program}{t:TypeId}(ht:P.underlying t=some (.int .i64))(hc:P.cellsOf t=1):qO P t Int :=
 ⟨hc,by decide,fun h=>by
  obtain ⟨n,rfl,_,hw⟩:=DataW.trod_int ht h;refine ⟨n,?_⟩;rw[uD,ae];simp only[Lit.wf,Z0,decide_eq_true_eq] at hw;exact ⟨rfl,hw.1,hw.2⟩⟩
theorem Gm(a:Addr)(i j:Nat):(a.add i).add j=a.add (i+j):=by
 unfold Addr.add;by_cases hi:i=0 <;>by_cases hj:j=0 <;>simp[hi,hj,Nat.add_assoc]
end Go.Abs
