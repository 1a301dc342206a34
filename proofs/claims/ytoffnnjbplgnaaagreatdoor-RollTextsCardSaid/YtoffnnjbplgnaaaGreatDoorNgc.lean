/-
  A part of the proof that the law RollTexts returns true for every input; five variables of Go's library start as the text lays them (the card ties them); conditions: none beyond the statement's own. (part 3 of 6)
-/
import Derived.Test.YtoffnnjbplgnaaaGreatDoorChecked
import Derived.KernelRfl
import Derived.RangeFuncIn
import Derived.Laws.Externs
import Derived.RecoverIn
import Derived.ProofKit
import Derived.Test.YtoffnnjbplgnaaaGreatDoorNgb
set_option linter.unusedSimpArgs false
set_option linter.unusedVariables false
set_option maxHeartbeats 16000000
set_option maxRecDepth 100000
namespace Go.Abs
open Go Go.RowKit
def cg(ts:List (Nat×I)):List (Nat×I)→Prop
 | []=>True
 |(k,v)::r=>b9 ts k=v∧cg ts r
def cq(os:List (Nat×ai)):List (Nat×ai)→Prop
 | []=>True
 |(k,v)::r=>aH os k=some v∧cq os r
def cn(p:Nat→Bool):List (Nat×I)→Prop
 | []=>True
 |(_,v)::r=>v.only p=true∧cn p r
theorem wG{ts:List (Nat×I)} : ∀ {ts':List (Nat×I)},cg ts ts'→∀ k,b9 ts' k=.cU∨b9 ts' k=b9 ts k
 | [],_,k=>.inl rfl
 |(j,v)::r,h,k=>by
  simp only[cg] at h;simp only[b9];split
  ·rename_i hk;subst hk;exact .inr h.1.symm
  ·exact wG h.2 k
theorem Ea{os:List (Nat×ai)} : ∀ {os':List (Nat×ai)},cq os os'→∀ k,aH os' k=none∨aH os' k=aH os k
 | [],_,k=>.inl rfl
 |(j,v)::r,h,k=>by
  simp only[cq] at h;simp only[aH];split
  ·rename_i hk;subst hk;exact .inr h.1.symm
  ·exact Ea h.2 k
theorem BG{p:Nat→Bool} : ∀ {ts:List (Nat×I)},cn p ts→∀ k,(b9 ts k).only p=true
 | [],_,k=>by simp[b9,I.only]
 |(j,v)::r,h,k=>by
  simp only[cn] at h;simp only[b9];split
  ·exact h.1
  ·exact BG h.2 k
theorem BF{p:Nat→Bool} : ∀ {os:List (Nat×ai)},bP p os→∀ k x,aH os k=some x→x.only p=true
 | [],_,k,x,hx=>by simp[aH] at hx
 |(j,v)::r,h,k,x,hx=>by
  simp only[bP] at h;simp only[aH] at hx;split at hx
  ·simp only[v6] at hx;subst hx;exact h.1
  ·exact BF h.2 k x hx
theorem bx.cJ{ts ts':List (Nat×I)}{os os':List (Nat×ai)}(h1:cg ts ts')(h2:cq os os')(h3:cn (aC os') ts')(h4:bP (aC os') os'):bx (aw ts os) (aw ts' os'):=by
 rintro c a w ⟨D,E,hs⟩;have hp:∀ n,aC os' n=true→(if aC os' n then E n else none)=E n:=fun n hn=>by simp[hn]
 refine ⟨D,fun n=>if aC os' n then E n else none,hs.sz,hs.ec,fun t =>?_,hs.df,hs.cI,hs.cL,fun n =>?_,fun n m e e' b h1 h2 h3 h4 =>?_,fun n e hn =>?_,hs.eF,hs.cw,hs.eI,hs.fb⟩
 ·have:=wG h1 t;rcases this with h | h
  ·simp only[aw];rw[h];simp[aP]
  ·refine aP.dD (p:=aC os') hp (BG h3 t) ?_;have:=hs.dB t;simp only[aw] at *;rw[h];exact this
 ·have ho:=hs.bz n;simp only[aw] at *;rcases Ea h2 n with h | h
  ·rw[h];simp[cX,aC,h]
  ·rw[h];by_cases hin:aH os n=none
   ·rw[hin];simp[cX,aC,h,hin]
   ·have aq:(if aC os' n then E n else none)=E n:=hp n (by simp[aC,h];cases hh:aH os n <;>simp_all);cases hx:aH os n with
    |none=>exact absurd hx hin
    |some x =>
     have hon:=BF h4 n x (h.trans hx);rw[hx] at ho;cases x with
     |box x =>
      obtain ⟨b,cs,T,k1,k2,k3,k4,k5⟩:=ho;exact ⟨b,cs,T,aq.trans k1,k2,k3,ae.dD hp _ _ (by simpa[ai.only] using hon) k4,k5⟩
     |bE T sz es =>
      obtain ⟨aA,k1,k2,k3⟩:=ho;refine ⟨aA,aq.trans k1,k2,?_⟩;cases aA with
      |none=>exact k3
      |some bc =>
       obtain ⟨b,cap⟩:=bc;obtain ⟨cs,pre,rest,q1,q2,q3,q4,q5⟩:=k3;exact ⟨cs,pre,rest,q1,q2,q3,az.dD hp _ _ (by simpa[ai.only] using hon) q4,q5⟩
     |dL T xs =>
      obtain ⟨aA,k1,k2,k3⟩:=ho;exact ⟨aA,aq.trans k1,k2,k3⟩
     |db x =>
      obtain ⟨b,k1,k2⟩:=ho;exact ⟨b,aq.trans k1,k2⟩
     |b7 ks vs =>
      obtain ⟨b,es,ck,k1,k2,k3,k4,k5,k6,k7⟩:=ho;simp only[ai.only,Z0] at hon;exact ⟨b,es,ck,aq.trans k1,k2,k3,k4,ao.dD hp _ _ hon.1 k5,ao.dD hp _ _ hon.2 k6,k7⟩
     |it ks vs left cur =>
      obtain ⟨r,b,es,ck,dK,se,la,k1,k2,k3,k4,k5,k6,k7⟩:=ho;simp only[ai.only,Z0] at hon;exact ⟨r,b,es,ck,dK,se,la,aq.trans k1,k2,k3,k4,ao.dD hp _ _ hon.1 k5,ao.dD hp _ _ hon.2 k6,k7⟩
 ·refine hs.cz n m e e' b ?_ ?_ h3 h4
  ·split at h1
   ·exact h1
   ·cases h1
  ·split at h2
   ·exact h2
   ·cases h2
 ·by_cases hi:aC os' n=true
  ·simp only[hi,if_true];exact hs.dy n e hn
  ·simp only[hi];exact .inl rfl
def bD:Nat→List I→List (Nat×I)
 |_,[]=>[]
 |k,a::aS9=>(k,a)::bD (k+1) aS9
theorem A9:∀ (aS9:List I) (k t:Nat),b9 (bD k aS9) t=if t<k then .cU else (aS9[t-k]?).getD .cU
 | [],k,t=>by simp[bD,b9]
 |a::aS9,k,t=>by
  simp only[bD,b9,A9 aS9 (k+1) t];by_cases h:t=k
  ·subst h;simp
  ·rw[if_neg h];by_cases h2:t<k
   ·rw[if_pos (by omega),if_pos h2]
   ·rw[if_neg (by omega),if_neg h2,show t-k=(t-(k+1))+1 from by omega];simp
theorem ta(args:List I)(os:List (Nat×ai)):bx (nj args os) (aw (bD 0 args) os):=by
 rintro c a w ⟨D,E,hs⟩;refine ⟨D,E,hs.sz,hs.ec,fun t =>?_,hs.df,hs.cI,hs.cL,hs.bz,hs.cz,hs.dy,hs.eF,hs.cw,hs.eI,hs.fb⟩;have:=hs.dB t;simp only[aw,A9,nj,Nat.not_lt_zero,if_false,Nat.sub_zero] at *;cases h:args[t]? with
 |none=>simp[aP]
 |some x=>simpa[Y7,h] using this
theorem XF(args:List I):bx (ni args) (aw (bD 0 args) []):=ta args []
theorem vm(ts:List (Nat×I))(os:List (Nat×ai))(d:Nat)(v:I):(aw ts os).put d v=aw ((d,v)::ts) os:=rfl
theorem Bf(ts:List (Nat×I))(os:List (Nat×ai))(d:Nat)(v:I):(aw ts os).aM (some d) v=aw ((d,v)::ts) os:=rfl
theorem UZ(A:ab)(v:I):A.aM none v=A:=rfl
theorem r9(ts:List (Nat×I))(os:List (Nat×ai))(d:Nat)(x:ai):(aw ts os).aO d x=aw ts ((d,x)::os):=rfl
theorem U0(ts:List (Nat×I))(os:List (Nat×ai))(k:Nat):(aw ts os).t k=b9 ts k:=rfl
theorem UY(ts:List (Nat×I))(os:List (Nat×ai))(k:Nat):(aw ts os).o k=aH os k:=rfl
theorem cd(j:Nat)(v:I)(r:List (Nat×I))(k:Nat):b9 ((j,v)::r) k=if k=j then v else b9 r k:=rfl
theorem ev(j:Nat)(v:ai)(r:List (Nat×ai))(k:Nat):aH ((j,v)::r) k=if k=j then some v else aH r k:=rfl
theorem UO(k:Nat):aH [] k=none:=rfl
theorem K6(A:ab)(k:Nat):af A (.t k)=A.t k:=rfl
theorem K5(A:ab)(x:I):af A (.c x)=x:=rfl
noncomputable def cE(d:Option Nat)(rest:List ar)(A:ab)(v:I):bV:=al rest (A.aM d v)
theorem Ur(d:Option Nat)(rest:List ar)(A:ab)(v:I):cE d rest A v=al rest (A.aM d v):=rfl
theorem Gp(v:I)(k:I→bV):b8 (some v) k=k v:=rfl
theorem FG(A:ab):al [] A=.done A:=rfl
noncomputable def bm(A:ab)(d:Option Nat)(op:bq)(rest:List ar):bV:=aU A d op rest (al rest)
noncomputable def fT(x:I)(b:Bool)(d:Option Nat)(op:bq)(rest:List ar)(A:ab):bV :=
 match x with
 | .bool b'=>if b'=b then bm A d op rest else al rest (A.aM d .undef)
 | .undef=>al rest (A.aM d .undef)
 |_=>.fail
theorem aX.guard{P:Program}{Y:Value→List I→List (Nat×ai)→b6→Prop}{dr:Bool}{K:ab→Prop}{x b:Bool}{d:Option Nat}{op:bq}{rest:List ar}{A:ab}(h1:x=b→aX P Y dr K (bm A d op rest))(h2:x = !b→aX P Y dr K (al rest (A.aM d .undef))):aX P Y dr K (fT (.bool x) b d op rest A):=by
 unfold fT;by_cases h:x=b
 ·simp only[if_pos h];exact h1 h
 ·simp only[if_neg h];exact h2 (by cases x <;>cases b <;>simp_all)
def I.cZ:I→Option (List I)
 | .agg fs=>some fs
 |_=>none
def mb(p:List Nat):Option I→Option I
 |some f=>f.at p
 |none=>none
def jk(i:Nat)(p:List Nat):Option (List I)→Option I
 |some fs=>mb p fs[i]?
 |none=>none
theorem mc(c:I):c.at []=some c:=by cases c <;>rfl
theorem FY(c:I)(i:Nat)(p:List Nat):c.at (i::p)=jk i p c.cZ:=by
 cases c <;>first | rfl | (rename_i fs;simp only[I.at,jk,I.cZ,mb])
def qm(fs:List I)(i:Nat)(p:List Nat)(v:I):Option I→I
 |some f=>.agg (fs.set i (f.dz p v))
 |none=>.agg fs
def ov(c:I)(i:Nat)(p:List Nat)(v:I):Option (List I)→I
 |some fs=>qm fs i p v fs[i]?
 |none=>c
theorem fD(c v:I):c.dz [] v=v:=by cases c <;>rfl
theorem wi(c:I)(i:Nat)(p:List Nat)(v:I):c.dz (i::p) v=ov c i p v c.cZ:=by
 cases c <;>first | rfl | (rename_i fs;simp only[I.dz,ov,I.cZ];cases fs[i]? <;>rfl)
def dx(p:List Nat):Option ai→Option I
 |some (.box c)=>c.at p
 |_=>none
def ft(A:ab):I→Option I
 | .ref x=>some x
 | .ptr n p=>dx p (A.o n)
 |_=>none
theorem jq(A:ab)(x:I):bO A x=ft A x:=by
 cases x <;>first | rfl | (rename_i n p;simp only[bO,ft];cases A.o n with | none=>rfl | some y=>cases y <;>rfl)
def lK(s:Option Nat)(x:I):Option I:=if bS s x=true then some x else none
def fA(s:Option Nat):Option I→Option I
 |some x=>lK s x
 |none=>none
open Classical in
noncomputable def fI(fs:List I)(f off:Nat)(y:I):Option I:=if f<fs.length∧I.sizes (fs.take f)=off then some y else none
noncomputable def pk(n:Nat)(p:List Nat)(f off:Nat):Option (List I)→Option I
 |some fs=>fI fs f off (.ptr n (p++[f]))
 |none=>none
noncomputable def pj(fs:List I)(f off:Nat):Option I→Option I
 |some v=>fI fs f off (.ref v)
 |none=>none
noncomputable def rr(f off:Nat):Option (List I)→Option I
 |some fs=>pj fs f off fs[f]?
 |none=>none
def dX:Option I→Option (List I)
 |some x=>x.cZ
 |none=>none
noncomputable def lB(A:ab)(f off:Nat):I→Option I
 | .ref c=>rr f off c.cZ
 | .ptr n p=>pk n p f off (dX (dx p (A.o n)))
 |_=>none
theorem Wq(A:ab)(f off:Nat)(x:au):aT A (.fa f off x)=lB A f off (af A x):=by
 simp only[aT];generalize af A x=y;cases y with
 |ref c =>
  cases c <;>simp only[lB,I.cZ,rr]
  rename_i fs;cases h:fs[f]? with
  |none=>simp[pj]
  |some v =>
   have hl:f<fs.length:=(Z8.1 h).1;simp only[pj,fI,hl,true_and]

 |ptr n p =>
  simp only[lB,jq,ft];cases dx p (A.o n) with
  |none=>simp[dX,pk]
  |some c =>
   cases c <;>simp only[dX,I.cZ,pk]
   simp only[fI]

 |_=>simp only[lB]
noncomputable def ry(f off:Nat)(s:Option Nat):Option (List I)→Option I
 |some fs=>match fs[f]? with
  |some v=>(fI fs f off v).bind (lK s)
  |none=>none
 |none=>none
theorem Wr(A:ab)(f off:Nat)(s:Option Nat)(x:au):aT A (.fl f off s x)=ry f off s (af A x).cZ:=by
 simp only[aT];generalize af A x=y;cases y <;>simp only[ry,I.cZ]
 rename_i fs;cases h:fs[f]? with
 |none=>rfl
 |some v =>
  have hl:f<fs.length:=(Z8.1 h).1;simp only[fI,hl,true_and];by_cases h1:I.sizes (fs.take f)=off <;>by_cases h2:bS s v=true <;>simp[h1,h2,lK]
open Classical in
noncomputable def gB(k:Int)(n:Nat)(y:Option I):Option I:=if 0≤k∧k<n then y else none
noncomputable def gQ(n esz:Nat)(fs:List I)(y:Option I):Option I:=if fR n esz fs=true then y else none
noncomputable def nR(n esz:Nat)(k:Int):Option (List I)→Option I
 |some fs=>gQ n esz fs ((fs[k.toNat]?).map .ref)
 |none=>none
noncomputable def mh(n esz m:Nat)(p:List Nat)(k:Int):Option (List I)→Option I
 |some fs=>gQ n esz fs (some (.ptr m (p++[k.toNat])))
 |none=>none
noncomputable def gA(A:ab)(n esz:Nat)(k:Int):I→Option I
 | .ref c=>gB k n (nR n esz k c.cZ)
 | .ptr m p=>gB k n (mh n esz m p k (dX (dx p (A.o m))))
 |_=>none
noncomputable def py(A:ab)(n esz:Nat)(x:I):I→Option I
 | .int _ k=>gA A n esz k x
 |_=>none
theorem Ws(A:ab)(n esz:Nat)(x i:au):aT A (.ia n esz x i)=py A n esz (af A x) (af A i):=by
 simp only[aT];generalize af A x=y;generalize af A i=z;cases z <;>simp only[py]
 rename_i kk k;cases y with
 |ref c =>
  simp only[gA,gB];split
  ·cases c <;>simp only[I.cZ,nR,gQ]
  ·rfl
 |ptr m p =>
  simp only[gA,gB,jq,ft];split
  ·cases dx p (A.o m) with
   |none=>simp[dX,mh]
   |some c=>cases c <;>simp only[dX,I.cZ,mh,gQ]
  ·rfl
 |_=>simp only[gA];split <;>rfl
open Classical in
noncomputable def ml(m:Nat)(p:List Nat)(sz lo l esz:Nat)(k:Int):Option (List I)→Option I
 |some _=>if sz=esz∧0≤k∧k<l then some (.ptr m (p++[lo+k.toNat])) else none
 |none=>none
open Classical in
noncomputable def iI(A:ab)(esz:Nat)(k:Int):I→Option I
 | .slice sz es=>if sz=esz∧0≤k∧k<es.length then (es[k.toNat]?).map .ref else none
 | .own m l=>match A.o m with
  |some (.bE _ sz es)=>if l=es.length∧sz=esz∧0≤k∧k<es.length then (es[k.toNat]?).map .ref else none
  |_=>none
 | .view m p sz lo l=>ml m p sz lo l esz k (dX (dx p (A.o m)))
 |_=>none
noncomputable def pC(A:ab)(esz:Nat)(x:I):I→Option I
 | .int _ k=>iI A esz k x
 |_=>none
theorem Wt(A:ab)(esz:Nat)(x i:au):aT A (.is esz x i)=pC A esz (af A x) (af A i):=by
 simp only[aT];generalize af A x=y;generalize af A i=z;cases z <;>simp only[pC]
 cases y <;>simp only[iI]
 ·split <;>simp_all
 ·rename_i m p sz lo l;simp only[jq,ft];cases dx p (A.o m) with
  |none=>rfl
  |some c=>cases c <;>simp only[dX,I.cZ,ml]
noncomputable def mn(n esz:Nat)(s:Option Nat)(k:Int):Option (List I)→Option I
 |some fs=>gB k n (gQ n esz fs (fA s fs[k.toNat]?))
 |none=>none
noncomputable def pF(n esz:Nat)(s:Option Nat)(x:I):I→Option I
 | .int _ k=>mn n esz s k x.cZ
 |_=>none
theorem Wu(A:ab)(n esz:Nat)(s:Option Nat)(x i:au):aT A (.ix n esz s x i)=pF n esz s (af A x) (af A i):=by
 simp only[aT];generalize af A x=y;generalize af A i=z;cases z <;>simp only[pF]
 rename_i kk k;cases y <;>simp only[I.cZ,mn]
 case agg fs =>
  simp only[gB,gQ];split
  ·split
   ·cases fs[k.toNat]? <;>rfl
   ·rfl
  ·rfl
 all_goals (split <;>rfl)
def jx(A:ab):I→Option I
 | .slice _ es=>some (.int .i64 es.length)
 | .nils _=>some (.int .i64 0)
 | .c0 _=>some (.int .i64 0)
 | .own m l=>match A.o m with | some (.bE _ _ es)=>if l=es.length then some (.int .i64 es.length) else none | _=>none
 | .view _ _ _ _ k=>some (.int .i64 k)
 |_=>none
theorem Ww(A:ab)(x:au):aT A (.len x)=jx A (af A x):=by
 simp only[aT];generalize af A x=y;cases y <;>rfl
open Classical in
noncomputable def qx(n esz:Nat)(fs:List I)(y:I):Option I:=if fR n esz fs=true∧n≤maxLen∧n≠0 then some y else none
noncomputable def qy(n esz m:Nat)(p:List Nat):Option (List I)→Option I
 |some fs=>qx n esz fs (.view m p esz 0 n)
 |none=>none
noncomputable def En(n esz:Nat):Option (List I)→Option I
 |some fs=>qx n esz fs (.slice esz fs)
 |none=>none
noncomputable def nm(A:ab)(n esz:Nat):I→Option I
 | .ptr m p=>qy n esz m p (dX (dx p (A.o m)))
 | .ref c=>En n esz c.cZ
 |_=>none
theorem Wx(A:ab)(n esz:Nat)(x:au):aT A (.va n esz x)=nm A n esz (af A x):=by
 simp only[aT];generalize af A x=y;cases y with
 |ptr m p =>
  simp only[nm,jq,ft];cases dx p (A.o m) with
  |none=>simp[dX,qy]
  |some c=>cases c <;>simp only[dX,I.cZ,qy,qx] <;>(split <;>simp_all)
 |ref c=>cases c <;>simp only[nm,I.cZ,En,qx] <;>(split <;>simp_all)
 |_=>simp only[nm]
theorem Wv(A:ab)(s:Option Nat)(x:au):aT A (.ld s x)=fA s (ft A (af A x)):=by
 simp only[aT,jq];cases ft A (af A x) <;>simp only[fA,lK]
noncomputable def pW(A:ab)(d:Option Nat)(a b:au)(rest:List ar):I→bV
 | .bool t=>al rest (A.aM d (if t then af A a else af A b))
 |_=>.fail
noncomputable def qw(op:UnOp)(x:I):Option I:=match op,x with
  | .not,.bool b=>some (.bool !b)
  | .neg,.int k n=>some (.int k (k.wrap (0-n)))
  | .xor,.int k n=>some (.int k (nE k n))
  |_,_=>none
def uC(i:Nat):I→Option I
 | .tuple fs=>fs[i]?
 |_=>none
def ue(k:IntKind):I→Option I
 | .int _ n=>some (.int k (k.wrap n))
 |_=>none
noncomputable def tE(A:ab)(d:Nat)(z:I)(rest:List ar):Option ai→bV
 |none=>al rest ((A.aO d (.box z)).put d (.ptr d []))
 |some _=>.fail
noncomputable def qS(A:ab)(d:Nat)(z:I)(rest:List ar)(v:Bool):bV:=if v=true then al rest ((A.aO d (.box z)).put d (.ptr d [])) else .fail
noncomputable def qR(A:ab)(d:Nat)(z:I)(rest:List ar):Option ai→bV
 |none=>qS A d z rest z.cv
 |some _=>.fail
open Classical in
noncomputable def dT(A:ab)(s:Option Nat)(n:Nat)(p:List Nat)(b v:I)(rest:List ar):Option I→bV
 |some old=>if vD s v old then al rest (A.aO n (.box (b.dz p v))) else .fail
 |none=>.fail
noncomputable def s9(A:ab)(s:Option Nat)(n:Nat)(p:List Nat)(v:I)(rest:List ar):Option ai→bV
 |some (.box b)=>dT A s n p b v rest (b.at p)
 |_=>.fail
noncomputable def s8(A:ab)(s:Option Nat)(v:I)(rest:List ar):I→bV
 | .ptr n p=>s9 A s n p v rest (A.o n)
 |_=>.fail
noncomputable def o8(A:ab)(d:Option Nat)(args:List I)(rest:List ar):I→bV
 | .func f caps=>.call (jW f) (gz f args caps) (bC true A (gz f args caps)) (bC false A (gz f args caps)) d rest A
 | .raw v=>.kH v args d rest A
 |_=>.fail
section
variable (d:Option Nat) (rest:List ar) (A:ab)
theorem Fs(op:bq):al (⟨d,op,none⟩::rest) A=bm A d op rest:=rfl
theorem Ft(op:bq)(t:Nat)(b:Bool):al (⟨d,op,some (t,b)⟩::rest) A=fT (A.t t) b d op rest A:=rfl
theorem Th(op:bq):fT (.bool true) true d op rest A=bm A d op rest:=by simp[fT]
theorem Te(op:bq):fT (.bool false) false d op rest A=bm A d op rest:=by simp[fT]
theorem Tg(op:bq):fT (.bool true) false d op rest A=al rest (A.aM d .undef):=by simp[fT]
theorem Tf(op:bq):fT (.bool false) true d op rest A=al rest (A.aM d .undef):=by simp[fT]
theorem Ti(op:bq)(b:Bool):fT .undef b d op rest A=al rest (A.aM d .undef):=rfl
theorem VI(x:au):bm A d (.mv x) rest=al rest (A.aM d (af A x)):=rfl
theorem VM(c a b:au):bm A d (.pick c a b) rest=pW A d a b rest (af A c):=by
 simp only[bm,aU,aT];cases af A c <;>simp only[b8,pW]
theorem Vj(op:BinOp)(x y:au):bm A d (.bin op x y) rest=b8 (bF op (af A x) (af A y)) (cE d rest A):=rfl
theorem Vt(ty:bZ)(neg:Bool)(x y:au):bm A d (.eqv ty neg x y) rest=b8 ((bR ty (af A x) (af A y)).map fun b=>.bool (if neg then !b else b)) (cE d rest A):=rfl
theorem VR(op:UnOp)(x:au):bm A d (.un op x) rest=b8 (qw op (af A x)) (cE d rest A):=rfl
theorem Vr(k:IntKind)(x:au):bm A d (.conv k x) rest=b8 (ue k (af A x)) (cE d rest A):=by
 simp only[bm,aU,aT];cases af A x <;>rfl
theorem VA(s:Option Nat)(x:au):bm A d (.ld s x) rest=b8 (fA s (ft A (af A x))) (cE d rest A):=by rw[←Wv];rfl
theorem Vv(f off:Nat)(x:au):bm A d (.fa f off x) rest=b8 (lB A f off (af A x)) (cE d rest A):=by rw[←Wq];rfl
theorem Vw(f off:Nat)(s:Option Nat)(x:au):bm A d (.fl f off s x) rest=b8 (ry f off s (af A x).cZ) (cE d rest A):=by rw[←Wr];rfl
theorem Vx(n esz:Nat)(x i:au):bm A d (.ia n esz x i) rest=b8 (py A n esz (af A x) (af A i)) (cE d rest A):=by rw[←Ws];rfl
theorem Vy(esz:Nat)(x i:au):bm A d (.is esz x i) rest=b8 (pC A esz (af A x) (af A i)) (cE d rest A):=by rw[←Wt];rfl
theorem Vz(n esz:Nat)(s:Option Nat)(x i:au):bm A d (.ix n esz s x i) rest=b8 (pF n esz s (af A x) (af A i)) (cE d rest A):=by rw[←Wu];rfl
theorem VB(x:au):bm A d (.len x) rest=b8 (jx A (af A x)) (cE d rest A):=by rw[←Ww];rfl
theorem VS(n esz:Nat)(x:au):bm A d (.va n esz x) rest=b8 (nm A n esz (af A x)) (cE d rest A):=by rw[←Wx];rfl
theorem Vk(zs:List I)(ps:List (Nat×au)):bm A d (.bld zs ps) rest=b8 ((e9 zs (ps.map fun p=>(p.1,af A p.2))).map .agg) (cE d rest A):=rfl
theorem Vu(x:au)(i:Nat):bm A d (.ext x i) rest=b8 (uC i (af A x)) (cE d rest A):=by
 simp only[bm,aU,aT];cases af A x <;>rfl
theorem VE(f:FuncId)(caps:List au):bm A d (.mk f caps) rest=b8 (if ((caps.map (af A)).all fun y=>y.cv)=true then some (.func f (caps.map (af A))) else none) (cE d rest A):=rfl
theorem Vg(d:Nat)(z:I):bm A (some d) (.alloc z) rest=tE A d z rest (A.o d):=by
 simp only[bm,aU];cases A.o d <;>rfl
theorem Vl(d:Nat)(x:au):bm A (some d) (.box x) rest=qR A d (af A x) rest (A.o d):=by
 simp only[bm,aU];cases A.o d <;>simp only[qR,qS]
theorem VQ(s:Option Nat)(x v:au):bm A none (.aV s x v) rest=s8 A s (af A v) rest (af A x):=by
 simp only[bm,aU];cases af A x <;>simp only[s8]
 rename_i n p;cases A.o n with
 |none=>rfl
 |some y =>
  cases y <;>simp only[s9]
  rename_i b;cases b.at p <;>simp only[dT]
theorem Vn(f:FuncId)(args:List au):bm A d (.call f args) rest=.call f (args.map (af A)) (bC true A (args.map (af A))) (bC false A (args.map (af A))) d rest A:=rfl
theorem Vo(x:au)(args:List au):bm A d (.eX x args) rest=o8 A d (args.map (af A)) rest (af A x):=by
 simp only[bm,aU];cases af A x <;>rfl
end
end Go.Abs
namespace Go.Abs
open Go Go.RowKit
mutual
/-- Closed,and as a result is told: no nil slice but as the empty one. -/
def I.done:I→Bool
 | .agg fs=>I.iE fs
 | .slice _ es=>I.cj es
 | .ref x=>x.bu
 | .func f caps=>decide (f<1000000)&&I.iE caps
 | .iface _ v=>v.bu
 | .cW ks vs=>I.cj ks&&I.cj vs
 | .bool _ | .int _ _ | .aj _ | .nilp | .c8 | .cN | .any | .raw _=>true
 |_=>false
def I.iE:List I→Bool
 | []=>true
 |x::xs=>x.done&&I.iE xs
end
mutual
theorem um:∀ x:I,x.done=true→x.bu=true
 | .agg fs,h=>by simp only[I.done,I.bu] at *;exact uo fs h
 | .slice _ es,h=>by simpa only[I.done,I.bu] using h
 | .ref x,h=>by simpa only[I.done,I.bu] using h
 | .func _ caps,h=>by simp only[I.done,I.bu,Z0] at *;exact uo caps h.2
 | .iface _ v,h=>by simpa only[I.done,I.bu] using h
 | .bool _,_ | .int _ _,_ | .aj _,_ | .nilp,_ | .c8,_ | .cN,_ | .any,_ | .raw _,_=>by simp[I.bu]
 | .cW _ _,h=>by simpa only[I.done,I.bu] using h
 | .nils _,h | .c0 _,h | .ptr _ _,h | .own _ _,h | .view _ _ _ _ _,h | .mref _,h | .cR _,h | .undef,h | .cU,h | .tuple _,h=>by simp[I.done] at h
theorem uo:∀ xs:List I,I.iE xs=true→I.cj xs=true
 | [],_=>rfl
 |x::xs,h=>by
  simp only[I.iE,I.cj,Z0] at *;exact ⟨um x h.1,uo xs h.2⟩
end
mutual
theorem zL(aB:Bool)(A:ab):∀ x:I,x.done=true→aZ aB A x=some x
 | .agg fs,h=>by simp only[I.done,aZ] at *;rw[uM aB A fs h];rfl
 | .slice _ es,h=>by simp only[I.done] at h;simp[aZ,h]
 | .ref x,h=>by simp only[I.done] at h;simp[aZ,h]
 | .func _ caps,h=>by simp only[I.done,aZ,Z0,decide_eq_true_eq] at *;rw[if_pos h.1,uM aB A caps h.2];rfl
 | .iface _ v,h=>by simp only[I.done] at h;simp[aZ,h]
 | .bool _,_ | .int _ _,_ | .aj _,_ | .nilp,_ | .c8,_ | .cN,_ | .any,_ | .raw _,_=>by simp[aZ]
 | .cW _ _,h=>by simp only[I.done] at h;simp[aZ,h]
 | .nils _,h | .c0 _,h | .ptr _ _,h | .own _ _,h | .view _ _ _ _ _,h | .mref _,h | .cR _,h | .undef,h | .cU,h | .tuple _,h=>by simp[I.done] at h
theorem uM(aB:Bool)(A:ab):∀ xs:List I,I.iE xs=true→bC aB A xs=some xs
 | [],_=>by simp[bC]
 |x::xs,h=>by
  simp only[I.iE,Z0] at h;simp only[bC,zL aB A x h.1,uM aB A xs h.2]
end
theorem KN{x:I}(h:x.done=true):x.cv=true:=by cases x <;>simp_all[I.done,I.cv]
class Enc (α:Type) where
 enc:α→I
 sz:Nat
 aK:bL
 gl:Bool
 done:∀ x,(enc x).done=true
 size:∀ x,(enc x).size=sz
 iv:∀ x,(enc x).aK=aK
 agg:∀ x,(enc x).isAgg=gl
open Enc (enc)
instance:Enc Int where
 enc n:=.int .i64 n
 sz:=1
 aK:=.one
 gl:=false
 done _:=rfl
 size _:=by simp[I.size]
 iv _:=by simp[I.aK]
 agg _:=rfl
instance:Enc Bool where
 enc b:=.bool b
 sz:=1
 aK:=.one
 gl:=false
 done _:=rfl
 size _:=by simp[I.size]
 iv _:=by simp[I.aK]
 agg _:=rfl
theorem pb{α:Type}[Enc α](l:List α):I.cj (l.map enc)=true:=by
 induction l with
 |nil=>rfl
 |cons x l ih=>simp only[Z4,I.cj,um _ (Enc.done x),ih,Bool.and_self]
theorem KO{α:Type}[Enc α](l:List α):I.iE (l.map enc)=true:=by
 induction l with
 |nil=>rfl
 |cons x l ih=>simp only[Z4,I.iE,Enc.done x,ih,Bool.and_self]
theorem Xy{α:Type}[Enc α](l:List α):I.sizes (l.map enc)=l.length*Enc.sz α:=by
 rw[I.fY (sz:=Enc.sz α) _ (by simp only[zz1];rintro x ⟨y,_,rfl⟩;exact Enc.size y)];simp
theorem wo{α:Type}[Enc α](l:List α):I.cK (l.map enc)=List.replicate l.length (Enc.aK α):=by
 induction l with
 |nil=>rfl
 |cons x l ih=>simp only[Z4,I.cK,Enc.iv x,ih,zz4,List.replicate_succ]
instance {α:Type} [Enc α]:Enc (List α) where
 enc l:=.slice (Enc.sz α) (l.map enc)
 sz:=1
 aK:=.one
 gl:=false
 done l:=by simp only[I.done];exact pb l
 size _:=by simp[I.size]
 iv _:=by simp[I.aK]
 agg _:=rfl
structure dQ (n:Nat) (α:Type) where
 l:List α
 h:l.length=n
instance {n:Nat} {α:Type} [Enc α]:Enc (dQ n α) where
 enc x:=.agg (x.l.map enc)
 sz:=n*Enc.sz α
 aK:=.eJ (List.replicate n (Enc.aK α))
 gl:=true
 done x:=by simp only[I.done];exact KO x.l
 size x:=by simp only[I.size,Xy,x.h]
 iv x:=by simp only[I.aK,wo,x.h]
 agg _:=rfl
section
variable {α:Type} [Enc α]
theorem iF(aB:Bool)(A:ab)(x:α):aZ aB A (enc x)=some (enc x):=zL aB A _ (Enc.done x)
theorem jU(x:α):(enc x).bu=true:=um _ (Enc.done x)
theorem bG(p:Nat→Bool)(x:α):(enc x).only p=true:=lL p _ (jU x)
theorem eY(x:α):(enc x).cv=true:=KN (Enc.done x)
theorem KW(x:α):bS none (enc x) = !(Enc.gl α):=by simp[bS,Enc.agg]
theorem gO(n:Nat)(x:α):bS (some n) (enc x)=(Enc.gl α&&Enc.sz α==n):=by simp[bS,Enc.agg,Enc.size]
theorem lA(x:α):(enc x).size=Enc.sz α:=Enc.size x
theorem eE(x:α):(enc x).aK=Enc.aK α:=Enc.iv x
theorem rn(n:Int):(enc n:I)=.int .i64 n:=rfl
theorem KU(n:Bool):(enc n:I)=.bool n:=rfl
theorem gy(l:List α):(enc l:I)=.slice (Enc.sz α) (l.map enc):=rfl
theorem KZ:Enc.sz (List α)=1:=rfl
theorem uA(n esz:Nat)(l:List α)(h:l.length=n)(h2:Enc.sz α=esz):fR n esz (l.map enc)=true:=by
 simp only[fR,Z2,h,BEq.rfl,Bool.true_and,Y5,zz1];rintro x ⟨y,_,rfl⟩;simp[Enc.size,h2]
theorem FB(l:List α):∀ x∈l.map (enc (α:=α)),x.size=Enc.sz α:=by
 simp only[zz1];rintro x ⟨y,_,rfl⟩;exact Enc.size y
end
theorem dU(n:Int)(h1:-9223372036854775808≤n)(h2:n≤9223372036854775807):IntKind.i64.wrap n=n:=IntWalk.i64_in n ⟨h1,h2⟩
theorem aQ.mk{P:Program}{f:FuncId}{fn:Func}{x:bj}{rs:List bt}{args:List I}{r:I}(hf:P.funcs[f]?=some fn)(hcall:dO P f=true)(hc:(fn.body.bind (dN P fn.ntmps))=some x)
  (hrs:fO P fn.results.toList=some rs) (hn:args.length≤fn.ntmps) (h:∀ (w:World) (D:aD) (E:aN),U ⟨P,w,D,fn.ntmps,bQ E,E,fu,none,none⟩ x (jH rs r) (aw (bD 0 args) [])):aQ P f args r:=by
 obtain ⟨body,hb,hc'⟩:=zy3.1 hc;exact aQ.sr hf hb hcall hc' hrs hn (fun w D E=>(h w D E).sub (XF args))
end Go.Abs
namespace Go.Abs.C
open Go Go.Abs
abbrev o(a:Nat)(x:bq):ar:=⟨some a,x,none⟩
abbrev bT(a:Nat)(x:bq)(k:Nat):ar:=⟨some a,x,some (k,true)⟩
abbrev on(a:Nat)(x:bq)(k:Nat):ar:=⟨some a,x,some (k,false)⟩
abbrev p(x:bq):ar:=⟨none,x,none⟩
abbrev aY(n:Int):au:=.c (.int .i64 n)
abbrev T:au:=.c (.bool true)
abbrev bh:au:=.c (.bool false)
abbrev m(a b:Nat):ar:=⟨some a,.mv (.t b),none⟩
abbrev c6(a b k:Nat):ar:=⟨some a,.mv (.t b),some (k,true)⟩
abbrev dS(a b k:Nat):ar:=⟨some a,.mv (.t b),some (k,false)⟩
abbrev bw(a:Nat)(n:Int):ar:=⟨some a,.mv (.c (.int .i64 n)),none⟩
abbrev l(a b:Nat):ar:=⟨some a,.ld none (.t b),none⟩
abbrev gF(a b k:Nat):ar:=⟨some a,.ld none (.t b),some (k,true)⟩
abbrev gm(a b k:Nat):ar:=⟨some a,.ld none (.t b),some (k,false)⟩
abbrev av(a s b:Nat):ar:=⟨some a,.ld (some s) (.t b),none⟩
abbrev f(a b c d:Nat):ar:=⟨some a,.fa b c (.t d),none⟩
abbrev ed(a b c d k:Nat):ar:=⟨some a,.fa b c (.t d),some (k,true)⟩
abbrev fn(a b c d k:Nat):ar:=⟨some a,.fa b c (.t d),some (k,false)⟩
abbrev ad(a b:Nat)(n:Int):ar:=⟨some a,.bin .add (.t b) (.c (.int .i64 n)),none⟩
abbrev lt(a b c:Nat):ar:=⟨some a,.bin .lss (.t b) (.t c),none⟩
abbrev and(a b c:Nat):ar:=⟨some a,.pick (.t b) (.t c) (.c (.bool false)),none⟩
abbrev or(a b c:Nat):ar:=⟨some a,.pick (.t b) (.c (.bool true)) (.t c),none⟩
abbrev no(a b:Nat):ar:=⟨some a,.un .not (.t b),none⟩
abbrev b(a c:Nat):ar:=⟨some a,.box (.t c),none⟩
abbrev s(x y:bj):bj:=.seq x y
abbrev r(g:List ar):bj:=.bX none g
abbrev bY(P:Program)(f:Func)(c:bj):Prop:=f.body.bind (dN P f.ntmps)=some c
abbrev bU(P:Program)(f:Func)(r:List bt):Prop:=fO P f.results.toList=some r
abbrev bJ(P:Program)(n:FuncId):Prop:=dO P n=true
theorem e{α:Type}{a b:α}(h:a=b):a=b:=h
end Go.Abs.C
namespace Go.Proofs.YtoffnnjbplgnaaaGreatDoor
open Go Go.Abs Go.Abs.C
def P8:=[b 4 1,o 6 (.mv bh)]
def P9:=[o 29 (.call 14 []),m 7 29]
def Qk:=[m 30 0,o 31 (.call 26 [.t 30,(aY 12)]),m 8 31]
def Qv:=[m 32 2,o 33 (.call 26 [.t 32,(aY 12)]),m 9 33]
def Qy:=[m 35 8,o 36 (.call 27 [.t 35]),m 34 36,o 37 (.ext (.t 34) 0),o 38 (.ext (.t 34) 1),m 10 37,m 11 38]
def Qz:=[m 40 9,o 41 (.call 27 [.t 40]),m 39 41,o 42 (.ext (.t 39) 0),o 43 (.ext (.t 39) 1),m 12 42,m 13 43]
def QA:=[m 45 10,o 46 (.call 15 [.t 45]),m 44 46,o 47 (.ext (.t 44) 0),o 48 (.ext (.t 44) 1),m 14 47,m 15 48]
def QB:=[m 49 7,no 50 49,m 51 50,dS 52 11 51,on 53 (.un .not (.t 52)) 51,or 54 51 53,m 55 54,dS 56 13 55,on 57 (.un .not (.t 56)) 55,or 58 55 57,m 59 58,dS 60 15 59,dS 61 10 59,on 62 (.bin .neq (.t 60) (.t 61)) 59,or 63 59 62]
def QC:=[o 6 (.mv bh)]
def QD:=[m 64 14,m 65 8,o 66 (.call 17 [.t 64,.t 65]),m 16 66]
def Qa:=[m 67 8,m 68 9,o 69 (.call 17 [.t 67,.t 68]),m 17 69]
def Qb:=[m 70 16,no 71 70,m 72 71,dS 73 17 72,dS 74 10 72,dS 75 12 72,on 76 (.bin .eql (.t 74) (.t 75)) 72,on 77 (.eqv .b true (.t 73) (.t 76)) 72,or 78 72 77]
def Qc:=[o 6 (.mv bh)]
def Qd:=[o 79 (.ia 2 1 (.t 4) (aY 0)),l 80 79,m 81 10,o 82 (.lenT (.t 81)),ad 83 82 1,o 84 (.call 28 [.t 80,.t 83]),m 18 84]
def Qe:=[m 86 10,m 87 18,o 88 (.prim (.ss false true) [.t 86,.t 87]),o 89 (.call 15 [.t 88]),m 85 89,o 90 (.ext (.t 85) 0),o 91 (.ext (.t 85) 1),m 19 90,m 20 91]
def Qf:=[m 92 20,o 93 (.lenT (.t 92)),m 94 18,o 95 (.bin .gtr (.t 93) (.t 94)),m 96 95,dS 97 20 96,dS 98 10 96,dS 99 20 96,on 100 (.lenT (.t 99)) 96,on 101 (.prim (.ss false true) [.t 98,.t 100]) 96,on 102 (.bin .neq (.t 97) (.t 101)) 96,or 103 96 102,m 104 103,dS 105 19 104,on 106 (.len (.t 105)) 104,dS 107 8 104,on 108 (.len (.t 107)) 104,on 109 (.bin .gtr (.t 106) (.t 108)) 104,or 110 104 109]
def Qg:=[o 6 (.mv bh)]
def Qh:=[m 111 19,m 112 8,m 113 19,o 114 (.len (.t 113)),m 115 19,o 116 (.len (.t 115)),o 117 (.sl 8 (.t 112) none (some (.t 114)) (some (.t 116))),o 118 (.call 17 [.t 111,.t 117]),m 21 118]
def Qi:=[m 119 21,no 120 119,m 121 120,dS 122 19 121,on 123 (.len (.t 122)) 121,dS 124 8 121,on 125 (.len (.t 124)) 121,on 126 (.bin .lss (.t 123) (.t 125)) 121,dS 127 126 121,c6 128 18 127,c6 129 10 127,bT 130 (.lenT (.t 129)) 127,bT 131 (.bin .eql (.t 128) (.t 130)) 127,on 132 (.pick (.t 127) (.t 131) bh) 121,or 133 121 132,m 134 133,dS 135 10 134,on 136 (.lenT (.t 135)) 134,on 137 (.bin .eql (.t 136) (aY 0)) 134,or 138 134 137]
def Qj:=[m 139 21,m 140 139,c6 141 10 140,bT 142 (.lenT (.t 141)) 140,bT 143 (.bin .eql (.t 142) (aY 0)) 140,and 144 140 143,m 6 144]
def Ql:=[m 145 10,o 146 (.ef (.t 145)),m 22 146]
def Qm:=[o 147 (.ia 2 1 (.t 4) (aY 1)),l 148 147,m 149 10,o 150 (.lenT (.t 149)),o 151 (.call 28 [.t 148,.t 150]),m 23 151]
def Qn:=[m 152 22,m 153 23,o 154 (.is 1 (.t 152) (.t 153)),p (.aV none (.t 154) (.c (.int .u8 63)))]
def Qo:=[m 156 22,o 157 (.b2s (.t 156)),o 158 (.call 15 [.t 157]),m 155 158,o 159 (.ext (.t 155) 0),o 160 (.ext (.t 155) 1),m 24 159,m 25 160]
def Qp:=[m 161 24,m 162 8,m 163 24,o 164 (.len (.t 163)),m 165 8,o 166 (.len (.t 165)),o 167 (.prim .min2 [.t 164,.t 166]),m 168 24,o 169 (.len (.t 168)),m 170 8,o 171 (.len (.t 170)),o 172 (.prim .min2 [.t 169,.t 171]),o 173 (.sl 8 (.t 162) none (some (.t 167)) (some (.t 172))),o 174 (.call 17 [.t 161,.t 173]),m 26 174]
def Qq:=[bw 27 0]
def Qr:=[bw 28 0]
def Qs:=[m 175 28,m 176 23,lt 177 175 176]
def Qt:=[m 180 10,m 181 28,o 182 (.prim .dK [.t 180,.t 181]),o 183 (.bin .eql (.t 182) (.c (.int .u8 10)))]
def Qu:=[m 184 27,ad 185 184 1,m 27 185]
def Qw:=[m 178 28,ad 179 178 1,m 28 179]
def Qx:=[m 186 26,m 187 186,c6 188 25 187,bT 189 (.lenT (.t 188)) 187,c6 190 23 187,bT 191 (.bin .leq (.t 189) (.t 190)) 187,and 192 187 191,m 193 192,c6 194 24 193,bT 195 (.len (.t 194)) 193,c6 196 27 193,bT 197 (.bin .eql (.t 195) (.t 196)) 193,and 198 193 197,m 6 198]
def c5:bj:=(s (r P8) (s (r P9) (s (r Qk) (s (r Qv) (s (r Qy) (s (r Qz) (s (r QA) (s (s (r QB) (.cond (.t 63) (s (r QC) .ret) .skip)) (s (r QD) (s (r Qa) (s (s (r Qb) (.cond (.t 78) (s (r Qc) .ret) .skip)) (s (r Qd) (s (r Qe) (s (s (r Qf) (.cond (.t 110) (s (r Qg) .ret) .skip)) (s (r Qh) (s (s (r Qi) (.cond (.t 138) (s (r Qj) .ret) .skip)) (s (r Ql) (s (r Qm) (s (r Qn) (s (r Qo) (s (r Qp) (s (r Qq) (s (s (r Qr) (.block 0 (.loop (s (s (r Qs) (.cond (.t 177) .skip (.exit 0))) (s (.block 1 (s (r Qt) (.cond (.t 183) (r Qu) .skip))) (r Qw)))))) (s (r Qx) .ret))))))))))))))))))))))))
def CF:List bt:=[.tmp 6]
theorem Ip:bY Tryz.prog Tryz.f5 c5:=e (by kernel_rfl)
theorem JC:bU Tryz.prog Tryz.f5 CF:=e (by kernel_rfl)
theorem Hf:bJ Tryz.prog 5:=e (by kernel_rfl)
def MW:=[o 0 (.mv bh)]
def MX:=[o 21 (.bld [.int .i64 0,.int .i64 0] [(0,(aY 2))]),o 22 (.bld [.agg [.int .i64 0,.int .i64 0],.int .i64 0,.int .i64 0,.int .i64 0,.agg [.int .i64 0,.int .i64 0],.aj ⟨#[]⟩] [(0,(.t 21)),(1,(aY 5)),(2,(aY 10)),(3,(aY 12)),(5,(.c (.aj ⟨#[97]⟩)))]),o 1 (.alloc (.agg [.agg [.int .i64 0,.int .i64 0],.int .i64 0,.int .i64 0,.int .i64 0,.agg [.int .i64 0,.int .i64 0],.aj ⟨#[]⟩])),p (.aV (some 8) (.t 1) (.t 22))]
def M0:=[av 24 8 1,o 25 (.call 29 [(aY 1),.t 24]),m 23 25,o 26 (.ext (.t 23) 0),o 27 (.ext (.t 23) 1),o 28 (.ext (.t 23) 2),m 2 26,m 3 27,m 4 28]
def M2:=[m 30 2,o 31 (.call 31 [(aY 1),.t 30]),m 29 31,o 32 (.ext (.t 29) 0),o 33 (.ext (.t 29) 1),o 34 (.ext (.t 29) 2),o 5 (.alloc (.agg [.agg [.int .i64 0,.int .i64 0],.int .i64 0,.int .i64 0,.int .i64 0,.agg [.int .i64 0,.int .i64 0],.aj ⟨#[]⟩])),p (.aV (some 8) (.t 5) (.t 32)),m 6 33,m 7 34]
def M3:=[o 36 (.bld [.agg [.aj ⟨#[]⟩,.aj ⟨#[]⟩],.agg [.aj ⟨#[]⟩,.aj ⟨#[]⟩]] []),av 37 8 1,o 38 (.call 35 [.t 36,(.c (.nils 8)),.t 37]),m 35 38,o 39 (.ext (.t 35) 0),o 40 (.ext (.t 35) 1),o 41 (.ext (.t 35) 2),o 8 (.alloc (.agg [.agg [.aj ⟨#[]⟩,.aj ⟨#[]⟩],.agg [.aj ⟨#[]⟩,.aj ⟨#[]⟩]])),p (.aV (some 4) (.t 8) (.t 39)),m 9 40,m 10 41]
def M4:=[av 43 4 8,o 44 (.call 22 [.t 43,(.c (.nils 1))]),o 45 (.call 18 [.t 44]),m 42 45,o 46 (.ext (.t 42) 0),o 47 (.ext (.t 42) 1),o 11 (.alloc (.agg [.agg [.aj ⟨#[]⟩,.aj ⟨#[]⟩],.agg [.aj ⟨#[]⟩,.aj ⟨#[]⟩]])),p (.aV (some 4) (.t 11) (.t 46)),m 12 47]
def M5:=[av 49 4 8,f 50 0 0 8,f 51 1 1 50,l 52 51,o 53 (.lenT (.t 52)),o 54 (.bs 3 1 [.t 53,(aY 0),(aY 0)]),o 55 (.call 22 [.t 49,.t 54]),o 56 (.call 18 [.t 55]),m 48 56,o 57 (.ext (.t 48) 0),o 58 (.ext (.t 48) 1),o 13 (.alloc (.agg [.agg [.aj ⟨#[]⟩,.aj ⟨#[]⟩],.agg [.aj ⟨#[]⟩,.aj ⟨#[]⟩]])),p (.aV (some 4) (.t 13) (.t 57)),m 14 58]
def M6:=[av 60 4 8,f 61 0 0 8,f 62 1 1 61,l 63 62,o 64 (.lenT (.t 63)),o 65 (.bs 3 1 [.t 64,(aY 1),(aY 3)]),o 66 (.call 22 [.t 60,.t 65]),o 67 (.call 18 [.t 66]),m 59 67,o 68 (.ext (.t 59) 0),o 69 (.ext (.t 59) 1),o 15 (.alloc (.agg [.agg [.aj ⟨#[]⟩,.aj ⟨#[]⟩],.agg [.aj ⟨#[]⟩,.aj ⟨#[]⟩]])),p (.aV (some 4) (.t 15) (.t 68)),m 16 69]
def M7:=[av 71 4 8,o 72 (.call 20 [.t 71]),o 73 (.call 24 [.t 72,bh]),o 74 (.call 18 [.t 73]),m 70 74,o 75 (.ext (.t 70) 0),o 76 (.ext (.t 70) 1),o 17 (.alloc (.agg [.agg [.aj ⟨#[]⟩,.aj ⟨#[]⟩],.agg [.aj ⟨#[]⟩,.aj ⟨#[]⟩]])),p (.aV (some 4) (.t 17) (.t 75)),m 18 76]
def M8:=[m 77 4,o 78 (.bin .eql (.t 77) (aY 0)),m 79 78,c6 80 7 79,bT 81 (.bin .eql (.t 80) (aY 0)) 79,and 82 79 81,m 83 82,c6 84 10 83,bT 85 (.bin .eql (.t 84) (aY 0)) 83,and 86 83 85,m 87 86,c6 88 9 87,bT 89 (.len (.t 88)) 87,bT 90 (.bin .eql (.t 89) (aY 1)) 87,and 91 87 90,m 19 91]
def MY:=[m 92 2,o 93 (.lenT (.t 92)),o 94 (.bin .gtr (.t 93) (aY 18)),m 95 94,c6 96 2 95,c6 97 2 95,bT 98 (.lenT (.t 97)) 95,bT 99 (.bin .sub (.t 98) (aY 18)) 95,bT 100 (.prim (.ss true false) [.t 96,.t 99]) 95,bT 101 (.bin .eql (.t 100) (.c (.aj ⟨#[50,32,48,32,53,32,49,48,32,49,50,32,48,32,48,32,97,10]⟩))) 95,and 102 95 101,m 20 102]
def MZ:=[m 103 19,m 104 103,c6 105 20 104,and 106 104 105,m 107 106,bT 108 (.ld (some 8) (.t 5)) 107,bT 109 (.ld (some 8) (.t 1)) 107,bT 110 (.eqv (.aV [(.aV [(.i .i64),(.i .i64)]),(.i .i64),(.i .i64),(.i .i64),(.aV [(.i .i64),(.i .i64)]),.s]) false (.t 108) (.t 109)) 107,and 111 107 110,m 112 111,c6 113 6 112,c6 114 3 112,bT 115 (.bin .eql (.t 113) (.t 114)) 112,and 116 112 115,m 117 116,ed 118 0 0 8 117,ed 119 1 1 118 117,gF 120 119 117,c6 121 2 117,bT 122 (.bin .eql (.t 120) (.t 121)) 117,and 123 117 122,m 124 123,ed 125 1 2 8 124,bT 126 (.ld (some 2) (.t 125)) 124,bT 127 (.bld [.aj ⟨#[]⟩,.aj ⟨#[]⟩] []) 124,bT 128 (.eqv (.aV [.s,.s]) false (.t 126) (.t 127)) 124,and 129 124 128,m 130 129,c6 131 12 130,bT 132 (.len (.t 131)) 130,bT 133 (.bin .eql (.t 132) (aY 0)) 130,and 134 130 133,m 135 134,c6 136 14 135,bT 137 (.len (.t 136)) 135,bT 138 (.bin .eql (.t 137) (aY 1)) 135,and 139 135 138,m 140 139,c6 141 16 140,bT 142 (.len (.t 141)) 140,bT 143 (.bin .eql (.t 142) (aY 0)) 140,and 144 140 143,m 145 144,c6 146 18 145,bT 147 (.len (.t 146)) 145,bT 148 (.bin .eql (.t 147) (aY 1)) 145,and 149 145 148,m 150 149,ed 151 0 0 17 150,ed 152 0 0 151 150,gF 153 152 150,c6 154 2 150,bT 155 (.bin .eql (.t 153) (.t 154)) 150,and 156 150 155,m 157 156,ed 158 1 2 17 157,ed 159 0 0 158 157,gF 160 159 157,c6 161 2 157,bT 162 (.bin .eql (.t 160) (.t 161)) 157,and 163 157 162,m 0 163]
def xV:bj:=(s (r MW) (s (r MX) (s (r M0) (s (r M2) (s (r M3) (s (r M4) (s (r M5) (s (r M6) (s (r M7) (s (r M8) (s (r MY) (s (r MZ) .ret))))))))))))
def Ci:List bt:=[.tmp 0]
theorem HZ:bY Tryz.prog Tryz.f14 xV:=e (by kernel_rfl)
theorem Jf:bU Tryz.prog Tryz.f14 Ci:=e (by kernel_rfl)
theorem GQ:bJ Tryz.prog 14:=e (by kernel_rfl)
def Nk:=[o 2 (.mv (.c (.nils 8))),o 3 (.mv (.c (.aj ⟨#[]⟩)))]
def Nl:=[o 4 (.alloc (.nils 8))]
def Np:=[o 5 (.alloc (.int .i64 0)),o 6 (.alloc (.int .i64 0)),p (.aV none (.t 5) (aY 1)),p (.aV none (.t 6) (aY 0))]
def Nq:=[m 11 0,o 12 (.call 69 [.t 11])]
def Nr:=[m 7 13]
def Nt:=[l 15 5,m 16 7,o 17 (.call 70 [.t 15,.t 16]),m 14 17,o 18 (.ext (.t 14) 0),o 19 (.ext (.t 14) 1),o 20 (.ext (.t 14) 2),o 8 (.alloc (.agg [.agg [.int .i64 0,.int .i64 0],.int .i64 0,.int .i64 0,.int .i64 0,.agg [.int .i64 0,.int .i64 0],.aj ⟨#[]⟩])),p (.aV (some 8) (.t 8) (.t 18)),m 9 19,m 10 20]
def Nu:=[m 21 10,no 22 21,m 23 22,gm 24 4 23,on 25 (.ld (some 8) (.t 8)) 23,on 26 (.call 71 [.t 24,.t 25]) 23,on 27 (.un .not (.t 26)) 23,or 28 23 27]
def Nv:=[l 29 4,av 30 8 8,o 31 (.bs 50 8 [.t 30]),o 32 (.dM 50 8 72 (.agg [.agg [.int .i64 0,.int .i64 0],.int .i64 0,.int .i64 0,.int .i64 0,.agg [.int .i64 0,.int .i64 0],.aj ⟨#[]⟩]) (.t 29) (.t 31)),p (.aV none (.t 4) (.t 32))]
def Nw:=[m 33 9,p (.aV none (.t 5) (.t 33))]
def Nx:=[l 34 6,m 35 7,o 36 (.lenT (.t 35)),o 37 (.bin .add (.t 34) (.t 36)),p (.aV none (.t 6) (.t 37))]
def Nn:=[l 38 4,m 39 0,l 40 6,o 41 (.prim (.ss false true) [.t 39,.t 40]),m 2 38,m 3 41]
def Kc:=some [[],[],[],[1,2],[0,0],[3,4,0,1,2,3,4]]
def xX:bj:=(s (r Nk) (s (r Nl) (s (r Np) (s (s (r Nq) (.block 0 (.mS (.t 12) [13] (r Nr) (.block 1 (s (r Nt) (s (s (r Nu) (.cond (.t 28) (.exit 0) .skip)) (s (r Nv) (s (r Nw) (r Nx))))))))) (s (.bX Kc Nn) .ret)))))
def Ck:List bt:=[.tmp 2,.tmp 3]
theorem H2:bY Tryz.prog Tryz.f15 xX:=e (by kernel_rfl)
theorem Jh:bU Tryz.prog Tryz.f15 Ck:=e (by kernel_rfl)
theorem GS:bJ Tryz.prog 15:=e (by kernel_rfl)
def N6:=[o 4 (.mv bh)]
def N7:=[m 7 0,o 8 (.len (.t 7)),m 9 1,o 10 (.len (.t 9)),o 11 (.bin .eql (.t 8) (.t 10)),m 5 11]
def N8:=[bw 6 0]
def N9:=[m 12 6,m 13 0,o 14 (.len (.t 13)),lt 15 12 14,m 16 15,c6 17 5 16,and 18 16 17]
def Oa:=[m 21 0,m 22 6,o 23 (.is 8 (.t 21) (.t 22)),av 24 8 23,m 25 1,m 26 6,o 27 (.is 8 (.t 25) (.t 26)),av 28 8 27,o 29 (.eqv (.aV [(.aV [(.i .i64),(.i .i64)]),(.i .i64),(.i .i64),(.i .i64),(.aV [(.i .i64),(.i .i64)]),.s]) false (.t 24) (.t 28)),m 5 29]
def Ke:=some [[],[],[0,1],[2],[],[],[4,5],[6],[3,7],[8,0,1,2,3,4,5,6,7,8]]
def Ob:=[m 19 6,ad 20 19 1,m 6 20]
def Oc:=[m 30 5,m 4 30]
def ya:bj:=(s (r N6) (s (r N7) (s (s (r N8) (.block 0 (.loop (s (s (r N9) (.cond (.t 18) .skip (.exit 0))) (s (.block 1 (.bX Ke Oa)) (r Ob)))))) (s (r Oc) .ret))))
def Cp:List bt:=[.tmp 4]
theorem H7:bY Tryz.prog Tryz.f17 ya:=e (by kernel_rfl)
theorem Jm:bU Tryz.prog Tryz.f17 Cp:=e (by kernel_rfl)
theorem G0:bJ Tryz.prog 17:=e (by kernel_rfl)
def OO:=[b 1 0,o 2 (.alloc (.agg [.agg [.aj ⟨#[]⟩,.aj ⟨#[]⟩],.agg [.aj ⟨#[]⟩,.aj ⟨#[]⟩]])),o 3 (.mv (.c (.nils 8)))]
def OP:=[f 10 0 0 1,av 11 2 10,o 12 (.call 73 [.t 11]),o 13 (.call 15 [.t 12]),m 9 13,o 14 (.ext (.t 9) 0),o 15 (.ext (.t 9) 1),m 4 14,m 5 15]
def OQ:=[f 17 1 2 1,av 18 2 17,o 19 (.call 73 [.t 18]),o 20 (.call 15 [.t 19]),m 16 20,o 21 (.ext (.t 16) 0),o 22 (.ext (.t 16) 1),m 6 21,m 7 22]
def OR:=[m 23 6,o 24 (.len (.t 23)),m 25 4,o 26 (.len (.t 25)),o 27 (.bin .gtr (.t 24) (.t 26))]
def OS:=[m 28 6,m 29 7,m 4 28,m 5 29]
def OT:=[m 30 5,o 31 (.call 74 [.t 30]),o 32 (.bld [.aj ⟨#[]⟩,.aj ⟨#[]⟩] [(0,(.t 31))]),o 8 (.alloc (.agg [.aj ⟨#[]⟩,.aj ⟨#[]⟩])),p (.aV (some 2) (.t 8) (.t 32))]
def OU:=[av 33 2 8,av 34 2 8,o 35 (.bld [.agg [.aj ⟨#[]⟩,.aj ⟨#[]⟩],.agg [.aj ⟨#[]⟩,.aj ⟨#[]⟩]] [(0,(.t 33)),(1,(.t 34))]),m 36 4,p (.aV (some 4) (.t 2) (.t 35)),m 3 36]
def yc:bj:=(s (r OO) (s (r OP) (s (s (r OQ) (s (r OR) (.cond (.t 27) (r OS) .skip))) (s (r OT) (s (r OU) .ret)))))
def Cs:List bt:=[.cell 2 (some 4),.tmp 3]
theorem Ia:bY Tryz.prog Tryz.f18 yc:=e (by kernel_rfl)
theorem Jp:bU Tryz.prog Tryz.f18 Cs:=e (by kernel_rfl)
theorem G2:bJ Tryz.prog 18:=e (by kernel_rfl)
def OV:=[b 1 0,o 2 (.alloc (.agg [.agg [.aj ⟨#[]⟩,.aj ⟨#[]⟩],.agg [.aj ⟨#[]⟩,.aj ⟨#[]⟩]]))]
def OW:=[f 4 0 0 1,av 5 2 4,o 6 (.call 73 [.t 5]),o 7 (.bld [.aj ⟨#[]⟩,.aj ⟨#[]⟩] [(0,(.t 6))]),o 3 (.alloc (.agg [.aj ⟨#[]⟩,.aj ⟨#[]⟩])),p (.aV (some 2) (.t 3) (.t 7))]
def OX:=[av 8 2 3,av 9 2 3,o 10 (.bld [.agg [.aj ⟨#[]⟩,.aj ⟨#[]⟩],.agg [.aj ⟨#[]⟩,.aj ⟨#[]⟩]] [(0,(.t 8)),(1,(.t 9))]),p (.aV (some 4) (.t 2) (.t 10))]
def c20:bj:=(s (r OV) (s (r OW) (s (r OX) .ret)))
def Cu:List bt:=[.cell 2 (some 4)]
theorem Ic:bY Tryz.prog Tryz.f20 c20:=e (by kernel_rfl)
theorem Jr:bU Tryz.prog Tryz.f20 Cu:=e (by kernel_rfl)
theorem G4:bJ Tryz.prog 20:=e (by kernel_rfl)
def OY:=[b 2 0,o 4 (.alloc (.agg [.agg [.aj ⟨#[]⟩,.aj ⟨#[]⟩],.agg [.aj ⟨#[]⟩,.aj ⟨#[]⟩]]))]
def OZ:=[f 5 0 0 2,av 6 2 5,m 7 1,o 8 (.call 75 [.t 6,.t 7,(aY 0)]),f 9 1 2 2,av 10 2 9,m 11 1,o 12 (.call 75 [.t 10,.t 11,(aY 3)]),o 13 (.bld [.agg [.aj ⟨#[]⟩,.aj ⟨#[]⟩],.agg [.aj ⟨#[]⟩,.aj ⟨#[]⟩]] [(0,(.t 8)),(1,(.t 12))]),p (.aV (some 4) (.t 4) (.t 13))]
def Kf:=some [[],[0],[],[1,2],[],[4],[],[5,6,3],[3,7],[8,7,0,1,2,3,4,5,6,7,8]]
def yf:bj:=(s (r OY) (s (.bX Kf OZ) .ret))
def Cv:List bt:=[.cell 4 (some 4)]
theorem Ie:bY Tryz.prog Tryz.f22 yf:=e (by kernel_rfl)
theorem Js:bU Tryz.prog Tryz.f22 Cv:=e (by kernel_rfl)
theorem G5:bJ Tryz.prog 22:=e (by kernel_rfl)
def O0:=[b 2 0,o 4 (.alloc (.agg [.agg [.aj ⟨#[]⟩,.aj ⟨#[]⟩],.agg [.aj ⟨#[]⟩,.aj ⟨#[]⟩]]))]
def O1:=[m 5 1]
def O2:=[o 6 (.bld [.aj ⟨#[]⟩,.aj ⟨#[]⟩] []),f 7 1 2 2,p (.aV (some 2) (.t 7) (.t 6))]
def O3:=[o 8 (.bld [.aj ⟨#[]⟩,.aj ⟨#[]⟩] []),f 9 0 0 2,p (.aV (some 2) (.t 9) (.t 8))]
def O4:=[av 10 4 2,p (.aV (some 4) (.t 4) (.t 10))]
def yg:bj:=(s (r O0) (s (s (r O1) (.cond (.t 5) (r O2) (r O3))) (s (r O4) .ret)))
def Cw:List bt:=[.cell 4 (some 4)]
theorem If:bY Tryz.prog Tryz.f24 yg:=e (by kernel_rfl)
theorem Jt:bU Tryz.prog Tryz.f24 Cw:=e (by kernel_rfl)
theorem G6:bJ Tryz.prog 24:=e (by kernel_rfl)
def O5:=[o 4 (.mv (.c (.nils 8)))]
def O6:=[o 5 (.mv (.c (.nils 8)))]
def O7:=[bw 6 0]
def O8:=[m 7 6,m 8 0,o 9 (.len (.t 8)),lt 10 7 9,m 11 10,c6 12 6 11,c6 13 1 11,bT 14 (.bin .lss (.t 12) (.t 13)) 11,and 15 11 14]
def O9:=[m 18 5,m 19 5,m 20 0,m 21 6,o 22 (.is 5 (.t 20) (.t 21)),av 23 5 22,o 24 (.call 78 [.t 19,.t 23]),o 25 (.bs 50 8 [.t 24]),o 26 (.dM 50 8 72 (.agg [.agg [.int .i64 0,.int .i64 0],.int .i64 0,.int .i64 0,.int .i64 0,.agg [.int .i64 0,.int .i64 0],.aj ⟨#[]⟩]) (.t 18) (.t 25)),m 5 26]
def Pa:=[m 16 6,ad 17 16 1,m 6 17]
def Pb:=[m 27 5,m 4 27]
def yh:bj:=(s (r O5) (s (r O6) (s (s (r O7) (.block 0 (.loop (s (s (r O8) (.cond (.t 15) .skip (.exit 0))) (s (.block 1 (r O9)) (r Pa)))))) (s (r Pb) .ret))))
def Cx:List bt:=[.tmp 4]
theorem Ig:bY Tryz.prog Tryz.f26 yh:=e (by kernel_rfl)
theorem Ju:bU Tryz.prog Tryz.f26 Cx:=e (by kernel_rfl)
theorem G7:bJ Tryz.prog 26:=e (by kernel_rfl)
def Pc:=[o 2 (.mv (.c (.aj ⟨#[]⟩))),o 3 (.mv bh)]
def Pd:=[o 4 (.mv (.c (.aj ⟨#[]⟩)))]
def Pg:=[bw 5 1]
def Ph:=[bw 6 0]
def Pj:=[m 10 6,m 11 0,o 12 (.len (.t 11)),lt 13 10 12]
def Pk:=[m 17 5,m 18 0,m 19 6,o 20 (.is 8 (.t 18) (.t 19)),av 21 8 20,o 22 (.call 29 [.t 17,.t 21]),m 16 22,o 23 (.ext (.t 16) 0),o 24 (.ext (.t 16) 1),o 25 (.ext (.t 16) 2),m 7 23,m 8 24,m 9 25]
def Pl:=[m 26 9,o 27 (.bin .neq (.t 26) (aY 0))]
def Pm:=[o 2 (.mv (.c (.aj ⟨#[]⟩))),o 3 (.mv bh)]
def Pn:=[m 28 4,m 29 7,o 30 (.bin .add (.t 28) (.t 29)),m 4 30]
def Po:=[m 31 8,m 5 31]
def Pe:=[m 14 6,ad 15 14 1,m 6 15]
def Pf:=[m 32 4,m 2 32,o 3 (.mv T)]
def yi:bj:=(s (r Pc) (s (r Pd) (s (r Pg) (s (s (r Ph) (.block 0 (.loop (s (s (r Pj) (.cond (.t 13) .skip (.exit 0))) (s (.block 1 (s (r Pk) (s (s (r Pl) (.cond (.t 27) (s (r Pm) .ret) .skip)) (s (r Pn) (r Po))))) (r Pe)))))) (s (r Pf) .ret)))))
def Cy:List bt:=[.tmp 2,.tmp 3]
theorem Ih:bY Tryz.prog Tryz.f27 yi:=e (by kernel_rfl)
theorem Jv:bU Tryz.prog Tryz.f27 Cy:=e (by kernel_rfl)
theorem G8:bJ Tryz.prog 27:=e (by kernel_rfl)
def Pp:=[bw 4 0]
def Pq:=[m 5 0,m 6 1,o 7 (.bin .rem (.t 5) (.t 6)),m 8 1,o 9 (.bin .add (.t 7) (.t 8)),m 10 1,o 11 (.bin .rem (.t 9) (.t 10)),m 4 11]
def yj:bj:=(s (r Pp) (s (r Pq) .ret))
def Cz:List bt:=[.tmp 4]
theorem Ii:bY Tryz.prog Tryz.f28 yj:=e (by kernel_rfl)
theorem Jw:bU Tryz.prog Tryz.f28 Cz:=e (by kernel_rfl)
theorem G9:bJ Tryz.prog 28:=e (by kernel_rfl)
def Pr:=[b 3 1,o 4 (.mv (.c (.aj ⟨#[]⟩))),bw 5 0,bw 6 0]
def Ps:=[m 10 0,o 11 (.call 79 [.t 10]),no 12 11,m 9 12]
def Pt:=[o 4 (.mv (.c (.aj ⟨#[]⟩))),bw 5 0,bw 6 1]
def Pu:=[av 14 8 3,o 15 (.call 80 [.t 14]),no 16 15,m 13 16]
def Pv:=[o 4 (.mv (.c (.aj ⟨#[]⟩))),bw 5 0,bw 6 80]
def Pw:=[m 18 0,av 19 8 3,o 20 (.call 81 [.t 18,.t 19]),m 17 20,o 21 (.ext (.t 17) 0),o 22 (.ext (.t 17) 1),m 7 21,m 8 22]
def Px:=[m 23 7,m 24 8,m 4 23,m 5 24,bw 6 0]
def yk:bj:=(s (r Pr) (s (.block 0 (s (r Ps) (.cond (.t 9) (s (r Pt) .ret) (s (r Pu) (.cond (.t 13) (s (r Pv) .ret) .skip))))) (s (r Pw) (s (r Px) .ret))))
def CA:List bt:=[.tmp 4,.tmp 5,.tmp 6]
theorem Ij:bY Tryz.prog Tryz.f29 yk:=e (by kernel_rfl)
theorem Jx:bU Tryz.prog Tryz.f29 CA:=e (by kernel_rfl)
theorem Ha:bJ Tryz.prog 29:=e (by kernel_rfl)
def Py:=[o 4 (.alloc (.agg [.agg [.int .i64 0,.int .i64 0],.int .i64 0,.int .i64 0,.int .i64 0,.agg [.int .i64 0,.int .i64 0],.aj ⟨#[]⟩])),bw 5 0,bw 6 0]
def Pz:=[m 10 0,o 11 (.call 79 [.t 10]),no 12 11]
def PA:=[o 13 (.bld [.agg [.int .i64 0,.int .i64 0],.int .i64 0,.int .i64 0,.int .i64 0,.agg [.int .i64 0,.int .i64 0],.aj ⟨#[]⟩] []),p (.aV (some 8) (.t 4) (.t 13)),bw 5 0,bw 6 1]
def PB:=[m 15 0,m 16 1,o 17 (.call 70 [.t 15,.t 16]),m 14 17,o 18 (.ext (.t 14) 0),o 19 (.ext (.t 14) 1),o 20 (.ext (.t 14) 2),o 7 (.alloc (.agg [.agg [.int .i64 0,.int .i64 0],.int .i64 0,.int .i64 0,.int .i64 0,.agg [.int .i64 0,.int .i64 0],.aj ⟨#[]⟩])),p (.aV (some 8) (.t 7) (.t 18)),m 8 19,m 9 20]
def PC:=[m 21 9,no 22 21]
def PD:=[o 23 (.bld [.agg [.int .i64 0,.int .i64 0],.int .i64 0,.int .i64 0,.int .i64 0,.agg [.int .i64 0,.int .i64 0],.aj ⟨#[]⟩] []),p (.aV (some 8) (.t 4) (.t 23)),bw 5 0,bw 6 87]
def PE:=[av 24 8 7,m 25 8,p (.aV (some 8) (.t 4) (.t 24)),m 5 25,bw 6 0]
def yl:bj:=(s (r Py) (s (s (r Pz) (.cond (.t 12) (s (r PA) .ret) .skip)) (s (r PB) (s (s (r PC) (.cond (.t 22) (s (r PD) .ret) .skip)) (s (r PE) .ret)))))
def CB:List bt:=[.cell 4 (some 8),.tmp 5,.tmp 6]
theorem Ik:bY Tryz.prog Tryz.f31 yl:=e (by kernel_rfl)
theorem Jy:bU Tryz.prog Tryz.f31 CB:=e (by kernel_rfl)
theorem Hb:bJ Tryz.prog 31:=e (by kernel_rfl)
def PF:=[b 1 0,bw 2 0]
def PG:=[f 3 0 0 1,av 4 2 3,o 5 (.call 85 [.t 4]),no 6 5,m 7 6,fn 8 1 2 1 7,gm 9 8 7,on 10 (.call 82 [.t 9,(aY 0),(aY 40)]) 7,on 11 (.un .not (.t 10)) 7,or 12 7 11,m 13 12,fn 14 2 3 1 13,gm 15 14 13,on 16 (.call 82 [.t 15,(aY 0),(aY 100000)]) 13,on 17 (.un .not (.t 16)) 13,or 18 13 17,m 19 18,fn 20 3 4 1 19,gm 21 20 19,on 22 (.call 82 [.t 21,(aY 0),(aY 100000)]) 19,on 23 (.un .not (.t 22)) 19,or 24 19 23,m 25 24,fn 26 5 7 1 25,gm 27 26 25,on 28 (.call 86 [.t 27]) 25,on 29 (.un .not (.t 28)) 25,or 30 25 29]
def PH:=[bw 2 80]
def PI:=[f 31 1 2 1,l 32 31,o 33 (.bin .eql (.t 32) (aY 0))]
def PJ:=[f 34 2 3 1,l 35 34,o 36 (.bin .neq (.t 35) (aY 0)),m 37 36,fn 38 5 7 1 37,gm 39 38 37,on 40 (.bin .neq (.t 39) (.c (.aj ⟨#[]⟩))) 37,or 41 37 40,m 42 41,fn 43 4 5 1 42,on 44 (.ld (some 2) (.t 43)) 42,on 45 (.call 85 [.t 44]) 42,on 46 (.un .not (.t 45)) 42,or 47 42 46,m 48 47,fn 49 4 5 1 48,fn 50 0 0 49 48,gm 51 50 48,fn 52 0 0 1 48,fn 53 0 0 52 48,gm 54 53 48,on 55 (.bin .neq (.t 51) (.t 54)) 48,or 56 48 55,m 57 56,fn 58 4 5 1 57,fn 59 1 1 58 57,gm 60 59 57,fn 61 0 0 1 57,fn 62 1 1 61 57,gm 63 62 57,on 64 (.bin .geq (.t 60) (.t 63)) 57,or 65 57 64]
def PK:=[bw 2 80]
def PL:=[bw 2 0]
def PM:=[f 66 4 5 1,av 67 2 66,o 68 (.bld [.int .i64 0,.int .i64 0] []),o 69 (.eqv (.aV [(.i .i64),(.i .i64)]) true (.t 67) (.t 68))]
def PN:=[bw 2 80]
def PO:=[bw 2 0]
def ym:bj:=(s (r PF) (s (s (r PG) (.cond (.t 30) (s (r PH) .ret) .skip)) (s (s (r PI) (.cond (.t 33) (s (s (r PJ) (.cond (.t 65) (s (r PK) .ret) .skip)) (s (r PL) .ret)) .skip)) (s (s (r PM) (.cond (.t 69) (s (r PN) .ret) .skip)) (s (r PO) .ret)))))
def CC:List bt:=[.tmp 2]
theorem Il:bY Tryz.prog Tryz.f34 ym:=e (by kernel_rfl)
theorem Jz:bU Tryz.prog Tryz.f34 CC:=e (by kernel_rfl)
theorem Hc:bJ Tryz.prog 34:=e (by kernel_rfl)
def PQ:=[b 3 0,b 5 2,o 6 (.alloc (.agg [.agg [.aj ⟨#[]⟩,.aj ⟨#[]⟩],.agg [.aj ⟨#[]⟩,.aj ⟨#[]⟩]])),o 7 (.mv (.c (.nils 8))),bw 8 0]
def PR:=[av 9 4 3,m 10 1,o 11 (.call 87 [.t 9,.t 10]),no 12 11]
def PS:=[o 13 (.bld [.agg [.aj ⟨#[]⟩,.aj ⟨#[]⟩],.agg [.aj ⟨#[]⟩,.aj ⟨#[]⟩]] []),p (.aV (some 4) (.t 6) (.t 13)),o 7 (.mv (.c (.nils 8))),bw 8 84]
def PT:=[av 14 4 3,m 15 1,av 16 8 5,o 17 (.call 88 [.t 14,.t 15,.t 16]),o 18 (.ext (.t 17) 0),o 19 (.ext (.t 17) 1),o 20 (.ext (.t 17) 2),p (.aV (some 4) (.t 6) (.t 18)),m 7 19,m 8 20]
def yn:bj:=(s (r PQ) (s (s (r PR) (.cond (.t 12) (s (r PS) .ret) .skip)) (s (r PT) .ret)))
def CD:List bt:=[.cell 6 (some 4),.tmp 7,.tmp 8]
theorem Im:bY Tryz.prog Tryz.f35 yn:=e (by kernel_rfl)
theorem JA:bU Tryz.prog Tryz.f35 CD:=e (by kernel_rfl)
theorem Hd:bJ Tryz.prog 35:=e (by kernel_rfl)
def PU:=[b 2 0,b 3 1,o 4 (.alloc (.agg [.nils 8])),bw 5 0]
def PV:=[av 9 1 2,o 10 (.call 92 [.t 9]),no 11 10,m 8 11]
def P0:=[o 12 (.bld [.nils 8] []),p (.aV (some 1) (.t 4) (.t 12)),bw 5 81]
def P1:=[av 14 8 3,o 15 (.call 80 [.t 14]),no 16 15,m 13 16]
def P2:=[o 17 (.bld [.nils 8] []),p (.aV (some 1) (.t 4) (.t 17)),bw 5 80]
def P3:=[av 19 1 2,f 20 0 0 3,av 21 2 20,o 22 (.call 94 [.t 19,.t 21]),m 18 22,o 23 (.ext (.t 18) 0),o 24 (.ext (.t 18) 1),m 6 23,m 7 24]
def P4:=[m 26 7,m 27 26,ed 28 0 0 2 27,gF 29 28 27,c6 30 6 27,bT 31 (.is 8 (.t 29) (.t 30)) 27,bT 32 (.ld (some 8) (.t 31)) 27,bT 33 (.ld (some 8) (.t 3)) 27,bT 34 (.eqv (.aV [(.aV [(.i .i64),(.i .i64)]),(.i .i64),(.i .i64),(.i .i64),(.aV [(.i .i64),(.i .i64)]),.s]) false (.t 32) (.t 33)) 27,and 35 27 34,m 25 35]
def Ki:=some [[],[0],[1],[2,1],[1],[3,4,1],[5,1],[1],[6,7,1],[1,8],[9,1]]
def P5:=[f 36 0 0 2,l 37 36,o 38 (.call 93 [.t 37]),o 39 (.bld [.nils 8] [(0,(.t 38))]),p (.aV (some 1) (.t 4) (.t 39)),bw 5 0]
def P6:=[m 41 7,m 40 41]
def P7:=[o 42 (.bld [.nils 8] []),p (.aV (some 1) (.t 4) (.t 42)),bw 5 82]
def PW:=[f 44 0 0 2,l 45 44,o 46 (.call 100 [.t 45]),f 47 0 0 3,f 48 0 0 47,l 49 48,o 50 (.ix 6 1 none (.t 46) (.t 49)),f 51 0 0 3,f 52 1 1 51,l 53 52,lt 54 50 53,m 43 54]
def Kg:=some [[],[0],[1],[],[3],[4],[2,5],[],[7],[8],[6,9],[10,2]]
def PX:=[o 55 (.bld [.nils 8] []),p (.aV (some 1) (.t 4) (.t 55)),bw 5 83]
def PY:=[f 57 0 0 2,l 58 57,o 59 (.len (.t 58)),o 60 (.bin .eql (.t 59) (aY 60)),m 56 60]
def PZ:=[o 61 (.bld [.nils 8] []),p (.aV (some 1) (.t 4) (.t 61)),bw 5 2]
def uO:=[f 62 0 0 2,l 63 62,o 64 (.call 93 [.t 63]),m 65 6,av 66 8 3,o 67 (.bs 50 8 [.t 66]),o 68 (.call 101 [.t 64,.t 65,.t 67]),o 69 (.bld [.nils 8] [(0,(.t 68))]),p (.aV (some 1) (.t 4) (.t 69)),bw 5 0]
def Kh:=some [[],[0],[1],[],[],[4],[2,3,5,2],[6],[7,6,0,1,2,3,4,5,6,7],[8,0,1,2,3,4,5,6,7,8]]
def yp:bj:=(s (r PU) (s (.block 0 (s (r PV) (.cond (.t 8) (s (r P0) .ret) (s (r P1) (.cond (.t 13) (s (r P2) .ret) .skip))))) (s (r P3) (s (.block 1 (s (.bX Ki P4) (.cond (.t 25) (s (r P5) .ret) (s (r P6) (.cond (.t 40) (s (r P7) .ret) (s (.bX Kg PW) (.cond (.t 43) (s (r PX) .ret) (s (r PY) (.cond (.t 56) (s (r PZ) .ret) .skip))))))))) (s (.bX Kh uO) .ret)))))
def CE:List bt:=[.cell 4 (some 1),.tmp 5]
theorem Io:bY Tryz.prog Tryz.f44 yp:=e (by kernel_rfl)
theorem JB:bU Tryz.prog Tryz.f44 CE:=e (by kernel_rfl)
theorem He:bJ Tryz.prog 44:=e (by kernel_rfl)
def QE:=[b 1 0,o 2 (.mv (.c (.c8)))]
def QF:=[o 3 (.mk 122 [.t 1]),m 2 3]
def yq:bj:=(s (r QE) (s (r QF) .ret))
def CG:List bt:=[.tmp 2]
theorem Iq:bY Tryz.prog Tryz.f69 yq:=e (by kernel_rfl)
theorem JD:bU Tryz.prog Tryz.f69 CG:=e (by kernel_rfl)
theorem Hg:bJ Tryz.prog 69:=e (by kernel_rfl)
def Ae:=[o 4 (.alloc (.agg [.agg [.int .i64 0,.int .i64 0],.int .i64 0,.int .i64 0,.int .i64 0,.agg [.int .i64 0,.int .i64 0],.aj ⟨#[]⟩])),o 5 (.alloc (.int .i64 0)),o 6 (.alloc (.bool false))]
def QG:=[m 15 1,o 16 (.call 125 [.t 15,(.c (.aj ⟨#[10]⟩))]),m 14 16,o 17 (.ext (.t 14) 0),o 18 (.ext (.t 14) 1),m 7 17,m 8 18]
def QM:=[m 19 8,no 20 19]
def Ah:=[o 21 (.bld [] []),o 22 (.prim (.lI 176) [.t 21]),p (.prim .j8 [.t 22])]
def QN:=[bw 9 0]
def QO:=[o 10 (.alloc (.agg [.int .i64 0,.int .i64 0,.int .i64 0,.int .i64 0,.int .i64 0,.int .i64 0,.int .i64 0]))]
def Ai:=[m 24 7,o 25 (.call 126 [.t 24]),m 23 25,o 26 (.ext (.t 23) 0),o 27 (.ext (.t 23) 1),m 9 26,m 7 27]
def QP:=[bw 28 0]
def QR:=[o 29 (.bin .lss (.t 28) (aY 7))]
def QS:=[m 30 28,m 11 30]
def Af:=[m 32 11,m 33 7,o 34 (.call 126 [.t 33]),m 31 34,o 35 (.ext (.t 31) 0),o 36 (.ext (.t 31) 1),o 37 (.ia 7 1 (.t 10) (.t 32)),p (.aV none (.t 37) (.t 35)),m 7 36]
def QH:=[ad 38 28 1,m 28 38]
def QI:=[o 39 (.ia 7 1 (.t 10) (aY 0)),l 40 39,o 41 (.ia 7 1 (.t 10) (aY 1)),l 42 41,o 43 (.bld [.int .i64 0,.int .i64 0] [(0,(.t 40)),(1,(.t 42))]),o 44 (.ia 7 1 (.t 10) (aY 2)),l 45 44,o 46 (.ia 7 1 (.t 10) (aY 3)),l 47 46,o 48 (.ia 7 1 (.t 10) (aY 4)),l 49 48,o 50 (.ia 7 1 (.t 10) (aY 5)),l 51 50,o 52 (.ia 7 1 (.t 10) (aY 6)),l 53 52,o 54 (.bld [.int .i64 0,.int .i64 0] [(0,(.t 51)),(1,(.t 53))]),m 55 7,o 56 (.bld [.agg [.int .i64 0,.int .i64 0],.int .i64 0,.int .i64 0,.int .i64 0,.agg [.int .i64 0,.int .i64 0],.aj ⟨#[]⟩] [(0,(.t 43)),(1,(.t 45)),(2,(.t 47)),(3,(.t 49)),(4,(.t 54)),(5,(.t 55))]),p (.aV (some 8) (.t 4) (.t 56))]
def QJ:=[av 57 8 4,o 58 (.call 80 [.t 57]),no 59 58]
def Ag:=[o 60 (.bld [] []),o 61 (.prim (.lI 176) [.t 60]),p (.prim .j8 [.t 61])]
def QK:=[m 63 0,av 64 8 4,o 65 (.call 81 [.t 63,.t 64]),m 62 65,o 66 (.ext (.t 62) 0),o 67 (.ext (.t 62) 1),m 12 66,p (.aV none (.t 5) (.t 67))]
def QL:=[m 68 12,m 69 1,o 70 (.bin .neq (.t 68) (.t 69)),m 71 70,dS 72 9 71,gm 73 5 71,on 74 (.bin .neq (.t 72) (.t 73)) 71,or 75 71 74]
def uP:=[o 76 (.bld [] []),o 77 (.prim (.lI 176) [.t 76]),p (.prim .j8 [.t 77])]
def uQ:=[av 78 8 4,l 79 5,p (.aV (some 8) (.t 4) (.t 78)),p (.aV none (.t 5) (.t 79)),p (.aV none (.t 6) T)]
def Kj:=some [[],[],[0,0],[1,2,0,1,2],[3,0,1,2,3]] -- DRAW BAD
def sH:List bt:=[.cell 4 (some 8),.cell 5 none,.cell 6 none]
theorem JE:bU Tryz.prog Tryz.f70 sH:=e (by kernel_rfl)
theorem Hh:bJ Tryz.prog 70:=e (by kernel_rfl)
def QT:=[b 3 1,o 4 (.mv bh)]
def QU:=[m 5 0,o 6 (.len (.t 5)),o 7 (.bin .lss (.t 6) (aY 60)),m 8 7,c6 9 0 8,bT 10 (.call 100 [.t 9]) 8,ed 11 0 0 3 8,ed 12 0 0 11 8,gF 13 12 8,bT 14 (.ix 6 1 none (.t 10) (.t 13)) 8,ed 15 0 0 3 8,ed 16 1 1 15 8,gF 17 16 8,bT 18 (.bin .eql (.t 14) (.t 17)) 8,and 19 8 18,m 4 19]
def Kk:=some [[],[0],[1],[2],[3],[4,3,3],[3],[6,3],[7,3],[5,8,3],[3],[10,3],[11,3],[9,12,3],[3,13],[14,5,0,1,2,3,4,5,6,7,8,9,10,11,12,13,14]]
def yr:bj:=(s (r QT) (s (.bX Kk QU) .ret))
def CH:List bt:=[.tmp 4]
theorem Ir:bY Tryz.prog Tryz.f71 yr:=e (by kernel_rfl)
theorem JF:bU Tryz.prog Tryz.f71 CH:=e (by kernel_rfl)
theorem Hi:bJ Tryz.prog 71:=e (by kernel_rfl)
def QV:=[b 1 0,o 2 (.mv (.c (.aj ⟨#[]⟩)))]
def QW:=[f 3 0 0 1,l 4 3,f 5 1 1 1,l 6 5,o 7 (.bin .add (.t 4) (.t 6)),m 2 7]
def yu:bj:=(s (r QV) (s (r QW) .ret))
def CI:List bt:=[.tmp 2]
theorem Is:bY Tryz.prog Tryz.f73 yu:=e (by kernel_rfl)
theorem JG:bU Tryz.prog Tryz.f73 CI:=e (by kernel_rfl)
theorem Hj:bJ Tryz.prog 73:=e (by kernel_rfl)
def QX:=[o 2 (.mv (.c (.aj ⟨#[]⟩)))]
def QY:=[m 3 0,o 4 (.call 127 [.t 3]),m 2 4]
def yw:bj:=(s (r QX) (s (r QY) .ret))
def CJ:List bt:=[.tmp 2]
theorem It:bY Tryz.prog Tryz.f74 yw:=e (by kernel_rfl)
theorem JH:bU Tryz.prog Tryz.f74 CJ:=e (by kernel_rfl)
theorem Hk:bJ Tryz.prog 74:=e (by kernel_rfl)
def QZ:=[b 3 0,o 6 (.alloc (.agg [.aj ⟨#[]⟩,.aj ⟨#[]⟩]))]
def kO:=[f 9 1 1 3,l 10 9,m 11 1,m 12 2,f 13 1 1 3,l 14 13,o 15 (.lenT (.t 14)),ad 16 15 1,o 17 (.call 121 [.t 11,.t 12,.t 16]),o 18 (.prim (.ss false true) [.t 10,.t 17]),o 19 (.ef (.t 18)),m 7 19]
def Kl:=some [[],[0],[],[],[],[4],[5],[6],[2,3,7],[1,8],[9],[10,8,0,1,2,3,4,5,6,7,8,9,10]]
def Q0:=[m 20 1,m 21 2,ad 22 21 1,o 23 (.call 121 [.t 20,.t 22,(aY 2)]),o 24 (.bin .eql (.t 23) (aY 1)),m 25 24,c6 26 7 25,bT 27 (.len (.t 26)) 25,bT 28 (.bin .gtr (.t 27) (aY 0)) 25,and 29 25 28]
def Q1:=[m 30 7,m 31 1,m 32 2,ad 33 32 2,m 34 7,o 35 (.len (.t 34)),o 36 (.call 121 [.t 31,.t 33,.t 35]),o 37 (.is 1 (.t 30) (.t 36)),p (.aV none (.t 37) (.c (.int .u8 63)))]
def Q2:=[f 38 0 0 3,l 39 38,o 40 (.lenT (.t 39)),m 41 7,o 42 (.len (.t 41)),o 43 (.bin .add (.t 40) (.t 42)),o 44 (.jd 5 1 (.int .u8 0) (.t 43)),m 8 44]
def Q3:=[m 45 8,f 46 0 0 3,l 47 46,o 48 (.fP 1 (.t 45) (.t 47))]
def Q4:=[m 49 8,f 50 0 0 3,l 51 50,o 52 (.lenT (.t 51)),o 53 (.sl 1 (.t 49) (some (.t 52)) none none),m 54 7,o 55 (.fP 1 (.t 53) (.t 54))]
def Q5:=[m 56 8,o 57 (.b2s (.t 56)),o 58 (.bld [.aj ⟨#[]⟩,.aj ⟨#[]⟩] [(0,(.t 57))]),p (.aV (some 2) (.t 6) (.t 58))]
def c75:bj:=(s (r QZ) (s (.bX Kl kO) (s (s (r Q0) (.cond (.t 29) (r Q1) .skip)) (s (r Q2) (s (r Q3) (s (r Q4) (s (r Q5) .ret)))))))
def CK:List bt:=[.cell 6 (some 2)]
theorem Iu:bY Tryz.prog Tryz.f75 c75:=e (by kernel_rfl)
theorem JI:bU Tryz.prog Tryz.f75 CK:=e (by kernel_rfl)
theorem Hl:bJ Tryz.prog 75:=e (by kernel_rfl)
def Q6:=[b 3 1,o 4 (.alloc (.agg [.agg [.int .i64 0,.int .i64 0],.int .i64 0,.int .i64 0,.int .i64 0,.agg [.int .i64 0,.int .i64 0],.aj ⟨#[]⟩]))]
def Q7:=[o 8 (.ia 5 1 (.t 3) (aY 0)),l 9 8,o 10 (.call 28 [.t 9,(aY 3)]),m 5 10]
def Ra:=[m 11 5,m 12 0,o 13 (.call 102 [.t 12]),m 14 5,o 15 (.ix 6 1 none (.t 13) (.t 14)),o 16 (.bld [.int .i64 0,.int .i64 0] [(0,(.t 11)),(1,(.t 15))]),o 17 (.ia 5 1 (.t 3) (aY 1)),l 18 17,o 19 (.call 28 [.t 18,(aY 6)]),o 20 (.ia 5 1 (.t 3) (aY 2)),l 21 20,o 22 (.call 28 [.t 21,(aY 50)]),o 23 (.ia 5 1 (.t 3) (aY 3)),l 24 23,o 25 (.call 28 [.t 24,(aY 50)]),o 26 (.bld [.agg [.int .i64 0,.int .i64 0],.int .i64 0,.int .i64 0,.int .i64 0,.agg [.int .i64 0,.int .i64 0],.aj ⟨#[]⟩] [(0,(.t 16)),(1,(.t 19)),(2,(.t 22)),(3,(.t 25))]),o 6 (.alloc (.agg [.agg [.int .i64 0,.int .i64 0],.int .i64 0,.int .i64 0,.int .i64 0,.agg [.int .i64 0,.int .i64 0],.aj ⟨#[]⟩])),p (.aV (some 8) (.t 6) (.t 26))]
def Km:=some [[],[],[1],[],[2,3],[0,4],[],[6],[7,2],[],[9],[10,8],[],[12],[13,11],[5,8,11,14],[],[16,15,14,0,1,2,3,4,5,6,7,8,9,10,11,12,13,14,15,16]]
def Rb:=[f 27 1 2 6,l 28 27,o 29 (.bin .eql (.t 28) (aY 0)),m 30 29,ed 31 0 0 6 30,ed 32 1 1 31 30,gF 33 32 30,bT 34 (.bin .gtr (.t 33) (aY 0)) 30,and 35 30 34]
def Rc:=[f 36 2 3 6,p (.aV none (.t 36) (aY 0))]
def Re:=[m 37 5,o 38 (.ia 5 1 (.t 3) (aY 2)),l 39 38,f 40 0 0 6,f 41 1 1 40,l 42 41,o 43 (.call 28 [.t 39,.t 42]),o 44 (.bld [.int .i64 0,.int .i64 0] [(0,(.t 37)),(1,(.t 43))]),f 45 4 5 6,p (.aV (some 2) (.t 45) (.t 44))]
def Rf:=[av 46 8 6,p (.aV (some 8) (.t 4) (.t 46))]
def Rg:=[f 47 1 2 6,l 48 47,o 49 (.bin .eql (.t 48) (aY 0))]
def Rh:=[f 50 1 2 6,p (.aV none (.t 50) (aY 7))]
def Ri:=[o 51 (.bs 9 1 [(.c (.aj ⟨#[]⟩)),(.c (.aj ⟨#[97]⟩)),(.c (.aj ⟨#[98,101,97,115,116,32,49,55]⟩)),(.c (.aj ⟨#[48,32,48,32,49,32,48,32,48,32,48]⟩)),(.c (.aj ⟨#[32]⟩)),(.c (.aj ⟨#[97,32,116,101,120,116,32,111,102,32,97,32,108,101,110,103,116,104,32,116,104,97,116,32,116,101,97,114,115,32,105,110,32,105,116,115,32,109,105,100,115,116]⟩))]),m 7 51]
def Q8:=[m 52 7,o 53 (.ia 5 1 (.t 3) (aY 4)),l 54 53,o 55 (.call 28 [.t 54,(aY 6)]),o 56 (.is 1 (.t 52) (.t 55)),l 57 56,f 58 5 7 6,p (.aV none (.t 58) (.t 57))]
def Q9:=[av 59 8 6,p (.aV (some 8) (.t 4) (.t 59))]
def yx:bj:=(s (r Q6) (s (r Q7) (s (.bX Km Ra) (s (s (r Rb) (.cond (.t 35) (s (r Rc) (s (r Re) (s (r Rf) .ret))) .skip)) (s (s (r Rg) (.cond (.t 49) (r Rh) .skip)) (s (r Ri) (s (r Q8) (s (r Q9) .ret))))))))
def CL:List bt:=[.cell 4 (some 8)]
theorem Iv:bY Tryz.prog Tryz.f78 yx:=e (by kernel_rfl)
theorem JJ:bU Tryz.prog Tryz.f78 CL:=e (by kernel_rfl)
theorem Hm:bJ Tryz.prog 78:=e (by kernel_rfl)
def Rj:=[o 2 (.mv bh)]
def Rk:=[m 3 0,o 4 (.call 128 [.t 3,(aY 0),(aY 1000002)]),m 2 4]
def yz:bj:=(s (r Rj) (s (r Rk) .ret))
def CM:List bt:=[.tmp 2]
theorem Iw:bY Tryz.prog Tryz.f79 yz:=e (by kernel_rfl)
theorem JK:bU Tryz.prog Tryz.f79 CM:=e (by kernel_rfl)
theorem Hn:bJ Tryz.prog 79:=e (by kernel_rfl)
def Rl:=[b 1 0,o 2 (.mv bh)]
def Rm:=[f 3 0 0 1,av 4 2 3,o 5 (.call 129 [.t 4]),no 6 5,m 7 6,fn 8 1 2 1 7,gm 9 8 7,on 10 (.call 128 [.t 9,(aY 0),(aY 40)]) 7,on 11 (.un .not (.t 10)) 7,or 12 7 11,m 13 12,fn 14 2 3 1 13,gm 15 14 13,on 16 (.call 105 [.t 15]) 13,on 17 (.un .not (.t 16)) 13,or 18 13 17,m 19 18,fn 20 3 4 1 19,gm 21 20 19,on 22 (.call 105 [.t 21]) 19,on 23 (.un .not (.t 22)) 19,or 24 19 23,m 25 24,fn 26 5 7 1 25,gm 27 26 25,on 28 (.call 130 [.t 27]) 25,on 29 (.un .not (.t 28)) 25,or 30 25 29]
def Rn:=[o 2 (.mv bh)]
def Ro:=[f 31 1 2 1,l 32 31,o 33 (.bin .eql (.t 32) (aY 0))]
def Rp:=[f 34 2 3 1,l 35 34,o 36 (.bin .eql (.t 35) (aY 0)),m 37 36,ed 38 5 7 1 37,gF 39 38 37,bT 40 (.bin .eql (.t 39) (.c (.aj ⟨#[]⟩))) 37,and 41 37 40,m 42 41,ed 43 4 5 1 42,bT 44 (.ld (some 2) (.t 43)) 42,bT 45 (.call 129 [.t 44]) 42,and 46 42 45,m 47 46,ed 48 4 5 1 47,ed 49 0 0 48 47,gF 50 49 47,ed 51 0 0 1 47,ed 52 0 0 51 47,gF 53 52 47,bT 54 (.bin .eql (.t 50) (.t 53)) 47,and 55 47 54,m 56 55,ed 57 4 5 1 56,ed 58 1 1 57 56,gF 59 58 56,ed 60 0 0 1 56,ed 61 1 1 60 56,gF 62 61 56,bT 63 (.bin .lss (.t 59) (.t 62)) 56,and 64 56 63,m 2 64]
def Rq:=[f 65 4 5 1,av 66 2 65,o 67 (.bld [.int .i64 0,.int .i64 0] []),o 68 (.eqv (.aV [(.i .i64),(.i .i64)]) false (.t 66) (.t 67)),m 2 68]
def c80:bj:=(s (r Rl) (s (s (r Rm) (.cond (.t 30) (s (r Rn) .ret) .skip)) (s (s (r Ro) (.cond (.t 33) (s (r Rp) .ret) .skip)) (s (r Rq) .ret))))
def CN:List bt:=[.tmp 2]
theorem Iy:bY Tryz.prog Tryz.f80 c80:=e (by kernel_rfl)
theorem JL:bU Tryz.prog Tryz.f80 CN:=e (by kernel_rfl)
theorem Ho:bJ Tryz.prog 80:=e (by kernel_rfl)
def Rr:=[b 3 1,o 4 (.mv (.c (.aj ⟨#[]⟩))),bw 5 0]
def Rs:=[av 9 8 3,o 10 (.call 131 [.t 9]),m 6 10]
def Rt:=[m 11 6,o 12 (.ef (.t 11)),o 13 (.len (.t 12)),bw 14 0]
def Ru:=[lt 15 14 13]
def Rv:=[o 16 (.is 1 (.t 12) (.t 14)),l 17 16,m 8 17]
def Rw:=[m 18 0,o 19 (.bin .mul (aY 257) (.t 18)),m 20 8,o 21 (.conv .i64 (.t 20)),o 22 (.bin .add (.t 19) (.t 21)),ad 23 22 1,o 24 (.bin .rem (.t 23) (aY 1000003)),m 0 24]
def Rx:=[ad 25 14 1,m 14 25]
def Ry:=[m 26 0,o 27 (.call 132 [.t 26]),o 28 (.bin .add (.t 27) (.c (.aj ⟨#[32]⟩))),m 29 6,o 30 (.bin .add (.t 28) (.t 29)),o 31 (.bin .add (.t 30) (.c (.aj ⟨#[10]⟩))),m 32 0,m 4 31,m 5 32]
def yA:bj:=(s (r Rr) (s (r Rs) (s (s (r Rt) (.block 0 (.loop (s (r Ru) (s (.cond (.t 15) .skip (.exit 0)) (s (.block 1 (s (r Rv) (r Rw))) (r Rx))))))) (s (r Ry) .ret))))
def CO:List bt:=[.tmp 4,.tmp 5]
theorem Iz:bY Tryz.prog Tryz.f81 yA:=e (by kernel_rfl)
theorem JM:bU Tryz.prog Tryz.f81 CO:=e (by kernel_rfl)
theorem Hp:bJ Tryz.prog 81:=e (by kernel_rfl)
def Rz:=[o 6 (.mv bh)]
def RA:=[m 7 0,m 8 1,o 9 (.bin .geq (.t 7) (.t 8)),m 10 9,c6 11 0 10,c6 12 2 10,bT 13 (.bin .leq (.t 11) (.t 12)) 10,and 14 10 13,m 6 14]
def yB:bj:=(s (r Rz) (s (r RA) .ret))
def CP:List bt:=[.tmp 6]
theorem IA:bY Tryz.prog Tryz.f82 yB:=e (by kernel_rfl)
theorem JN:bU Tryz.prog Tryz.f82 CP:=e (by kernel_rfl)
theorem Hq:bJ Tryz.prog 82:=e (by kernel_rfl)
def RB:=[b 3 1,o 4 (.mv (.c (.aj ⟨#[]⟩))),bw 5 0]
def RC:=[av 8 8 3,o 9 (.call 133 [.t 8]),m 6 9]
def RD:=[bw 7 0]
def RE:=[m 10 7,m 11 6,o 12 (.lenT (.t 11)),lt 13 10 12]
def RF:=[m 16 0,o 17 (.bin .mul (aY 257) (.t 16)),m 18 6,m 19 7,o 20 (.prim .dK [.t 18,.t 19]),o 21 (.conv .i64 (.t 20)),o 22 (.bin .add (.t 17) (.t 21)),ad 23 22 1,o 24 (.bin .rem (.t 23) (aY 1000003)),m 0 24]
def RG:=[m 14 7,ad 15 14 1,m 7 15]
def RH:=[m 25 0,o 26 (.call 134 [.t 25]),o 27 (.bin .add (.t 26) (.c (.aj ⟨#[32]⟩))),m 28 6,o 29 (.bin .add (.t 27) (.t 28)),o 30 (.bin .add (.t 29) (.c (.aj ⟨#[10]⟩))),m 31 0,m 4 30,m 5 31]
def yC:bj:=(s (r RB) (s (r RC) (s (s (r RD) (.block 0 (.loop (s (s (r RE) (.cond (.t 13) .skip (.exit 0))) (s (.block 1 (r RF)) (r RG)))))) (s (r RH) .ret))))
def CQ:List bt:=[.tmp 4,.tmp 5]
theorem IB:bY Tryz.prog Tryz.f83 yC:=e (by kernel_rfl)
theorem JO:bU Tryz.prog Tryz.f83 CQ:=e (by kernel_rfl)
theorem Hr:bJ Tryz.prog 83:=e (by kernel_rfl)
def RI:=[b 1 0,o 2 (.mv bh)]
def RJ:=[f 3 0 0 1,l 4 3,o 5 (.call 82 [.t 4,(aY 0),(aY 5)]),m 6 5,ed 7 1 1 1 6,gF 8 7 6,bT 9 (.call 82 [.t 8,(aY 0),(aY 9999)]) 6,and 10 6 9,m 2 10]
def c85:bj:=(s (r RI) (s (r RJ) .ret))
def CR:List bt:=[.tmp 2]
theorem IC:bY Tryz.prog Tryz.f85 c85:=e (by kernel_rfl)
theorem JP:bU Tryz.prog Tryz.f85 CR:=e (by kernel_rfl)
theorem Hs:bJ Tryz.prog 85:=e (by kernel_rfl)
def RL:=[o 2 (.mv bh)]
def RM:=[m 4 0,o 5 (.lenT (.t 4)),o 6 (.bin .gtr (.t 5) (aY 160))]
def RN:=[o 2 (.mv bh)]
def RO:=[bw 3 0]
def RP:=[m 7 3,m 8 0,o 9 (.lenT (.t 8)),lt 10 7 9]
def RQ:=[m 13 0,m 14 3,o 15 (.prim .dK [.t 13,.t 14]),o 16 (.bin .lss (.t 15) (.c (.int .u8 32))),m 17 16,dS 18 0 17,dS 19 3 17,on 20 (.prim .dK [.t 18,.t 19]) 17,on 21 (.bin .gtr (.t 20) (.c (.int .u8 126))) 17,or 22 17 21,m 23 22,dS 24 0 23,dS 25 3 23,on 26 (.prim .dK [.t 24,.t 25]) 23,on 27 (.bin .eql (.t 26) (.c (.int .u8 63))) 23,or 28 23 27]
def RS:=[o 2 (.mv bh)]
def RT:=[m 11 3,ad 12 11 1,m 3 12]
def RU:=[o 2 (.mv T)]
def yD:bj:=(s (r RL) (s (s (r RM) (.cond (.t 6) (s (r RN) .ret) .skip)) (s (s (r RO) (.block 0 (.loop (s (s (r RP) (.cond (.t 10) .skip (.exit 0))) (s (.block 1 (s (r RQ) (.cond (.t 28) (s (r RS) .ret) .skip))) (r RT)))))) (s (r RU) .ret))))
def CS:List bt:=[.tmp 2]
theorem ID:bY Tryz.prog Tryz.f86 yD:=e (by kernel_rfl)
theorem JQ:bU Tryz.prog Tryz.f86 CS:=e (by kernel_rfl)
theorem Ht:bJ Tryz.prog 86:=e (by kernel_rfl)
def RV:=[b 2 0,o 4 (.mv bh)]
def RW:=[m 6 1,o 7 (.call 98 [.t 6]),no 8 7,m 9 8,fn 10 0 0 2 9,on 11 (.ld (some 2) (.t 10)) 9,on 12 (.call 73 [.t 11]) 9,dS 13 1 9,on 14 (.call 135 [.t 13]) 9,on 15 (.bin .neq (.t 12) (.t 14)) 9,or 16 9 15]
def RX:=[o 4 (.mv bh)]
def RY:=[m 17 1,o 18 (.len (.t 17)),ad 19 18 1,bw 20 0]
def RZ:=[lt 21 20 19]
def R0:=[m 22 20,m 5 22]
def R1:=[f 23 1 2 2,av 24 2 23,o 25 (.call 73 [.t 24]),m 26 1,m 27 5,o 28 (.sl 8 (.t 26) none (some (.t 27)) none),o 29 (.call 135 [.t 28]),o 30 (.bin .eql (.t 25) (.t 29))]
def Kn:=some [[],[0],[1],[],[],[3,4],[5,2],[2,6]]
def R2:=[o 4 (.mv T)]
def R3:=[ad 31 20 1,m 20 31]
def R4:=[o 4 (.mv bh)]
def yE:bj:=(s (r RV) (s (s (r RW) (.cond (.t 16) (s (r RX) .ret) .skip)) (s (s (r RY) (.block 0 (.loop (s (r RZ) (s (.cond (.t 21) .skip (.exit 0)) (s (.block 1 (s (r R0) (s (.bX Kn R1) (.cond (.t 30) (s (r R2) .ret) .skip)))) (r R3))))))) (s (r R4) .ret))))
def CT:List bt:=[.tmp 4]
theorem IE:bY Tryz.prog Tryz.f87 yE:=e (by kernel_rfl)
theorem JR:bU Tryz.prog Tryz.f87 CT:=e (by kernel_rfl)
theorem Hu:bJ Tryz.prog 87:=e (by kernel_rfl)
def R5:=[b 3 0,b 5 2,o 6 (.alloc (.agg [.agg [.aj ⟨#[]⟩,.aj ⟨#[]⟩],.agg [.aj ⟨#[]⟩,.aj ⟨#[]⟩]])),o 7 (.mv (.c (.nils 8))),bw 8 0]
def R6:=[m 13 1,av 14 8 5,o 15 (.call 136 [.t 13,.t 14])]
def uR:=[av 16 4 3,m 17 1,o 18 (.call 93 [.t 17]),p (.aV (some 4) (.t 6) (.t 16)),m 7 18,bw 8 0]
def Ko:=some [[],[],[1],[0,2,0],[2,3,0,1,2,3],[4,0,1,2,3,4]]
def R7:=[m 20 1,o 21 (.call 95 [.t 20]),av 22 8 5,o 23 (.call 44 [.t 21,.t 22]),m 19 23,o 24 (.ext (.t 19) 0),o 25 (.ext (.t 19) 1),o 9 (.alloc (.agg [.nils 8])),p (.aV (some 1) (.t 9) (.t 24)),m 10 25]
def Kp:=some [[],[0],[],[1,2,1],[3],[4],[4],[],[7,5,3,0,1,2,3,4,5,7],[6,8,0,1,2,3,4,5,6,7,8]]
def R8:=[m 26 10,o 27 (.bin .neq (.t 26) (aY 0))]
def R9:=[o 28 (.bld [.agg [.aj ⟨#[]⟩,.aj ⟨#[]⟩],.agg [.aj ⟨#[]⟩,.aj ⟨#[]⟩]] []),m 29 10,p (.aV (some 4) (.t 6) (.t 28)),o 7 (.mv (.c (.nils 8))),m 8 29]
def Sa:=[m 31 1,o 32 (.call 137 [.t 31]),av 33 8 5,o 34 (.call 81 [.t 32,.t 33]),m 30 34,o 35 (.ext (.t 30) 0),o 36 (.ext (.t 30) 1),m 11 35,m 12 36]
def Kq:=some [[],[0],[],[1,2,1],[3],[4],[4],[5,3,0,1,2,3,4,5],[6,7,0,1,2,3,4,5,6,7]]
def Sb:=[f 37 0 0 3,f 38 1 1 37,l 39 38,m 40 11,o 41 (.bin .add (.t 39) (.t 40)),f 42 0 0 3,f 43 1 1 42,p (.aV none (.t 43) (.t 41))]
def uS:=[av 44 4 3,m 45 1,o 46 (.call 93 [.t 45]),av 47 8 5,o 48 (.bs 50 8 [.t 47]),o 49 (.dM 50 8 72 (.agg [.agg [.int .i64 0,.int .i64 0],.int .i64 0,.int .i64 0,.int .i64 0,.agg [.int .i64 0,.int .i64 0],.aj ⟨#[]⟩]) (.t 46) (.t 48)),p (.aV (some 4) (.t 6) (.t 44)),m 7 49,bw 8 0]
def Kr:=some [[],[],[1],[],[3],[2,4,2],[0,5,0],[5,6,0,1,2,3,4,5,6],[7,0,1,2,3,4,5,6,7]] -- DRAW BAD
def yF:bj:=(s (r R5) (s (s (r R6) (.cond (.t 15) (s (.bX Ko uR) .ret) .skip)) (s (s (.bX Kp R7) (s (r R8) (.cond (.t 27) (s (r R9) .ret) .skip))) (s (.bX Kq Sa) (s (r Sb) (s (.bX Kr uS) .ret))))))
def CU:List bt:=[.cell 6 (some 4),.tmp 7,.tmp 8]
theorem IF:bY Tryz.prog Tryz.f88 yF:=e (by kernel_rfl)
theorem JS:bU Tryz.prog Tryz.f88 CU:=e (by kernel_rfl)
theorem Hv:bJ Tryz.prog 88:=e (by kernel_rfl)
def Sc:=[o 2 (.mv (.c (.aj ⟨#[]⟩)))]
def Sd:=[o 3 (.mv (.c (.aj ⟨#[]⟩)))]
def Se:=[bw 4 1]
def Sf:=[bw 5 0]
def Sg:=[m 8 5,m 9 0,o 10 (.len (.t 9)),lt 11 8 10]
def Sh:=[m 15 4,m 16 0,m 17 5,o 18 (.is 8 (.t 16) (.t 17)),av 19 8 18,o 20 (.call 83 [.t 15,.t 19]),m 14 20,o 21 (.ext (.t 14) 0),o 22 (.ext (.t 14) 1),m 6 21,m 7 22]
def Si:=[m 23 3,m 24 6,o 25 (.bin .add (.t 23) (.t 24)),m 3 25]
def Sj:=[m 26 7,m 4 26]
def Sk:=[m 12 5,ad 13 12 1,m 5 13]
def Sl:=[m 27 3,m 2 27]
def yG:bj:=(s (r Sc) (s (r Sd) (s (r Se) (s (s (r Sf) (.block 0 (.loop (s (s (r Sg) (.cond (.t 11) .skip (.exit 0))) (s (.block 1 (s (r Sh) (s (r Si) (r Sj)))) (r Sk)))))) (s (r Sl) .ret)))))
def CV:List bt:=[.tmp 2]
theorem IG:bY Tryz.prog Tryz.f90 yG:=e (by kernel_rfl)
theorem JT:bU Tryz.prog Tryz.f90 CV:=e (by kernel_rfl)
theorem Hw:bJ Tryz.prog 90:=e (by kernel_rfl)
def Sm:=[b 1 0,o 2 (.mv bh)]
def Sn:=[f 6 0 0 1,l 7 6,o 8 (.len (.t 7)),bw 9 0]
def Ss:=[lt 10 9 8]
def St:=[m 11 9,o 12 (.is 8 (.t 7) (.t 9)),av 13 8 12,o 4 (.alloc (.agg [.agg [.int .i64 0,.int .i64 0],.int .i64 0,.int .i64 0,.int .i64 0,.agg [.int .i64 0,.int .i64 0],.aj ⟨#[]⟩])),m 3 11,p (.aV (some 8) (.t 4) (.t 13))]
def Su:=[av 14 8 4,o 15 (.call 80 [.t 14]),no 16 15]
def Sv:=[o 2 (.mv bh)]
def Sw:=[o 17 (.bld [.int .i64 0,.int .i64 0] [(0,(.c (.int .i64 (-1))))]),o 5 (.alloc (.agg [.int .i64 0,.int .i64 0])),p (.aV (some 2) (.t 5) (.t 17))]
def Sx:=[m 18 3,o 19 (.bin .gtr (.t 18) (aY 0))]
def Sy:=[f 20 0 0 1,l 21 20,m 22 3,o 23 (.bin .sub (.t 22) (aY 1)),o 24 (.is 8 (.t 21) (.t 23)),f 25 0 0 24,av 26 2 25,p (.aV (some 2) (.t 5) (.t 26))]
def Sz:=[f 27 0 0 4,av 28 2 27,f 29 0 0 5,l 30 29,f 31 1 1 5,l 32 31,ad 33 32 1,o 34 (.bld [.int .i64 0,.int .i64 0] [(0,(.t 30)),(1,(.t 33))]),o 35 (.eqv (.aV [(.i .i64),(.i .i64)]) true (.t 28) (.t 34)),m 36 35,ed 37 0 0 4 36,ed 38 0 0 37 36,gF 39 38 36,ed 40 0 0 5 36,gF 41 40 36,bT 42 (.bin .leq (.t 39) (.t 41)) 36,c6 43 42 36,fn 44 0 0 4 43,fn 45 1 1 44 43,gm 46 45 43,on 47 (.bin .neq (.t 46) (aY 0)) 43,bT 48 (.pick (.t 43) T (.t 47)) 36,and 49 36 48]
def Sp:=[o 2 (.mv bh)]
def Sq:=[ad 50 9 1,m 9 50]
def Sr:=[f 51 0 0 1,l 52 51,o 53 (.len (.t 52)),o 54 (.bin .leq (.t 53) (aY 60)),m 2 54]
def yH:bj:=(s (r Sm) (s (s (r Sn) (.block 0 (.loop (s (r Ss) (s (.cond (.t 10) .skip (.exit 0)) (s (.block 1 (s (r St) (s (s (r Su) (.cond (.t 16) (s (r Sv) .ret) .skip)) (s (r Sw) (s (s (r Sx) (.cond (.t 19) (r Sy) .skip)) (s (r Sz) (.cond (.t 49) (s (r Sp) .ret) .skip))))))) (r Sq))))))) (s (r Sr) .ret)))
def CW:List bt:=[.tmp 2]
theorem IH:bY Tryz.prog Tryz.f92 yH:=e (by kernel_rfl)
theorem JU:bU Tryz.prog Tryz.f92 CW:=e (by kernel_rfl)
theorem Hx:bJ Tryz.prog 92:=e (by kernel_rfl)
def uT:=[o 2 (.mv (.c (.nils 8)))]
def pw:=[m 3 0,o 4 (.nilS false (.t 3))]
def uU:=[o 2 (.mv (.c (.nils 8)))]
def px:=[o 5 (.bs0 8),m 6 0,o 7 (.dM 50 8 72 (.agg [.agg [.int .i64 0,.int .i64 0],.int .i64 0,.int .i64 0,.int .i64 0,.agg [.int .i64 0,.int .i64 0],.aj ⟨#[]⟩]) (.t 5) (.t 6)),m 2 7]
def tV:bj:=(s (r uT) (s (s (r pw) (.cond (.t 4) (s (r uU) .ret) .skip)) (s (r px) .ret)))
def vN:List bt:=[.tmp 2]
theorem yW:bY Tryz.prog Tryz.f93 tV:=e (by kernel_rfl)
theorem zc:bU Tryz.prog Tryz.f93 vN:=e (by kernel_rfl)
theorem yR:bJ Tryz.prog 93:=e (by kernel_rfl)
def SA:=[b 2 0,b 3 1,bw 4 0,o 5 (.mv bh)]
def SB:=[f 6 0 0 2,l 7 6,av 8 2 3,o 9 (.call 138 [.t 7,.t 8,(.c (.func 139 []))]),o 10 (.ext (.t 9) 0),o 11 (.ext (.t 9) 1),m 4 10,m 5 11]
def yI:bj:=(s (r SA) (s (r SB) .ret))
def CX:List bt:=[.tmp 4,.tmp 5]
theorem II:bY Tryz.prog Tryz.f94 yI:=e (by kernel_rfl)
theorem JV:bU Tryz.prog Tryz.f94 CX:=e (by kernel_rfl)
theorem Hy:bJ Tryz.prog 94:=e (by kernel_rfl)
def SC:=[o 2 (.alloc (.agg [.nils 8]))]
def SD:=[m 4 0,o 5 (.call 93 [.t 4]),m 3 5]
def SE:=[m 6 3,o 7 (.call 141 [.t 6,(.c (.func 142 []))])]
def SF:=[m 8 3,o 9 (.bld [.nils 8] [(0,(.t 8))]),p (.aV (some 1) (.t 2) (.t 9))]
def yJ:bj:=(s (r SC) (s (r SD) (s (r SE) (s (r SF) .ret))))
def CY:List bt:=[.cell 2 (some 1)]
theorem IJ:bY Tryz.prog Tryz.f95 yJ:=e (by kernel_rfl)
theorem JW:bU Tryz.prog Tryz.f95 CY:=e (by kernel_rfl)
theorem Hz:bJ Tryz.prog 95:=e (by kernel_rfl)
def SG:=[o 2 (.mv bh)]
def SH:=[m 5 0,o 6 (.len (.t 5)),bw 7 0]
def SI:=[lt 8 7 6]
def SJ:=[m 9 7,o 10 (.is 8 (.t 5) (.t 7)),av 11 8 10,o 4 (.alloc (.agg [.agg [.int .i64 0,.int .i64 0],.int .i64 0,.int .i64 0,.int .i64 0,.agg [.int .i64 0,.int .i64 0],.aj ⟨#[]⟩])),m 3 9,p (.aV (some 8) (.t 4) (.t 11))]
def SK:=[av 12 8 4,o 13 (.call 80 [.t 12]),no 14 13,m 15 14,dS 16 0 15,dS 17 3 15,on 18 (.sl 8 (.t 16) none (some (.t 17)) none) 15,on 19 (.ld (some 8) (.t 4)) 15,on 20 (.call 71 [.t 18,.t 19]) 15,on 21 (.un .not (.t 20)) 15,or 22 15 21]
def Ks:=some [[],[0],[1],[2,1],[3],[3],[4,5,3],[3],[6,7,3,3],[8,3],[3,9]]
def SL:=[o 2 (.mv bh)]
def SM:=[ad 23 7 1,m 7 23]
def SN:=[o 2 (.mv T)]
def yK:bj:=(s (r SG) (s (s (r SH) (.block 0 (.loop (s (r SI) (s (.cond (.t 8) .skip (.exit 0)) (s (.block 1 (s (r SJ) (s (.bX Ks SK) (.cond (.t 22) (s (r SL) .ret) .skip)))) (r SM))))))) (s (r SN) .ret)))
def CZ:List bt:=[.tmp 2]
theorem IK:bY Tryz.prog Tryz.f98 yK:=e (by kernel_rfl)
theorem JX:bU Tryz.prog Tryz.f98 CZ:=e (by kernel_rfl)
theorem HA:bJ Tryz.prog 98:=e (by kernel_rfl)
def Lz:=[o 2 (.alloc (.agg [.int .i64 0,.int .i64 0,.int .i64 0,.int .i64 0,.int .i64 0,.int .i64 0]))]
def LA:=[o 3 (.alloc (.agg [.int .i64 0,.int .i64 0,.int .i64 0,.int .i64 0,.int .i64 0,.int .i64 0]))]
def LB:=[m 6 0,o 7 (.len (.t 6)),bw 8 0]
def LC:=[lt 9 8 7]
def LD:=[o 10 (.is 8 (.t 6) (.t 8)),av 11 8 10,o 5 (.alloc (.agg [.agg [.int .i64 0,.int .i64 0],.int .i64 0,.int .i64 0,.int .i64 0,.agg [.int .i64 0,.int .i64 0],.aj ⟨#[]⟩])),p (.aV (some 8) (.t 5) (.t 11))]
def LF:=[f 12 0 0 5,f 13 0 0 12,l 14 13,o 15 (.ia 6 1 (.t 3) (.t 14)),l 16 15,ad 17 16 1,o 18 (.ia 6 1 (.t 3) (.t 14)),p (.aV none (.t 18) (.t 17))]
def LG:=[ad 19 8 1,m 8 19]
def LH:=[av 20 6 3,p (.aV (some 6) (.t 2) (.t 20))]
def xH:bj:=(s (r Lz) (s (r LA) (s (s (r LB) (.block 0 (.loop (s (r LC) (s (.cond (.t 9) .skip (.exit 0)) (s (.block 1 (s (r LD) (r LF))) (r LG))))))) (s (r LH) .ret))))
def B3:List bt:=[.cell 2 (some 6)]
theorem HL:bY Tryz.prog Tryz.f100 xH:=e (by kernel_rfl)
theorem I0:bU Tryz.prog Tryz.f100 B3:=e (by kernel_rfl)
theorem Gw:bJ Tryz.prog 100:=e (by kernel_rfl)
def rA:=[o 6 (.mv (.c (.nils 8)))]
def rB:=[m 10 0,m 11 1,o 12 (.sl 8 (.t 10) (some (.t 11)) none none)]
def rC:=[m 13 2,o 14 (.len (.t 13)),m 7 14]
def rD:=[m 15 7,o 16 (.bin .eql (.t 15) (aY 0))]
def LL:=[m 17 0,m 6 17]
def rE:=[m 18 0,o 19 (.len (.t 18)),m 8 19]
def rF:=[m 20 1,m 21 8,o 22 (.bin .eql (.t 20) (.t 21))]
def pt:=[m 23 0,m 24 2,o 25 (.dM 50 8 72 (.agg [.agg [.int .i64 0,.int .i64 0],.int .i64 0,.int .i64 0,.int .i64 0,.agg [.int .i64 0,.int .i64 0],.aj ⟨#[]⟩]) (.t 23) (.t 24)),m 6 25]
def Ac:=[m 26 8,m 27 7,o 28 (.bin .add (.t 26) (.t 27)),m 29 0,o 30 (.cap (.t 29)),o 31 (.bin .gtr (.t 28) (.t 30))]
def Ad:=[m 32 0,m 33 1,o 34 (.sl 8 (.t 32) none (some (.t 33)) none),m 35 8,m 36 7,o 37 (.bin .add (.t 35) (.t 36)),m 38 1,o 39 (.bin .sub (.t 37) (.t 38)),o 40 (.jj 50 8 72 (.agg [.agg [.int .i64 0,.int .i64 0],.int .i64 0,.int .i64 0,.int .i64 0,.agg [.int .i64 0,.int .i64 0],.aj ⟨#[]⟩]) (.t 34) (.t 39)),m 9 40]
def zX:=[m 41 9,m 42 1,o 43 (.sl 8 (.t 41) (some (.t 42)) none none),m 44 2,o 45 (.fP 8 (.t 43) (.t 44))]
def zY:=[m 46 9,m 47 1,m 48 7,o 49 (.bin .add (.t 47) (.t 48)),o 50 (.sl 8 (.t 46) (some (.t 49)) none none),m 51 0,m 52 1,o 53 (.sl 8 (.t 51) (some (.t 52)) none none),o 54 (.fP 8 (.t 50) (.t 53))]
def J4:=some [[],[],[],[1,2],[0,3],[],[],[5,6],[4,7]]
def zZ:=[m 55 9,m 6 55]
def z6:=[m 56 0,m 57 8,m 58 7,o 59 (.bin .add (.t 57) (.t 58)),o 60 (.sl 8 (.t 56) none (some (.t 59)) none),m 0 60]
def z7:=[m 61 2,m 62 0,m 63 1,m 64 7,o 65 (.bin .add (.t 63) (.t 64)),o 66 (.sl 8 (.t 62) (some (.t 65)) none none),o 67 (.gv 143 [.t 61,.t 66]),no 68 67]
def z8:=[m 69 0,m 70 1,m 71 7,o 72 (.bin .add (.t 70) (.t 71)),o 73 (.sl 8 (.t 69) (some (.t 72)) none none),m 74 0,m 75 1,o 76 (.sl 8 (.t 74) (some (.t 75)) none none),o 77 (.fP 8 (.t 73) (.t 76))]
def J5:=some [[],[],[],[1,2],[0,3],[],[],[5,6],[4,7]]
def Aa:=[m 78 0,m 79 1,o 80 (.sl 8 (.t 78) (some (.t 79)) none none),m 81 2,o 82 (.fP 8 (.t 80) (.t 81))]
def Ab:=[m 83 0,m 6 83]
def LI:=[m 84 0,m 85 8,o 86 (.sl 8 (.t 84) (some (.t 85)) none none),m 87 2,o 88 (.fP 8 (.t 86) (.t 87))]
def LJ:=[m 89 0,m 90 1,o 91 (.sl 8 (.t 89) (some (.t 90)) none none),m 92 7,o 93 (.call 144 [.t 91,.t 92])]
def LK:=[m 94 0,m 6 94]
def qT:bj:=(s (r rA) (s (r rB) (s (r rC) (s (s (r rD) (.cond (.t 16) (s (r LL) .ret) .skip)) (s (r rE) (s (s (r rF) (.cond (.t 22) (s (r pt) .ret) .skip)) (s (s (r Ac) (.cond (.t 31) (s (r Ad) (s (r zX) (s (.bX J4 zY) (s (r zZ) .ret)))) .skip)) (s (r z6) (s (s (r z7) (.cond (.t 68) (s (.bX J5 z8) (s (r Aa) (s (r Ab) .ret))) .skip)) (s (r LI) (s (r LJ) (s (r LK) .ret))))))))))))
def sF:List bt:=[.tmp 6]
theorem tY:bY Tryz.prog Tryz.f101 qT:=e (by kernel_rfl)
theorem uf:bU Tryz.prog Tryz.f101 sF:=e (by kernel_rfl)
theorem tW:bJ Tryz.prog 101:=e (by kernel_rfl)
def LM:=[o 2 (.alloc (.agg [.int .i64 0,.int .i64 0,.int .i64 0,.int .i64 0,.int .i64 0,.int .i64 0]))]
def LN:=[o 3 (.alloc (.agg [.int .i64 0,.int .i64 0,.int .i64 0,.int .i64 0,.int .i64 0,.int .i64 0]))]
def LO:=[bw 4 0]
def LP:=[m 5 4,m 6 0,o 7 (.len (.t 6)),lt 8 5 7]
def LQ:=[m 11 0,m 12 4,o 13 (.is 8 (.t 11) (.t 12)),f 14 0 0 13,f 15 0 0 14,l 16 15,o 17 (.ia 6 1 (.t 3) (.t 16)),l 18 17,ad 19 18 1,o 20 (.ia 6 1 (.t 3) (.t 16)),p (.aV none (.t 20) (.t 19))]
def LR:=[m 9 4,ad 10 9 1,m 4 10]
def LS:=[av 21 6 3,p (.aV (some 6) (.t 2) (.t 21))]
def xI:bj:=(s (r LM) (s (r LN) (s (s (r LO) (.block 0 (.loop (s (s (r LP) (.cond (.t 8) .skip (.exit 0))) (s (.block 1 (r LQ)) (r LR)))))) (s (r LS) .ret))))
def B4:List bt:=[.cell 2 (some 6)]
theorem HM:bY Tryz.prog Tryz.f102 xI:=e (by kernel_rfl)
theorem I1:bU Tryz.prog Tryz.f102 B4:=e (by kernel_rfl)
theorem Gx:bJ Tryz.prog 102:=e (by kernel_rfl)
def LU:=[o 2 (.mv bh)]
def LV:=[m 3 0,o 4 (.call 128 [.t 3,(aY 0),(aY 100000)]),m 2 4]
def xJ:bj:=(s (r LU) (s (r LV) .ret))
def B5:List bt:=[.tmp 2]
theorem HN:bY Tryz.prog Tryz.f105 xJ:=e (by kernel_rfl)
theorem I2:bU Tryz.prog Tryz.f105 B5:=e (by kernel_rfl)
theorem Gy:bJ Tryz.prog 105:=e (by kernel_rfl)
def LW:=[bw 6 0]
def LX:=[m 7 0,o 8 (.len (.t 7)),o 9 (.bin .eql (.t 8) (aY 0))]
def LY:=[bw 6 0]
def LZ:=[m 10 0,m 11 1,m 12 0,o 13 (.len (.t 12)),o 14 (.bin .rem (.t 11) (.t 13)),o 15 (.is 1 (.t 10) (.t 14)),l 16 15,m 17 2,o 18 (.bin .rem (.t 16) (.t 17)),m 19 2,o 20 (.bin .add (.t 18) (.t 19)),m 21 2,o 22 (.bin .rem (.t 20) (.t 21)),m 6 22]
def xK:bj:=(s (r LW) (s (s (r LX) (.cond (.t 9) (s (r LY) .ret) .skip)) (s (r LZ) .ret)))
def B6:List bt:=[.tmp 6]
theorem HO:bY Tryz.prog Tryz.f121 xK:=e (by kernel_rfl)
theorem I3:bU Tryz.prog Tryz.f121 B6:=e (by kernel_rfl)
theorem Gz:bJ Tryz.prog 121:=e (by kernel_rfl)
def L0:=[l 4 1,o 5 (.bin .neq (.t 4) (.c (.aj ⟨#[]⟩)))]
def L2:=[l 6 1,o 7 (.call 123 [.t 6,(.c (.int .u8 10))]),m 3 7]
def L4:=[m 8 3,o 9 (.bin .lss (.t 8) (aY 0)),m 10 9,dS 11 0 10,gm 12 1 10,dS 13 3 10,on 14 (.bin .add (.t 13) (aY 1)) 10,on 15 (.prim (.ss false true) [.t 12,.t 14]) 10,on 16 (.eX (.t 11) [.t 15]) 10,on 17 (.un .not (.t 16)) 10,or 18 10 17]
def L5:=[l 19 1,m 20 3,ad 21 20 1,o 22 (.prim (.ss true false) [.t 19,.t 21]),p (.aV none (.t 1) (.t 22))]
def xL:bj:=(.block 0 (.loop (s (s (r L0) (.cond (.t 5) .skip (.exit 0))) (.block 1 (s (r L2) (s (s (r L4) (.cond (.t 18) .ret .skip)) (r L5)))))))
def B7:List bt:=[]
theorem HP:bY Tryz.prog Tryz.f122 xL:=e (by kernel_rfl)
theorem I4:bU Tryz.prog Tryz.f122 B7:=e (by kernel_rfl)
theorem yN:bJ Tryz.prog 122:=e (by kernel_rfl)
theorem GA:bJ Tryz.prog 123:=e (by kernel_rfl)
theorem yO:bJ Tryz.prog 124:=e (by kernel_rfl)
theorem GB:bJ Tryz.prog 125:=e (by kernel_rfl)
def L6:=[bw 2 0,o 3 (.mv (.c (.aj ⟨#[]⟩)))]
def L7:=[m 10 0,o 11 (.call 154 [.t 10,(.c (.aj ⟨#[32]⟩))]),m 9 11,o 12 (.ext (.t 9) 0),o 13 (.ext (.t 9) 1),o 14 (.ext (.t 9) 2),m 4 12,m 5 13,m 6 14]
def L8:=[m 16 4,o 17 (.call 155 [.t 16]),m 15 17,o 18 (.ext (.t 15) 0),o 19 (.ext (.t 15) 1),m 7 18,m 8 19]
def L9:=[m 20 6,no 21 20,m 22 21,dS 23 8 22,on 24 (.prim (.mz true) [.t 23]) 22,or 25 22 24]
def rG:=[o 26 (.bld [] []),o 27 (.prim (.lI 176) [.t 26]),p (.prim .j8 [.t 27])]
def Ma:=[m 28 7,m 29 5,m 2 28,m 3 29]
def tT:bj:=(s (r L6) (s (r L7) (s (r L8) (s (s (r L9) (.cond (.t 25) (r rG) .skip)) (s (r Ma) .ret)))))
def B8:List bt:=[.tmp 2,.tmp 3]
theorem yV:bY Tryz.prog Tryz.f126 tT:=e (by kernel_rfl)
theorem I5:bU Tryz.prog Tryz.f126 B8:=e (by kernel_rfl)
theorem yP:bJ Tryz.prog 126:=e (by kernel_rfl)
theorem GC:bJ Tryz.prog 127:=e (by kernel_rfl)
def Mb:=[o 6 (.mv bh)]
def Mc:=[m 7 1,m 8 0,o 9 (.bin .leq (.t 7) (.t 8)),m 10 9,c6 11 0 10,c6 12 2 10,bT 13 (.bin .leq (.t 11) (.t 12)) 10,and 14 10 13,m 6 14]
def xM:bj:=(s (r Mb) (s (r Mc) .ret))
def B9:List bt:=[.tmp 6]
theorem HQ:bY Tryz.prog Tryz.f128 xM:=e (by kernel_rfl)
theorem I6:bU Tryz.prog Tryz.f128 B9:=e (by kernel_rfl)
theorem GD:bJ Tryz.prog 128:=e (by kernel_rfl)
def Md:=[b 1 0,o 2 (.mv bh)]
def Me:=[f 3 0 0 1,l 4 3,o 5 (.call 128 [.t 4,(aY 0),(aY 5)]),m 6 5,ed 7 1 1 1 6,gF 8 7 6,bT 9 (.call 128 [.t 8,(aY 0),(aY 9999)]) 6,and 10 6 9,m 2 10]
def xN:bj:=(s (r Md) (s (r Me) .ret))
def Ca:List bt:=[.tmp 2]
theorem HR:bY Tryz.prog Tryz.f129 xN:=e (by kernel_rfl)
theorem I7:bU Tryz.prog Tryz.f129 Ca:=e (by kernel_rfl)
theorem GF:bJ Tryz.prog 129:=e (by kernel_rfl)
def Mf:=[o 2 (.mv bh)]
def Mg:=[m 5 0,o 6 (.lenT (.t 5)),o 7 (.bin .gtr (.t 6) (aY 160))]
def Mh:=[o 2 (.mv bh)]
def Mi:=[m 8 0,o 9 (.ef (.t 8)),o 10 (.len (.t 9)),bw 11 0]
def Mj:=[lt 12 11 10]
def Mk:=[o 13 (.is 1 (.t 9) (.t 11)),l 14 13,m 4 14]
def Ml:=[m 15 4,o 16 (.bin .lss (.t 15) (.c (.int .u8 32))),m 17 16,dS 18 4 17,on 19 (.bin .gtr (.t 18) (.c (.int .u8 126))) 17,or 20 17 19,m 21 20,dS 22 4 21,on 23 (.bin .eql (.t 22) (.c (.int .u8 63))) 21,or 24 21 23]
def Mm:=[o 2 (.mv bh)]
def Mn:=[ad 25 11 1,m 11 25]
def Mo:=[o 2 (.mv T)]
def xO:bj:=(s (r Mf) (s (s (r Mg) (.cond (.t 7) (s (r Mh) .ret) .skip)) (s (s (r Mi) (.block 0 (.loop (s (r Mj) (s (.cond (.t 12) .skip (.exit 0)) (s (.block 1 (s (r Mk) (s (r Ml) (.cond (.t 24) (s (r Mm) .ret) .skip)))) (r Mn))))))) (s (r Mo) .ret))))
def Cb:List bt:=[.tmp 2]
theorem HS:bY Tryz.prog Tryz.f130 xO:=e (by kernel_rfl)
theorem I8:bU Tryz.prog Tryz.f130 Cb:=e (by kernel_rfl)
theorem GG:bJ Tryz.prog 130:=e (by kernel_rfl)
theorem GH:bJ Tryz.prog 131:=e (by kernel_rfl)
theorem GI:bJ Tryz.prog 132:=e (by kernel_rfl)
def Mp:=[b 1 0,o 2 (.mv (.c (.aj ⟨#[]⟩)))]
def Mq:=[f 4 0 0 1,f 5 0 0 4,l 6 5,o 7 (.call 134 [.t 6]),o 8 (.bin .add (.t 7) (.c (.aj ⟨#[32]⟩))),f 9 0 0 1,f 10 1 1 9,l 11 10,o 12 (.call 134 [.t 11]),o 13 (.bin .add (.t 8) (.t 12)),o 14 (.bin .add (.t 13) (.c (.aj ⟨#[32]⟩))),f 15 1 2 1,l 16 15,o 17 (.call 134 [.t 16]),o 18 (.bin .add (.t 14) (.t 17)),o 19 (.bin .add (.t 18) (.c (.aj ⟨#[32]⟩))),f 20 2 3 1,l 21 20,o 22 (.call 134 [.t 21]),o 23 (.bin .add (.t 19) (.t 22)),o 24 (.bin .add (.t 23) (.c (.aj ⟨#[32]⟩))),f 25 3 4 1,l 26 25,o 27 (.call 134 [.t 26]),o 28 (.bin .add (.t 24) (.t 27)),o 29 (.bin .add (.t 28) (.c (.aj ⟨#[32]⟩))),m 3 29]
def J6:=some [[],[0],[1],[2],[3],[],[5],[6],[7,3],[4,8],[9],[],[11],[12,8],[10,13],[14],[],[16],[17,13],[15,18],[19],[],[21],[22,18],[20,23],[24],[25,23,0,1,2,3,4,5,6,7,8,9,10,11,12,13,14,15,16,17,18,19,20,21,22,23,24,25]]
def Mr:=[m 30 3,f 31 4 5 1,f 32 0 0 31,l 33 32,o 34 (.call 134 [.t 33]),o 35 (.bin .add (.t 30) (.t 34)),o 36 (.bin .add (.t 35) (.c (.aj ⟨#[32]⟩))),f 37 4 5 1,f 38 1 1 37,l 39 38,o 40 (.call 134 [.t 39]),o 41 (.bin .add (.t 36) (.t 40)),o 42 (.bin .add (.t 41) (.c (.aj ⟨#[32]⟩))),f 43 5 7 1,l 44 43,o 45 (.bin .add (.t 42) (.t 44)),m 2 45]
def J7:=some [[],[],[1],[2],[3],[0,4],[5],[],[7],[8],[9,4],[6,10],[11],[],[13],[12,14],[15,10,0,1,2,3,4,5,6,7,8,9,10,11,12,13,14,15]]
def xP:bj:=(s (r Mp) (s (.bX J6 Mq) (s (.bX J7 Mr) .ret)))
def Cc:List bt:=[.tmp 2]
theorem HT:bY Tryz.prog Tryz.f133 xP:=e (by kernel_rfl)
theorem I9:bU Tryz.prog Tryz.f133 Cc:=e (by kernel_rfl)
theorem GJ:bJ Tryz.prog 133:=e (by kernel_rfl)
def Ms:=[o 2 (.mv (.c (.aj ⟨#[]⟩)))]
def Mt:=[m 4 0,o 5 (.bin .rem (.t 4) (aY 10)),o 6 (.bin .add (aY 48) (.t 5)),o 7 (.conv .u8 (.t 6)),o 8 (.bs 5 1 [.t 7]),o 9 (.b2s (.t 8)),m 3 9]
def Mu:=[m 10 0,o 11 (.bin .geq (.t 10) (aY 10))]
def Mv:=[m 12 0,o 13 (.bin .quo (.t 12) (aY 10)),m 0 13]
def Mw:=[m 14 0,o 15 (.bin .rem (.t 14) (aY 10)),o 16 (.bin .add (aY 48) (.t 15)),o 17 (.conv .u8 (.t 16)),o 18 (.bs 5 1 [.t 17]),o 19 (.b2s (.t 18)),m 20 3,o 21 (.bin .add (.t 19) (.t 20)),m 3 21]
def Mx:=[m 22 3,m 2 22]
def xQ:bj:=(s (r Ms) (s (r Mt) (s (.block 0 (.loop (s (s (r Mu) (.cond (.t 11) .skip (.exit 0))) (.block 1 (s (r Mv) (r Mw)))))) (s (r Mx) .ret))))
def Cd:List bt:=[.tmp 2]
theorem HU:bY Tryz.prog Tryz.f134 xQ:=e (by kernel_rfl)
theorem Ja:bU Tryz.prog Tryz.f134 Cd:=e (by kernel_rfl)
theorem GK:bJ Tryz.prog 134:=e (by kernel_rfl)
theorem GL:bJ Tryz.prog 135:=e (by kernel_rfl)
def My:=[b 3 1,o 4 (.mv bh)]
def Mz:=[m 5 0,av 6 8 3,o 7 (.call 159 [.t 5,.t 6]),o 8 (.bin .geq (.t 7) (aY 0)),m 4 8]
def xR:bj:=(s (r My) (s (r Mz) .ret))
def Ce:List bt:=[.tmp 4]
theorem HV:bY Tryz.prog Tryz.f136 xR:=e (by kernel_rfl)
theorem Jb:bU Tryz.prog Tryz.f136 Ce:=e (by kernel_rfl)
theorem GM:bJ Tryz.prog 136:=e (by kernel_rfl)
def MA:=[bw 2 0]
def MB:=[bw 3 1]
def MC:=[m 6 0,o 7 (.len (.t 6)),bw 8 0]
def MD:=[lt 9 8 7]
def ME:=[o 10 (.is 8 (.t 6) (.t 8)),av 11 8 10,o 5 (.alloc (.agg [.agg [.int .i64 0,.int .i64 0],.int .i64 0,.int .i64 0,.int .i64 0,.agg [.int .i64 0,.int .i64 0],.aj ⟨#[]⟩])),p (.aV (some 8) (.t 5) (.t 11))]
def MF:=[m 13 3,av 14 8 5,o 15 (.call 81 [.t 13,.t 14]),m 12 15,o 16 (.ext (.t 12) 0),o 17 (.ext (.t 12) 1),m 3 17]
def MG:=[ad 18 8 1,m 8 18]
def MH:=[m 19 3,m 2 19]
def xS:bj:=(s (r MA) (s (r MB) (s (s (r MC) (.block 0 (.loop (s (r MD) (s (.cond (.t 9) .skip (.exit 0)) (s (.block 1 (s (r ME) (r MF))) (r MG))))))) (s (r MH) .ret))))
def Cf:List bt:=[.tmp 2]
theorem HW:bY Tryz.prog Tryz.f137 xS:=e (by kernel_rfl)
theorem Jc:bU Tryz.prog Tryz.f137 Cf:=e (by kernel_rfl)
theorem GN:bJ Tryz.prog 137:=e (by kernel_rfl)
def MI:=[b 4 1,bw 6 0,o 7 (.mv bh)]
def MJ:=[m 12 0,o 13 (.len (.t 12)),m 8 13]
def MK:=[m 14 8,bw 9 0,m 10 14]
def ML:=[m 15 9,m 16 10,lt 17 15 16]
def MN:=[m 18 9,m 19 10,o 20 (.bin .add (.t 18) (.t 19)),o 21 (.conv .u64 (.t 20)),o 22 (.bin .shr (.t 21) (.c (.int .u64 1))),o 23 (.conv .i64 (.t 22)),m 11 23]
def MO:=[m 24 2,m 25 0,m 26 11,o 27 (.is 8 (.t 25) (.t 26)),av 28 8 27,av 29 2 4,o 30 (.eX (.t 24) [.t 28,.t 29]),o 31 (.bin .lss (.t 30) (aY 0))]
def J8:=some [[],[],[],[1,2],[3],[],[0,4,5],[6]]
def MP:=[m 32 11,ad 33 32 1,m 9 33]
def MQ:=[m 34 11,m 10 34]
def MR:=[m 35 9,m 36 9,m 37 8,lt 38 36 37,m 39 38,c6 40 2 39,c6 41 0 39,c6 42 9 39,bT 43 (.is 8 (.t 41) (.t 42)) 39,bT 44 (.ld (some 8) (.t 43)) 39,bT 45 (.ld (some 2) (.t 4)) 39,bT 46 (.eX (.t 40) [.t 44,.t 45]) 39,bT 47 (.bin .eql (.t 46) (aY 0)) 39,and 48 39 47,m 6 35,m 7 48]
def J9:=some [[],[],[],[1,2],[3],[4],[4],[4],[6,7,4],[8,4],[4],[5,9,10,4,4],[11,4],[4,12],[0,11,0],[13,14,0,1,2,3,4,5,6,7,8,9,10,11,12,13,14]]
def xT:bj:=(s (r MI) (s (r MJ) (s (r MK) (s (.block 0 (.loop (s (s (r ML) (.cond (.t 17) .skip (.exit 0))) (.block 1 (s (r MN) (s (.bX J8 MO) (.cond (.t 31) (r MP) (r MQ)))))))) (s (.bX J9 MR) .ret)))))
def Cg:List bt:=[.tmp 6,.tmp 7]
theorem HX:bY Tryz.prog Tryz.f138 xT:=e (by kernel_rfl)
theorem Jd:bU Tryz.prog Tryz.f138 Cg:=e (by kernel_rfl)
theorem GO:bJ Tryz.prog 138:=e (by kernel_rfl)
def MS:=[b 2 0,b 3 1,bw 4 0]
def MT:=[f 5 0 0 2,av 6 2 5,av 7 2 3,o 8 (.call 140 [.t 6,.t 7]),m 4 8]
def xU:bj:=(s (r MS) (s (r MT) .ret))
def Ch:List bt:=[.tmp 4]
theorem HY:bY Tryz.prog Tryz.f139 xU:=e (by kernel_rfl)
theorem Je:bU Tryz.prog Tryz.f139 Ch:=e (by kernel_rfl)
theorem GP:bJ Tryz.prog 139:=e (by kernel_rfl)
def MU:=[b 2 0,b 3 1,bw 4 0]
def MV:=[f 5 0 0 2,l 6 5,f 7 0 0 3,l 8 7,o 9 (.call 161 [.t 6,.t 8]),f 10 1 1 2,l 11 10,f 12 1 1 3,l 13 12,o 14 (.call 161 [.t 11,.t 13]),o 15 (.bs 3 1 [.t 9,.t 14]),o 16 (.call 160 [.t 15]),m 4 16]
def Ka:=some [[],[0],[],[2],[1,3],[],[5],[],[7],[6,8,4],[4,9],[10,9],[11,11,0,1,2,3,4,5,6,7,8,9,10,11]]
def xW:bj:=(s (r MU) (s (.bX Ka MV) .ret))
def Cj:List bt:=[.tmp 4]
theorem H0:bY Tryz.prog Tryz.f140 xW:=e (by kernel_rfl)
theorem Jg:bU Tryz.prog Tryz.f140 Cj:=e (by kernel_rfl)
theorem GR:bJ Tryz.prog 140:=e (by kernel_rfl)
theorem GU:bJ Tryz.prog 152:=e (by kernel_rfl)
def M9:=[o 4 (.mv (.c (.aj ⟨#[]⟩))),o 5 (.mv (.c (.aj ⟨#[]⟩))),o 6 (.mv bh)]
def Na:=[m 7 0,m 8 1,o 9 (.call 170 [.t 7,.t 8]),o 10 (.ext (.t 9) 0),o 11 (.ext (.t 9) 1),o 12 (.ext (.t 9) 2),m 4 10,m 5 11,m 6 12]
def xY:bj:=(s (r M9) (s (r Na) .ret))
def Cl:List bt:=[.tmp 4,.tmp 5,.tmp 6]
theorem H3:bY Tryz.prog Tryz.f154 xY:=e (by kernel_rfl)
theorem Ji:bU Tryz.prog Tryz.f154 Cl:=e (by kernel_rfl)
theorem GV:bJ Tryz.prog 154:=e (by kernel_rfl)
theorem GW:bJ Tryz.prog 155:=e (by kernel_rfl)
def Nb:=[b 3 1,bw 4 0]
def Nc:=[m 6 0,o 7 (.len (.t 6)),bw 8 0]
def Nd:=[lt 9 8 7]
def Nf:=[m 10 8,m 5 10]
def Ng:=[av 11 8 3,m 12 0,m 13 5,o 14 (.is 8 (.t 12) (.t 13)),av 15 8 14,o 16 (.eqv (.aV [(.aV [(.i .i64),(.i .i64)]),(.i .i64),(.i .i64),(.i .i64),(.aV [(.i .i64),(.i .i64)]),.s]) false (.t 11) (.t 15))]
def Kb:=some [[],[],[],[1,2],[3],[0,4]]
def Nh:=[m 17 5,m 4 17]
def Ni:=[ad 18 8 1,m 8 18]
def Nj:=[bw 4 (-1)]
def xZ:bj:=(s (r Nb) (s (s (r Nc) (.block 0 (.loop (s (r Nd) (s (.cond (.t 9) .skip (.exit 0)) (s (.block 1 (s (r Nf) (s (.bX Kb Ng) (.cond (.t 16) (s (r Nh) .ret) .skip)))) (r Ni))))))) (s (r Nj) .ret)))
def Cm:List bt:=[.tmp 4]
theorem H4:bY Tryz.prog Tryz.f159 xZ:=e (by kernel_rfl)
theorem Jj:bU Tryz.prog Tryz.f159 Cm:=e (by kernel_rfl)
theorem GX:bJ Tryz.prog 159:=e (by kernel_rfl)
def Ny:=[bw 2 0]
def Nz:=[bw 3 0]
def NA:=[m 6 0,o 7 (.len (.t 6)),bw 8 0]
def NB:=[lt 9 8 7]
def NC:=[o 10 (.is 1 (.t 6) (.t 8)),l 11 10,m 5 11]
def ND:=[m 12 5,m 13 3,o 14 (.bin .neq (.t 12) (.t 13))]
def NF:=[m 15 5,m 2 15]
def NG:=[ad 16 8 1,m 8 16]
def NH:=[m 17 3,m 2 17]
def x8:bj:=(s (r Ny) (s (r Nz) (s (s (r NA) (.block 0 (.loop (s (r NB) (s (.cond (.t 9) .skip (.exit 0)) (s (.block 1 (s (r NC) (s (r ND) (.cond (.t 14) (s (r NF) .ret) .skip)))) (r NG))))))) (s (r NH) .ret))))
def Cn:List bt:=[.tmp 2]
theorem H5:bY Tryz.prog Tryz.f160 x8:=e (by kernel_rfl)
theorem Jk:bU Tryz.prog Tryz.f160 Cn:=e (by kernel_rfl)
theorem GY:bJ Tryz.prog 160:=e (by kernel_rfl)
def NI:=[bw 4 0]
def NJ:=[m 7 0,o 8 (.call 175 [.t 7]),m 5 8]
def NO:=[m 9 1,o 10 (.call 175 [.t 9]),m 6 10]
def NP:=[m 11 5]
def NQ:=[m 12 6]
def NR:=[bw 4 0]
def NS:=[bw 4 (-1)]
def NT:=[m 13 6]
def NU:=[bw 4 1]
def NV:=[m 14 0,m 15 1,lt 16 14 15]
def NK:=[bw 4 (-1)]
def NL:=[m 17 0,m 18 1,o 19 (.bin .gtr (.t 17) (.t 18))]
def NM:=[bw 4 1]
def NN:=[bw 4 0]
def x9:bj:=(s (r NI) (s (r NJ) (s (r NO) (s (s (r NP) (.cond (.t 11) (s (s (r NQ) (.cond (.t 12) (s (r NR) .ret) .skip)) (s (r NS) .ret)) .skip)) (s (s (r NT) (.cond (.t 13) (s (r NU) .ret) .skip)) (s (s (r NV) (.cond (.t 16) (s (r NK) .ret) .skip)) (s (s (r NL) (.cond (.t 19) (s (r NM) .ret) .skip)) (s (r NN) .ret))))))))
def Co:List bt:=[.tmp 4]
theorem H6:bY Tryz.prog Tryz.f161 x9:=e (by kernel_rfl)
theorem Jl:bU Tryz.prog Tryz.f161 Co:=e (by kernel_rfl)
theorem GZ:bJ Tryz.prog 161:=e (by kernel_rfl)
def NW:=[o 4 (.mv (.c (.aj ⟨#[]⟩))),o 5 (.mv (.c (.aj ⟨#[]⟩))),o 6 (.mv bh)]
def NX:=[m 8 0,m 9 1,o 10 (.call 188 [.t 8,.t 9]),m 7 10]
def NY:=[m 11 7,o 12 (.bin .geq (.t 11) (aY 0))]
def NZ:=[m 13 0,m 14 7,o 15 (.prim (.ss false true) [.t 13,.t 14]),m 16 0,m 17 7,m 18 1,o 19 (.lenT (.t 18)),o 20 (.bin .add (.t 17) (.t 19)),o 21 (.prim (.ss true false) [.t 16,.t 20]),m 4 15,m 5 21,o 6 (.mv T)]
def Kd:=some [[],[],[0,1],[],[],[],[5],[4,6],[3,7],[2,0,1,2],[8,9,0,1,2,3,4,5,6,7,8,9],[10,0,1,2,3,4,5,6,7,8,9,10]]
def N0:=[m 22 0,m 4 22,o 5 (.mv (.c (.aj ⟨#[]⟩))),o 6 (.mv bh)]
def yb:bj:=(s (r NW) (s (s (r NX) (s (r NY) (.cond (.t 12) (s (.bX Kd NZ) .ret) .skip))) (s (r N0) .ret)))
def Cq:List bt:=[.tmp 4,.tmp 5,.tmp 6]
theorem H8:bY Tryz.prog Tryz.f170 yb:=e (by kernel_rfl)
theorem Jn:bU Tryz.prog Tryz.f170 Cq:=e (by kernel_rfl)
theorem yQ:bJ Tryz.prog 170:=e (by kernel_rfl)
def N4:=[o 2 (.mv bh)]
def N5:=[m 3 0,m 4 0,o 5 (.bin .neq (.t 3) (.t 4)),m 2 5]
def c175:bj:=(s (r N4) (s (r N5) .ret))
def Cr:List bt:=[.tmp 2]
theorem H9:bY Tryz.prog Tryz.f175 c175:=e (by kernel_rfl)
theorem Jo:bU Tryz.prog Tryz.f175 Cr:=e (by kernel_rfl)
theorem G1:bJ Tryz.prog 175:=e (by kernel_rfl)
def Od:=[bw 4 0]
def Oe:=[m 14 1,o 15 (.lenT (.t 14)),m 5 15]
def Ot:=[m 17 5,o 18 (.bin .eql (.t 17) (aY 0)),m 19 18,dS 20 1 19,dS 21 0 19,on 22 (.bin .eql (.t 20) (.t 21)) 19,or 23 19 22,m 16 23]
def OE:=[bw 4 0]
def OI:=[m 25 5,o 26 (.bin .eql (.t 25) (aY 1)),m 24 26]
def OJ:=[m 27 0,m 28 1,o 29 (.prim .dK [.t 28,(aY 0)]),o 30 (.call 152 [.t 27,.t 29]),m 4 30]
def OK:=[m 32 5,m 33 0,o 34 (.lenT (.t 33)),o 35 (.bin .geq (.t 32) (.t 34)),m 31 35]
def OL:=[bw 4 (-1)]
def OM:=[m 45 0,m 46 1,o 47 (.gv 204 [.t 45,.t 46]),m 4 47]
def ON:=[m 48 1,o 49 (.prim .dK [.t 48,(aY 0)]),m 6 49]
def Of:=[m 50 1,o 51 (.prim .dK [.t 50,(aY 1)]),m 7 51]
def Og:=[bw 8 0]
def Oh:=[m 52 0,o 53 (.lenT (.t 52)),m 54 5,o 55 (.bin .sub (.t 53) (.t 54)),ad 56 55 1,m 9 56]
def Oi:=[bw 10 0]
def Oj:=[m 57 8,m 58 9,lt 59 57 58]
def Ol:=[m 60 0,m 61 8,o 62 (.prim .dK [.t 60,.t 61]),m 63 6,o 64 (.bin .neq (.t 62) (.t 63))]
def Om:=[m 65 0,m 66 8,ad 67 66 1,m 68 9,o 69 (.prim (.ss true true) [.t 65,.t 67,.t 68]),m 70 6,o 71 (.call 152 [.t 69,.t 70]),m 11 71]
def On:=[m 72 11,o 73 (.bin .lss (.t 72) (aY 0))]
def Oo:=[bw 4 (-1)]
def Oq:=[m 74 8,m 75 11,ad 76 75 1,o 77 (.bin .add (.t 74) (.t 76)),m 8 77]
def Ou:=[m 78 0,m 79 8,ad 80 79 1,o 81 (.prim .dK [.t 78,.t 80]),m 82 7,o 83 (.bin .eql (.t 81) (.t 82)),m 84 83,c6 85 0 84,c6 86 8 84,c6 87 8 84,c6 88 5 84,bT 89 (.bin .add (.t 87) (.t 88)) 84,bT 90 (.prim (.ss true true) [.t 85,.t 86,.t 89]) 84,c6 91 1 84,bT 92 (.bin .eql (.t 90) (.t 91)) 84,and 93 84 92]
def Ov:=[m 94 8,m 4 94]
def Ow:=[m 95 8,ad 96 95 1,m 8 96]
def Ox:=[m 97 10,ad 98 97 1,m 10 98]
def Oy:=[m 108 0,m 109 8,o 110 (.prim (.ss true false) [.t 108,.t 109]),m 111 1,o 112 (.gv 204 [.t 110,.t 111]),m 12 112]
def Oz:=[m 113 12,o 114 (.bin .geq (.t 113) (aY 0))]
def OA:=[m 115 12,m 116 8,o 117 (.bin .add (.t 115) (.t 116)),m 4 117]
def OB:=[bw 4 (-1)]
def OC:=[m 133 0,m 134 8,o 135 (.prim (.ss true false) [.t 133,.t 134]),m 136 1,o 137 (.call 206 [.t 135,.t 136]),m 13 137]
def OD:=[m 138 13,o 139 (.bin .lss (.t 138) (aY 0))]
def OF:=[bw 4 (-1)]
def OG:=[m 140 8,m 141 13,o 142 (.bin .add (.t 140) (.t 141)),m 4 142]
def OH:=[bw 4 (-1)]
def yd:bj:=(s (r Od) (s (r Oe) (s (.block 0 (s (r Ot) (.cond (.t 16) (s (r OE) .ret) (s (r OI) (.cond (.t 24) (s (r OJ) .ret) (s (r OK) (.cond (.t 31) (s (r OL) .ret) (s .oV (.cond (.t 36) (s (r OM) .ret) .skip))))))))) (s (r ON) (s (r Of) (s (r Og) (s (r Oh) (s (r Oi) (s (.block 1 (.loop (s (s (r Oj) (.cond (.t 59) .skip (.exit 1))) (.block 2 (s (s (r Ol) (.cond (.t 64) (s (r Om) (s (s (r On) (.cond (.t 73) (s (r Oo) .ret) .skip)) (r Oq))) .skip)) (s (s (r Ou) (.cond (.t 93) (s (r Ov) .ret) .skip)) (s (r Ow) (s (r Ox) (s .oV (.cond (.t 107) (s (r Oy) (s (s (r Oz) (.cond (.t 114) (s (r OA) .ret) .skip)) (s (r OB) .ret))) (s .oV (.cond (.t 132) (s (r OC) (s (s (r OD) (.cond (.t 139) (s (r OF) .ret) .skip)) (s (r OG) .ret))) .skip)))))))))))) (s (r OH) .ret))))))))))
def Ct:List bt:=[.tmp 4]
theorem Ib:bY Tryz.prog Tryz.f188 yd:=e (by kernel_rfl)
theorem Jq:bU Tryz.prog Tryz.f188 Ct:=e (by kernel_rfl)
theorem G3:bJ Tryz.prog 188:=e (by kernel_rfl)
end Go.Proofs.YtoffnnjbplgnaaaGreatDoor
namespace Go.Abs
open Go Go.RowKit
open Enc (enc)
def ay(x:I)(p q:Prop):Prop:=match x with
 | .bool t=>(t=true→p)∧(t=false→q)
 |_=>False
theorem U.gD{c:cm}{A:ab}{Q:Exit→ab→Prop}{b:au}{x y:bj}(h:ay (af A b) (U c x Q A) (U c y Q A)):U c (.cond b x y) Q A:=by
 generalize hb:af A b=v at h;unfold ay at h;split at h
 ·exact U.cond hb h.1 h.2
 ·exact h.elim
def mR(r:I):Option (List I)→Prop
 |some xs=>jE xs=r
 |none=>False
theorem W7(rs:List bt)(r:I)(A:ab):jH rs r .ret A=mR r (en A rs):=by
 simp only[jH,mR];cases en A rs <;>simp
theorem W6(rs:List bt)(r:I)(A:ab):jH rs r .normal A=mR r (en A rs):=by
 simp only[jH,mR];cases en A rs <;>simp
def qe(s:Option Nat)(A:ab):Option I→Option I
 |some x=>if bS s x=true then aZ true A x else none
 |none=>none
def kI:Option I→Option (List I)→Option (List I)
 |some x,some xs=>some (x::xs)
 |_,_=>none
theorem WT(A:ab):en A []=some []:=rfl
theorem WU(A:ab)(t:Nat)(rs:List bt):en A (.tmp t::rs)=kI (aZ true A (A.t t)) (en A rs):=by
 simp only[en,sQ];cases aZ true A (A.t t) <;>cases en A rs <;>rfl
theorem WS(A:ab)(a:Nat)(s:Option Nat)(rs:List bt):en A (.cell a s::rs)=kI (qe s A (ft A (A.t a))) (en A rs):=by
 simp only[en,sQ,jq];cases ft A (A.t a) with
 |none=>cases en A rs <;>rfl
 |some x =>
  by_cases h:bS s x=true
  ·simp only[qe,if_pos h];cases aZ true A x <;>cases en A rs <;>rfl
  ·simp only[qe,if_neg h];cases en A rs <;>rfl
def nL(aB:Bool)(A:ab):Option I→Option I
 |some x=>if x.bu=true then some (.ref x) else (fS A 9 x).map .ref
 |none=>none
theorem uK(A:ab)(n:Nat)(p:List Nat):aZ true A (.ptr n p)=nL true A (dx p (A.o n)):=by
 simp only[aZ,jq,ft,if_true,nL];cases dx p (A.o n) <;>rfl
open Classical in
noncomputable def kL(sz lo k:Nat):Option (List I)→Option I
 |some fs=>if I.cj ((fs.drop lo).take k)=true then some (.slice sz ((fs.drop lo).take k)) else none
 |none=>none
theorem uL(A:ab)(n:Nat)(p:List Nat)(sz lo k:Nat):aZ true A (.view n p sz lo k)=kL sz lo k (dX (dx p (A.o n))):=by
 simp only[aZ,jq,ft,if_true];cases dx p (A.o n) with
 |none=>rfl
 |some c=>cases c <;>simp only[dX,I.cZ,kL] <;>(split <;>simp_all)
open Classical in
noncomputable def jX(k:Nat):Option ai→Option I
 |some (.bE _ sz es)=>if k=es.length∧I.cj es=true then some (.slice sz es) else none
 |_=>none
theorem Lp(aB:Bool)(A:ab)(n k:Nat):aZ aB A (.own n k)=jX k (A.o n):=by
 simp only[aZ];cases A.o n with
 |none=>rfl
 |some y=>cases y <;>simp only[jX] <;>(split <;>simp_all)
theorem Lj(aB:Bool)(A:ab)(fs:List I):aZ aB A (.agg fs)=(bC aB A fs).map .agg:=by simp only[aZ]
theorem Ll(aB:Bool)(A:ab)(f:FuncId)(fs:List I):aZ aB A (.func f fs)=if f<1000000 then (bC aB A fs).map (.func f) else some .any:=by simp only[aZ]
theorem Lm(aB:Bool)(A:ab)(k:IntKind)(n:Int):aZ aB A (.int k n)=some (.int k n):=by simp only[aZ]
theorem Lk(aB:Bool)(A:ab)(n:Bool):aZ aB A (.bool n)=some (.bool n):=by simp only[aZ]
theorem Ls(aB:Bool)(A:ab)(n:ByteArray):aZ aB A (.aj n)=some (.aj n):=by simp only[aZ]
theorem Lo(aB:Bool)(A:ab)(n:Nat):aZ aB A (.nils n)=some (.slice n []):=by simp only[aZ]
theorem Lr(aB:Bool)(A:ab)(n:Nat)(es:List I):aZ aB A (.slice n es)=if I.cj es=true then some (.slice n es) else none:=by simp only[aZ]
theorem Lq(aB:Bool)(A:ab)(x:I):aZ aB A (.ref x)=if x.bu=true then some (.ref x) else none:=by simp only[aZ]
theorem Lu(aB:Bool)(A:ab):bC aB A []=some []:=by simp only[bC]
theorem Lt(aB:Bool)(A:ab)(x:I)(xs:List I):bC aB A (x::xs)=kI (aZ aB A x) (bC aB A xs):=by
 simp only[bC];cases aZ aB A x <;>cases bC aB A xs <;>rfl
theorem IM(fs:List I):(I.agg fs).bu=I.cj fs:=by simp only[I.bu]
theorem IT(n:Nat)(fs:List I):(I.slice n fs).bu=I.cj fs:=by simp only[I.bu]
theorem IS(x:I):(I.ref x).bu=x.bu:=by simp only[I.bu]
theorem IQ(k:IntKind)(n:Int):(I.int k n).bu=true:=by simp only[I.bu]
theorem IN(n:Bool):(I.bool n).bu=true:=by simp only[I.bu]
theorem IU(n:ByteArray):(I.aj n).bu=true:=by simp only[I.bu]
theorem IP(f:FuncId)(fs:List I):(I.func f fs).bu=I.cj fs:=by simp only[I.bu]
theorem IW:I.cj []=true:=by simp only[I.cj]
theorem IV(x:I)(xs:List I):I.cj (x::xs)=(x.bu&&I.cj xs):=by simp only[I.cj]
theorem F6(k:IntKind)(a b:Int):bF .add (.int k a) (.int k b)=some (.int k (k.wrap (a+b))):=by simp[bF]
theorem Gm(k:IntKind)(a b:Int):bF .sub (.int k a) (.int k b)=some (.int k (k.wrap (a-b))):=by simp[bF]
theorem Ge(k:IntKind)(a b:Int):bF .mul (.int k a) (.int k b)=some (.int k (k.wrap (a*b))):=by simp[bF]
theorem Gi(k:IntKind)(a b:Int):bF .quo (.int k a) (.int k b)=if b=0 then none else some (.int k (k.wrap (a.tdiv b))):=by simp[bF]
theorem Gj(k:IntKind)(a b:Int):bF .rem (.int k a) (.int k b)=if b=0 then none else some (.int k (a.tmod b)):=by simp[bF]
theorem F7(k:IntKind)(a b:Int):bF .and (.int k a) (.int k b)=some (.int k (k.wrap ((BitVec.ofInt k.bits a &&& BitVec.ofInt k.bits b).toNat:Int))):=by simp[bF]
theorem Gh(k:IntKind)(a b:Int):bF .or (.int k a) (.int k b)=some (.int k (k.wrap ((BitVec.ofInt k.bits a ||| BitVec.ofInt k.bits b).toNat:Int))):=by simp[bF]
theorem Gn(k:IntKind)(a b:Int):bF .xor (.int k a) (.int k b)=some (.int k (k.wrap ((BitVec.ofInt k.bits a ^^^ BitVec.ofInt k.bits b).toNat:Int))):=by simp[bF]
theorem F8(k:IntKind)(a b:Int):bF .andNot (.int k a) (.int k b)=some (.int k (k.wrap ((BitVec.ofInt k.bits a &&& ~~~ BitVec.ofInt k.bits b).toNat:Int))):=by simp[bF]
theorem Gk(k k':IntKind)(a b:Int):bF .shl (.int k a) (.int k' b)=if 0≤b then some (.int k (k.wrap (a*2^(min b.toNat k.bits)))) else none:=by simp[bF]
theorem Gl(k k':IntKind)(a b:Int):bF .shr (.int k a) (.int k' b)=if 0≤b then some (.int k (a.fdiv (2^(min b.toNat k.bits)))) else none:=by simp[bF]
theorem F9(k:IntKind)(a b:Int):bF .eql (.int k a) (.int k b)=some (.bool (a==b)):=by simp[bF]
theorem Gf(k:IntKind)(a b:Int):bF .neq (.int k a) (.int k b)=some (.bool (a != b)):=by simp[bF]
theorem Gd(k:IntKind)(a b:Int):bF .lss (.int k a) (.int k b)=some (.bool (decide (a<b))):=by simp[bF]
theorem Gc(k:IntKind)(a b:Int):bF .leq (.int k a) (.int k b)=some (.bool (decide (a≤b))):=by simp[bF]
theorem Gb(k:IntKind)(a b:Int):bF .gtr (.int k a) (.int k b)=some (.bool (decide (b<a))):=by simp[bF]
theorem Ga(k:IntKind)(a b:Int):bF .geq (.int k a) (.int k b)=some (.bool (decide (b≤a))):=by simp[bF]
theorem xj :
  (∀ ts os d v,(aw ts os).put d v=aw ((d,v)::ts) os)∧(∀ ts os d v,(aw ts os).aM (some d) v=aw ((d,v)::ts) os)∧(∀ (A:ab) v,A.aM none v=A) ∧
  (∀ ts os d x,(aw ts os).aO d x=aw ts ((d,x)::os))∧(∀ ts os k,(aw ts os).t k=b9 ts k)∧(∀ ts os k,(aw ts os).o k=aH os k) ∧
  (∀ j v r k,b9 ((j,v)::r) k=if k=j then v else b9 r k)∧(∀ j v r k,aH ((j,v)::r) k=if k=j then some v else aH r k)∧(∀ k,aH [] k=none) ∧
  (∀ A k,af A (.t k)=A.t k)∧(∀ A x,af A (.c x)=x)∧(∀ d rest A v,cE d rest A v=al rest (A.aM d v))∧(∀ v k,b8 (some v) k=k v)∧(∀ A,al [] A=.done A) :=
 ⟨vm,Bf,UZ,r9,U0,UY,cd,ev,UO,K6,K5,Ur,Gp,FG⟩
theorem BL :
  (∀ d rest A op,al (⟨d,op,none⟩::rest) A=bm A d op rest)∧(∀ d rest A op t b,al (⟨d,op,some (t,b)⟩::rest) A=fT (A.t t) b d op rest A) ∧
  (∀ d rest A op,fT (.bool true) true d op rest A=bm A d op rest)∧(∀ d rest A op,fT (.bool false) false d op rest A=bm A d op rest) ∧
  (∀ d rest A op,fT (.bool true) false d op rest A=al rest (A.aM d .undef))∧(∀ d rest A op,fT (.bool false) true d op rest A=al rest (A.aM d .undef))∧(∀ d rest A op b,fT .undef b d op rest A=al rest (A.aM d .undef)) ∧
  (∀ d rest A x,bm A d (.mv x) rest=al rest (A.aM d (af A x)))∧(∀ d rest A c a b,bm A d (.pick c a b) rest=pW A d a b rest (af A c)) ∧
  (∀ A d a b rest,pW A d a b rest (.bool true)=al rest (A.aM d (af A a)))∧(∀ A d a b rest,pW A d a b rest (.bool false)=al rest (A.aM d (af A b))) ∧
  (∀ d rest A op x y,bm A d (.bin op x y) rest=b8 (bF op (af A x) (af A y)) (cE d rest A)) ∧
  (∀ d rest A ty neg x y,bm A d (.eqv ty neg x y) rest=b8 ((bR ty (af A x) (af A y)).map fun b=>.bool (if neg then !b else b)) (cE d rest A)) ∧
  (∀ d rest A op x,bm A d (.un op x) rest=b8 (qw op (af A x)) (cE d rest A))∧(∀ b,qw .not (.bool b)=some (.bool !b))∧(∀ k n,qw .neg (.int k n)=some (.int k (k.wrap (0-n))))∧(∀ k n,qw .xor (.int k n)=some (.int k (nE k n))) ∧
  (∀ d rest A k x,bm A d (.conv k x) rest=b8 (ue k (af A x)) (cE d rest A))∧(∀ k k' n,ue k (.int k' n)=some (.int k (k.wrap n))) ∧
  (∀ d rest A s x,bm A d (.ld s x) rest=b8 (fA s (ft A (af A x))) (cE d rest A))∧(∀ d rest A f off x,bm A d (.fa f off x) rest=b8 (lB A f off (af A x)) (cE d rest A)) ∧
  (∀ d rest A f off s x,bm A d (.fl f off s x) rest=b8 (ry f off s (af A x).cZ) (cE d rest A))∧(∀ d rest A n esz x i,bm A d (.ia n esz x i) rest=b8 (py A n esz (af A x) (af A i)) (cE d rest A)) ∧
  (∀ d rest A esz x i,bm A d (.is esz x i) rest=b8 (pC A esz (af A x) (af A i)) (cE d rest A))∧(∀ d rest A n esz s x i,bm A d (.ix n esz s x i) rest=b8 (pF n esz s (af A x) (af A i)) (cE d rest A)) ∧
  (∀ d rest A x,bm A d (.len x) rest=b8 (jx A (af A x)) (cE d rest A))∧(∀ d rest A n esz x,bm A d (.va n esz x) rest=b8 (nm A n esz (af A x)) (cE d rest A)) ∧
  (∀ d rest A zs ps,bm A d (.bld zs ps) rest=b8 ((e9 zs (ps.map fun p=>(p.1,af A p.2))).map .agg) (cE d rest A))∧(∀ d rest A x i,bm A d (.ext x i) rest=b8 (uC i (af A x)) (cE d rest A))∧(∀ i fs,uC i (.tuple fs)=fs[i]?) ∧
  (∀ d rest A f caps,bm A d (.mk f caps) rest=b8 (if ((caps.map (af A)).all fun y=>y.cv)=true then some (.func f (caps.map (af A))) else none) (cE d rest A)) ∧
  (∀ rest A d z,bm A (some d) (.alloc z) rest=tE A d z rest (A.o d))∧(∀ A d z rest,tE A d z rest none=al rest ((A.aO d (.box z)).put d (.ptr d []))) ∧
  (∀ rest A d x,bm A (some d) (.box x) rest=qR A d (af A x) rest (A.o d))∧(∀ A d z rest,qR A d z rest none=qS A d z rest z.cv)∧(∀ A d z rest,qS A d z rest true=al rest ((A.aO d (.box z)).put d (.ptr d []))) ∧
  (∀ rest A s x v,bm A none (.aV s x v) rest=s8 A s (af A v) rest (af A x))∧(∀ A s v rest n p,s8 A s v rest (.ptr n p)=s9 A s n p v rest (A.o n))∧(∀ A s n p v rest b,s9 A s n p v rest (some (.box b))=dT A s n p b v rest (b.at p)) ∧
  (∀ d rest A f args,bm A d (.call f args) rest=.call f (args.map (af A)) (bC true A (args.map (af A))) (bC false A (args.map (af A))) d rest A) ∧
  (∀ d rest A x args,bm A d (.eX x args) rest=o8 A d (args.map (af A)) rest (af A x))∧(∀ A d args rest f caps,o8 A d args rest (.func f caps)=if f<1000000 then .call f (args++caps) (bC true A (args++caps)) (bC false A (args++caps)) d rest A else .call (jW f) (caps++args) (bC true A (caps++args)) (bC false A (caps++args)) d rest A) :=
 ⟨Fs,Ft,Th,Te,Tg,Tf,Ti,VI,VM,fun _ _ _ _ _=>rfl,fun _ _ _ _ _=>rfl,Vj,Vt,VR,fun _=>rfl,fun _ _=>rfl,fun _ _=>rfl,Vr,fun _ _ _=>rfl,VA,Vv,Vw,Vx,Vy,Vz,VB,VS,Vk,Vu,fun _ _=>rfl,VE,
  Vg,fun _ _ _ _=>rfl,Vl,fun _ _ _ _=>rfl,fun _ _ _ _=>rfl,VQ,fun _ _ _ _ _ _=>rfl,fun _ _ _ _ _ _ _=>rfl,Vn,Vo,fun A d args rest f caps=>by
   simp only[o8];split
   ·rename_i h;rw[uF h,uE h]
   ·rename_i h;simp only[gz,if_neg h]⟩
theorem eK{A:ab}{s:Option Nat}{n:Nat}{p:List Nat}{b v old:I}{rest:List ar}(h1:v.cv=true)(h2:bS s v=true)(h3:v.aK=old.aK):dT A s n p b v rest (some old)=al rest (A.aO n (.box (b.dz p v))):=by
 simp only[dT];rw[if_pos ⟨h1,h2,h3⟩]
theorem Eo :
  (∀ A x,ft A (.ref x)=some x)∧(∀ A n p,ft A (.ptr n p)=dx p (A.o n))∧(∀ p c,dx p (some (.box c))=c.at p)∧(∀ c:I,c.at []=some c)∧(∀ (c:I) i p,c.at (i::p)=jk i p c.cZ) ∧
  (∀ i p fs,jk i p (some fs)=mb p fs[i]?)∧(∀ p f,mb p (some f)=f.at p)∧(∀ c v:I,c.dz [] v=v)∧(∀ (c:I) i p v,c.dz (i::p) v=ov c i p v c.cZ)∧(∀ c i p v fs,ov c i p v (some fs)=qm fs i p v fs[i]?) ∧
  (∀ fs i p v f,qm fs i p v (some f)=.agg (fs.set i (f.dz p v)))∧(∀ fs,(I.agg fs).cZ=some fs)∧(∀ x:I,dX (some x)=x.cZ) ∧
  (∀ s x,fA s (some x)=if bS s x=true then some x else none) ∧
  (∀ A f off c,lB A f off (.ref c)=rr f off c.cZ)∧(∀ A f off n p,lB A f off (.ptr n p)=pk n p f off (dX (dx p (A.o n))))∧(∀ f off fs,rr f off (some fs)=pj fs f off fs[f]?)∧(∀ fs f off v,pj fs f off (some v)=fI fs f off (.ref v)) ∧
  (∀ n p f off fs,pk n p f off (some fs)=fI fs f off (.ptr n (p++[f])))∧(∀ A n esz x kk k,py A n esz x (.int kk k)=gA A n esz k x)∧(∀ A n esz k c,gA A n esz k (.ref c)=gB k n (nR n esz k c.cZ)) ∧
  (∀ A n esz k m p,gA A n esz k (.ptr m p)=gB k n (mh n esz m p k (dX (dx p (A.o m)))))∧(∀ n esz k fs,nR n esz k (some fs)=gQ n esz fs ((fs[k.toNat]?).map .ref))∧(∀ n esz m p k fs,mh n esz m p k (some fs)=gQ n esz fs (some (.ptr m (p++[k.toNat])))) ∧
  (∀ A esz x kk k,pC A esz x (.int kk k)=iI A esz k x)∧(∀ n esz s x kk k,pF n esz s x (.int kk k)=mn n esz s k x.cZ)∧(∀ n esz s k fs,mn n esz s k (some fs)=gB k n (gQ n esz fs (fA s fs[k.toNat]?))) ∧
  (∀ A n esz m p,nm A n esz (.ptr m p)=qy n esz m p (dX (dx p (A.o m))))∧(∀ n esz m p fs,qy n esz m p (some fs)=qx n esz fs (.view m p esz 0 n)) ∧
  (∀ A sz es,jx A (.slice sz es)=some (.int .i64 es.length))∧(∀ A n,jx A (.nils n)=some (.int .i64 0))∧(∀ A n,jx A (.c0 n)=some (.int .i64 0)) :=
 ⟨fun _ _=>rfl,fun _ _ _=>rfl,fun _ _=>rfl,mc,FY,fun _ _ _=>rfl,fun _ _=>rfl,fD,wi,fun _ _ _ _ _=>rfl,fun _ _ _ _ _=>rfl,fun _=>rfl,fun _=>rfl,fun _ _=>rfl,fun _ _ _ _=>rfl,fun _ _ _ _ _=>rfl,fun _ _ _=>rfl,fun _ _ _ _=>rfl,
  fun _ _ _ _ _=>rfl,fun _ _ _ _ _ _=>rfl,fun _ _ _ _ _=>rfl,fun _ _ _ _ _ _=>rfl,fun _ _ _ _=>rfl,fun _ _ _ _ _ _=>rfl,fun _ _ _ _ _=>rfl,fun _ _ _ _ _ _=>rfl,fun _ _ _ _ _=>rfl,fun _ _ _ _ _=>rfl,fun _ _ _ _ _=>rfl,fun _ _ _=>rfl,fun _ _=>rfl,fun _ _=>rfl⟩
theorem zJ :
  (∀ A n p,aZ true A (.ptr n p)=nL true A (dx p (A.o n)))∧(∀ A x,nL true A (some x)=if x.bu=true then some (.ref x) else (fS A 9 x).map .ref)∧(∀ A n p sz lo k,aZ true A (.view n p sz lo k)=kL sz lo k (dX (dx p (A.o n)))) ∧
  (∀ A n p,aZ false A (.ptr n p)=none)∧(∀ A n p sz lo k,aZ false A (.view n p sz lo k)=none)∧(∀ x,kI none x=none)∧(∀ x,kI x none=none) ∧
  (∀ aB A n k,aZ aB A (.own n k)=jX k (A.o n))∧(∀ aB A fs,aZ aB A (.agg fs)=(bC aB A fs).map .agg)∧(∀ aB A f fs,aZ aB A (.func f fs)=if f<1000000 then (bC aB A fs).map (.func f) else some .any)∧(∀ aB A k n,aZ aB A (.int k n)=some (.int k n))∧(∀ aB A b,aZ aB A (.bool b)=some (.bool b)) ∧
  (∀ aB A s,aZ aB A (.aj s)=some (.aj s))∧(∀ aB A n,aZ aB A (.nils n)=some (.slice n []))∧(∀ aB A n es,aZ aB A (.slice n es)=if I.cj es=true then some (.slice n es) else none)∧(∀ aB A x,aZ aB A (.ref x)=if x.bu=true then some (.ref x) else none) ∧
  (∀ aB A,bC aB A []=some [])∧(∀ aB A x xs,bC aB A (x::xs)=kI (aZ aB A x) (bC aB A xs))∧(∀ x xs,kI (some x) (some xs)=some (x::xs)) ∧
  (∀ fs,(I.agg fs).bu=I.cj fs)∧(∀ n fs,(I.slice n fs).bu=I.cj fs)∧(∀ x,(I.ref x).bu=x.bu)∧(∀ k n,(I.int k n).bu=true)∧(∀ n,(I.bool n).bu=true)∧(∀ n,(I.aj n).bu=true)∧(∀ f fs,(I.func f fs).bu=I.cj fs) ∧
  I.cj []=true∧(∀ x xs,I.cj (x::xs)=(x.bu&&I.cj xs)) ∧
  (∀ rs r A,jH rs r .ret A=mR r (en A rs))∧(∀ rs r A,jH rs r .normal A=mR r (en A rs))∧(∀ r xs,mR r (some xs)=(jE xs=r))∧(∀ A,en A []=some [])∧(∀ A t rs,en A (.tmp t::rs)=kI (aZ true A (A.t t)) (en A rs)) ∧
  (∀ A a s rs,en A (.cell a s::rs)=kI (qe s A (ft A (A.t a))) (en A rs))∧(∀ s A x,qe s A (some x)=if bS s x=true then aZ true A x else none)∧(∀ x,jE [x]=x)∧(∀ x y xs,jE (x::y::xs)=.tuple (x::y::xs)) :=
 ⟨uK,fun _ _=>rfl,uL,fun _ _ _=>rfl,fun _ _ _ _ _ _=>rfl,fun _=>rfl,fun x=>by cases x <;>rfl,Lp,Lj,Ll,Lm,Lk,Ls,Lo,Lr,Lq,Lu,Lt,fun _ _=>rfl,IM,IT,IS,IQ,IN,IU,IP,IW,IV,
  W7,W6,fun _ _=>rfl,WT,WU,WS,fun _ _ _=>rfl,fun _=>rfl,fun _ _ _=>rfl⟩
theorem xA :
  (∀ k a b,bF .add (.int k a) (.int k b)=some (.int k (k.wrap (a+b))))∧(∀ k a b,bF .sub (.int k a) (.int k b)=some (.int k (k.wrap (a-b))))∧(∀ k a b,bF .mul (.int k a) (.int k b)=some (.int k (k.wrap (a*b)))) ∧
  (∀ k a b,bF .quo (.int k a) (.int k b)=if b=0 then none else some (.int k (k.wrap (a.tdiv b))))∧(∀ k a b,bF .rem (.int k a) (.int k b)=if b=0 then none else some (.int k (a.tmod b))) ∧
  (∀ k a b,bF .and (.int k a) (.int k b)=some (.int k (k.wrap ((BitVec.ofInt k.bits a &&& BitVec.ofInt k.bits b).toNat:Int))))∧(∀ k a b,bF .or (.int k a) (.int k b)=some (.int k (k.wrap ((BitVec.ofInt k.bits a ||| BitVec.ofInt k.bits b).toNat:Int)))) ∧
  (∀ k a b,bF .xor (.int k a) (.int k b)=some (.int k (k.wrap ((BitVec.ofInt k.bits a ^^^ BitVec.ofInt k.bits b).toNat:Int))))∧(∀ k a b,bF .andNot (.int k a) (.int k b)=some (.int k (k.wrap ((BitVec.ofInt k.bits a &&& ~~~ BitVec.ofInt k.bits b).toNat:Int)))) ∧
  (∀ k k' a b,bF .shl (.int k a) (.int k' b)=if 0≤b then some (.int k (k.wrap (a*2^(min b.toNat k.bits)))) else none)∧(∀ k k' a b,bF .shr (.int k a) (.int k' b)=if 0≤b then some (.int k (a.fdiv (2^(min b.toNat k.bits)))) else none) ∧
  (∀ k a b,bF .eql (.int k a) (.int k b)=some (.bool (a==b)))∧(∀ k a b,bF .neq (.int k a) (.int k b)=some (.bool (a != b)))∧(∀ k a b,bF .lss (.int k a) (.int k b)=some (.bool (decide (a<b))))∧(∀ k a b,bF .leq (.int k a) (.int k b)=some (.bool (decide (a≤b)))) ∧
  (∀ k a b,bF .gtr (.int k a) (.int k b)=some (.bool (decide (b<a))))∧(∀ k a b,bF .geq (.int k a) (.int k b)=some (.bool (decide (b≤a)))) :=
 ⟨F6,Gm,Ge,Gi,Gj,F7,Gh,Gn,F8,Gk,Gl,F9,Gf,Gd,Gc,Gb,Ga⟩
end Go.Abs
namespace Go.Abs
open Go Go.RowKit
open Enc (enc)
section
variable {α:Type} [Enc α]
theorem UJ(A:ab)(l:List α):jx A (enc l)=some (.int .i64 l.length):=by simp[gy,jx]
theorem Ud{A:ab}(esz:Nat){k:Int}{l:List α}(h:0≤k∧k.toNat<l.length)(hs:Enc.sz α=esz):iI A esz k (enc l)=some (.ref (enc l[k.toNat])):=by
 simp only[gy,iI,hs,Z2,true_and];rw[if_pos ⟨h.1,by omega⟩];simp[h.2]
theorem fm{A:ab}(esz:Nat){k:Nat}{l:List α}(h:k<l.length)(hs:Enc.sz α=esz):iI A esz k (enc l)=some (.ref (enc l[k])):=by
 have:=Ud (A:=A) esz (k:=(k:Int)) (l:=l) ⟨by omega,by simpa using h⟩ hs;simpa using this
theorem dQ.lt{α:Type}{n:Nat}(x:dQ n α){k:Nat}(h:k<n):k<x.l.length:=by rw[x.h];exact h
theorem X9{n:Nat}(esz:Nat){k:Int}{x:dQ n α}(h:0≤k∧k.toNat<n)(hs:Enc.sz α=esz):gB k n (nR n esz k (some (x.l.map enc)))=some (.ref (enc (x.l[k.toNat]'(x.lt h.2)))):=by
 have hl:=x.lt h.2;simp only[gB,nR,gQ,uA n esz x.l x.h hs,if_true];rw[if_pos ⟨h.1,by omega⟩];simp[hl]
theorem rO{n:Nat}(esz:Nat){k:Int}(x:dQ n α){y:Option I}(h:0≤k∧k<n)(hs:Enc.sz α=esz):gB k n (gQ n esz (x.l.map enc) y)=y:=by
 simp only[gB,gQ,uA n esz x.l x.h hs,if_true];rw[if_pos h]
theorem Tk{n k:Nat}(x:dQ n α)(h:k<n):(x.l.map enc)[k]?=some (enc (x.l[k]'(x.lt h))):=by
 simp[x.lt h]
theorem Un{n:Nat}(esz:Nat){s:Option Nat}{k:Int}{x:dQ n α}(h:0≤k∧k.toNat<n)(hs:Enc.sz α=esz):mn n esz s k (some (x.l.map enc))=fA s (some (enc (x.l[k.toNat]'(x.lt h.2)))):=by
 have hl:=x.lt h.2;simp only[mn,gB,gQ,uA n esz x.l x.h hs,if_true];rw[if_pos ⟨h.1,by omega⟩];simp[hl]
theorem FX{n k:Nat}{p:List Nat}{x:dQ n α}(h:k<n):jk k p (some (x.l.map enc))=(enc (x.l[k]'(x.lt h))).at p:=by
 have hl:=x.lt h;simp[jk,mb,hl]
theorem V3(k:IntKind)(n:Int):fA none (some (.int k n))=some (.int k n):=by simp[fA,lK,bS,I.isAgg]
theorem V1(b:Bool):fA none (some (.bool b))=some (.bool b):=by simp[fA,lK,bS,I.isAgg]
theorem V4(z:Nat)(es:List I):fA none (some (.slice z es))=some (.slice z es):=by simp[fA,lK,bS,I.isAgg]
theorem V2(f:FuncId)(es:List I):fA none (some (.func f es))=some (.func f es):=by simp[fA,lK,bS,I.isAgg]
end
mutual
/-- What every value in memory keeps to: whole numbers within their kind,slices no longer than a slice can be. -/
def I.wf:I→Prop
 | .agg fs=>I.gu fs
 | .int k n=>k.min≤n∧n≤k.max
 | .aj s=>s.size≤maxLen
 | .slice _ es=>es.length≤maxLen∧I.gu es
 | .ref c=>c.wf
 | .func _ caps=>I.gu caps
 | .iface _ v=>v.wf
 |_=>True
def I.gu:List I→Prop
 | []=>True
 |x::xs=>x.wf∧I.gu xs
end
mutual
theorem sJ{w:World}{D:aD}{E:aN} : ∀ (x:I) (cs:List Value),ae w D E x cs→x.wf
 | .agg fs,cs,h=>by simp only[ae,I.wf] at *;exact vP fs cs h
 | .int k n,cs,h=>by simp only[ae,I.wf] at *;exact h.2
 | .aj s,cs,h=>by simp only[ae,I.wf] at *;exact h.2
 | .slice sz es,cs,h=>by
  simp only[ae,I.wf] at *;obtain ⟨a,cap,_,h1,h2,h3,_⟩:=h;refine ⟨by omega,?_⟩;rcases h3 with rfl | ⟨b,off,cs',_,_,h4⟩
  ·simp[I.gu]
  ·exact vP es cs' h4
 | .ref c,cs,h=>by simp only[ae,I.wf] at *;obtain ⟨b,off,cs',_,_,h⟩:=h;exact sJ c cs' h
 | .func f caps,cs,h=>by simp only[ae,I.wf] at *;obtain ⟨vs,_,h⟩:=h;exact ot caps vs h
 | .iface t v,cs,h=>by simp only[ae,I.wf] at *;obtain ⟨u,cs',_,_,h⟩:=h;exact sJ v cs' h
 | .bool _,_,_ | .nilp,_,_ | .c8,_,_ | .cN,_,_ | .any,_,_ | .raw _,_,_ | .nils _,_,_ | .c0 _,_,_ | .ptr _ _,_,_ | .own _ _,_,_ | .view _ _ _ _ _,_,_ | .mref _,_,_ | .cR _,_,_ | .cW _ _,_,_ | .undef,_,_ | .cU,_,_ | .tuple _,_,_=>by simp[I.wf]
theorem vP{w:World}{D:aD}{E:aN} : ∀ (xs:List I) (cs:List Value),az w D E xs cs→I.gu xs
 | [],_,_=>by simp[I.gu]
 |x::xs,cs,h=>by
  simp only[az,I.gu] at *;obtain ⟨c1,c2,_,h1,h2⟩:=h;exact ⟨sJ x c1 h1,vP xs c2 h2⟩
theorem ot{w:World}{D:aD}{E:aN} : ∀ (xs:List I) (vs:List Value),ao w D E xs vs→I.gu xs
 | [],_,_=>by simp[I.gu]
 |x::xs,vs,h=>by
  simp only[ao,I.gu] at *;obtain ⟨v,rest,cs,_,_,h1,h2⟩:=h;exact ⟨sJ x cs h1,ot xs rest h2⟩
end
theorem aQ.wf{P:Program}{f:FuncId}{args:List I}{r:I}(hc:dO P f=true)(h:I.gu args→aQ P f args r):aQ P f args r :=
 ⟨hc,fun w D vs hl h1 h2=>(h (ot _ _ h2)).2 w D vs hl h1 h2⟩
theorem aQ.bN{P:Program}{f:FuncId}{fn:Func}{x:bj}{rs:List bt}{args:List I}{r:I}(hf:P.funcs[f]?=some fn)(hcall:dO P f=true)(hc:(fn.body.bind (dN P fn.ntmps))=some x)
  (hrs:fO P fn.results.toList=some rs) (hn:args.length≤fn.ntmps) (h:I.gu args→∀ (w:World) (D:aD) (E:aN),U ⟨P,w,D,fn.ntmps,bQ E,E,fu,none,none⟩ x (jH rs r) (aw (bD 0 args) [])):aQ P f args r :=
 aQ.wf hcall fun hw=>aQ.mk hf hcall hc hrs hn (h hw)
theorem iO{α:Type}[Enc α] :
  (∀ A (l:List α),jx A (enc l)=some (.int .i64 l.length))∧(∀ n (x:dQ n α),(enc x).cZ=some (x.l.map enc)) :=
 ⟨UJ,fun _ _=>rfl⟩
theorem jC:(∀ k n,fA none (some (.int k n))=some (.int k n))∧(∀ b,fA none (some (.bool b))=some (.bool b))∧(∀ z es,fA none (some (.slice z es))=some (.slice z es))∧(∀ f es,fA none (some (.func f es))=some (.func f es)) :=
 ⟨V3,V1,V4,V2⟩
end Go.Abs
namespace Go.Abs
open Go Go.RowKit
open Enc (enc)
def n5(neg:Bool):I→Option I
 | .nils _=>some (.bool (!neg))
 | .slice _ es=>if es.isEmpty then none else some (.bool neg)
 | .view _ _ _ _ _=>some (.bool neg)
 |_=>none
def lG:I→Option I
 | .aj s=>some (.int .i64 s.size)
 |_=>none
open Classical in
noncomputable def lj(n:Nat)(p:List Nat)(sz l0 k esz:Nat)(lo hi mx:Option I):Option (List I)→Option I
 |some fs=>if sz=esz then iw n p sz l0 k fs.length lo hi mx else none
 |none=>none
noncomputable def hG(A:ab)(esz:Nat)(lo hi mx:Option I):I→Option I
 | .slice sz es=>if sz=esz then gL sz es lo hi mx else none
 | .nils sz=>if sz=esz then gL sz [] lo hi mx else none
 | .c0 sz=>if sz=esz then gL sz [] lo hi mx else none
 | .view n p sz l0 k=>lj n p sz l0 k esz lo hi mx (dX (dx p (A.o n)))
 |_=>none
open Classical in
noncomputable def gh(esz:Nat):Option (List I)→Option I
 |some es=>if (es.all fun e=>e.size==esz)=true∧I.cj es=true then some (.slice esz es) else none
 |none=>none
open Classical in
noncomputable def oR(A:ab)(d:Option Nat)(e esz bytes n l T sz':Nat)(es:List I)(rest:List ar):I→bV
 | .slice sz ys=>if vA e esz bytes l sz ys T sz' es then al rest ((A.aO n (.bE e esz (es++ys))).aM d (.own n (es.length+ys.length))) else .fail
 |_=>.fail
open Classical in
noncomputable def tF(A:ab)(d:Option Nat)(e esz bytes:Nat)(z:I)(n l T:Nat)(xs:List Int)(rest:List ar):I→bV
 | .slice _ ys=>if vB e esz bytes l ys T xs z then al rest ((A.aO n (.dL e (xs++pz ys))).aM d (.own n (xs.length+ys.length))) else .fail
 |_=>.fail
noncomputable def oQ(A:ab)(d:Option Nat)(e esz bytes:Nat)(z:I)(n l:Nat)(x:I)(rest:List ar):Option ai→bV
 |some (.bE T sz' es)=>oR A d e esz bytes n l T sz' es rest x
 |some (.dL T xs)=>tF A d e esz bytes z n l T xs rest x
 |_=>.fail
noncomputable def eO(A:ab)(d:Option Nat)(e esz bytes:Nat)(z x:I)(rest:List ar):I→bV
 | .own n l=>oQ A d e esz bytes z n l x rest (A.o n)
 |s=>eb A d esz bytes z s (cO A esz s) (cO A esz x) (al rest)
section
variable (d:Option Nat) (rest:List ar) (A:ab)
noncomputable def n9(neg:Bool)(x:I):Bool→bV
 |true=>.any (fun m=>m<2) (fun m=>al rest (A.aM d (.bool (m==0))))
 |false=>b8 (n5 neg x) (cE d rest A)
theorem VK(neg:Bool)(x:au):bm A d (.nilS neg x) rest=n9 d rest A neg (af A x) (iN (af A x)):=by
 simp only[bm,aU,aT];cases iN (af A x)
 ·simp only[Z7,if_false,n9,n5];cases af A x <;>rfl
 ·rfl
theorem VC(x:au):bm A d (.lenT x) rest=b8 (lG (af A x)) (cE d rest A):=by
 simp only[bm,aU,aT];cases af A x <;>rfl
theorem VP(esz:Nat)(x:au)(lo hi mx:Option au):bm A d (.sl esz x lo hi mx) rest=b8 (hG A esz (lo.map (af A)) (hi.map (af A)) (mx.map (af A)) (af A x)) (cE d rest A):=by
 simp only[bm,aU,aT];cases af A x <;>try rfl
 rename_i n p sz l0 k;simp only[hG,jq,ft];cases dx p (A.o n) with
 |none=>rfl
 |some c=>cases c <;>simp only[dX,I.cZ,lj] <;>(first | rfl | (split <;>rfl))
theorem Vm(T esz:Nat)(ps:List au):bm A d (.bs T esz ps) rest=b8 (gh esz (bC false A (ps.map (af A)))) (cE d rest A):=by
 simp only[bm,aU,aT];cases bC false A (ps.map (af A)) <;>simp only[gh] <;>rfl
theorem Vh(e esz bytes:Nat)(z:I)(s x:au):bm A d (.dM e esz bytes z s x) rest=eO A d e esz bytes z (af A x) rest (af A s):=by
 simp only[bm,aU];generalize af A s=s';generalize af A x=x';cases s' <;>simp only[eO]
 rename_i n l;cases x' <;>simp only <;>generalize A.o n=z <;>(cases z with
  |none=>rfl
  |some y=>cases y <;>simp only[oQ,oR,tF])
end
theorem BM :
  (∀ d rest A neg x,bm A d (.nilS neg x) rest=n9 d rest A neg (af A x) (iN (af A x)))∧(∀ d rest A neg x,n9 d rest A neg x false=b8 (n5 neg x) (cE d rest A))∧(∀ z,iN (.nils z)=false)∧(∀ n p sz lo k,iN (.view n p sz lo k)=false)∧(∀ d rest A x,bm A d (.lenT x) rest=b8 (lG (af A x)) (cE d rest A)) ∧
  (∀ d rest A esz x lo hi mx,bm A d (.sl esz x lo hi mx) rest=b8 (hG A esz (lo.map (af A)) (hi.map (af A)) (mx.map (af A)) (af A x)) (cE d rest A)) ∧
  (∀ d rest A T esz ps,bm A d (.bs T esz ps) rest=b8 (gh esz (bC false A (ps.map (af A)))) (cE d rest A))∧(∀ d rest A e esz bytes z s x,bm A d (.dM e esz bytes z s x) rest=eO A d e esz bytes z (af A x) rest (af A s)) ∧
  (∀ A d e esz bytes z x rest n l,eO A d e esz bytes z x rest (.own n l)=oQ A d e esz bytes z n l x rest (A.o n))∧(∀ A d e esz bytes z n l x rest T sz es,oQ A d e esz bytes z n l x rest (some (.bE T sz es))=oR A d e esz bytes n l T sz es rest x)∧(∀ A d e esz bytes z n l x rest T xs,oQ A d e esz bytes z n l x rest (some (.dL T xs))=tF A d e esz bytes z n l T xs rest x) ∧
  (∀ neg z,n5 neg (.nils z)=some (.bool (!neg))) :=
 ⟨VK,fun _ _ _ _ _=>rfl,fun _=>rfl,fun _ _ _ _ _=>rfl,VC,VP,Vm,Vh,fun _ _ _ _ _ _ _ _ _ _=>rfl,fun _ _ _ _ _ _ _ _ _ _ _ _ _=>rfl,fun _ _ _ _ _ _ _ _ _ _ _ _=>rfl,fun _ _=>rfl⟩
theorem V8(p:Nat→Bool)(xs ys:List I):I.cH p (xs++ys)=(I.cH p xs&&I.cH p ys):=by
 induction xs with
 |nil=>simp[I.cH]
 |cons x xs ih=>simp[I.cH,ih,Bool.and_assoc]
section
variable {α:Type} [Enc α]
theorem xn{A:ab}{d:Option Nat}(e:Nat)(esz bytes n:Nat){l:Nat}{es ys:List α}{rest:List ar}(hl:l=es.length)(hs:Enc.sz α=esz)(hy:ys≠[])(h1:es.length+ys.length≤maxLen)(h2:(es.length+ys.length)*bytes≤140737488355328) :
  oR A d e esz bytes n l e esz (es.map enc) rest (enc ys)=al rest ((A.aO n (.bE e esz ((es++ys).map enc))).aM d (.own n (es++ys).length)):=by
 simp only[gy,oR];rw[if_pos ⟨by simpa using hl,hs,rfl,rfl,by simpa using hy,by simpa using h1,by simpa using h2⟩];simp
theorem tQ(esz:Nat){ys:List α}(hs:Enc.sz α=esz):gh esz (some (ys.map enc))=some (enc ys):=by
 have h1:((ys.map enc).all fun e:I=>e.size==esz)=true:=by
  simp only[Y5,zz1];rintro x ⟨y,_,rfl⟩;simp[Enc.size,hs]
 simp only[gh,gy];rw[if_pos ⟨h1,pb ys⟩,hs]
theorem oZ(esz:Nat)(y:α)(hs:Enc.sz α=esz):gh esz (some [enc y])=some (enc [y]):=tQ (ys:=[y]) esz hs
theorem pn(sz:Nat){T k:Nat}{es:List α}(hk:k=es.length)(hs:Enc.sz α=sz):jX k (some (.bE T sz (es.map enc)))=some (enc es):=by
 simp only[jX,Z2];rw[if_pos ⟨hk,pb es⟩,gy,hs]
theorem pU(p:Nat→Bool)(l:List α):I.cH p (l.map enc)=true:=by
 induction l with
 |nil=>rfl
 |cons x l ih=>simp only[Z4,I.cH,bG,ih,Bool.and_self]
end
theorem AE :
  (∀ n:Int,gh 1 (some [.int .i64 n])=some (enc [n]))∧(∀ (T:Nat) (es:List Int),jX es.length (some (.bE T 1 (es.map enc)))=some (enc es)) :=
 ⟨fun n=>oZ 1 n rfl,fun _ _=>pn 1 rfl rfl⟩
theorem bx.Fw{A:ab}{d n T sz z:Nat}(hd:A.t d=.nils z)(hn:A.o n=none)(hlt:n<1000000):bx A ((A.aO n (.bE T sz [])).put d (.own n 0)):=by
 rintro c a w ⟨D,E,h⟩;have aq:E n=none:=by have:=h.bz n;rw[hn] at this;exact this
 have hl:dh w D E w D (fun m=>if m=n then some (.rw none 0) else E m):=by
  have ew:∀ {m:Nat} {e:br},E m=some e→(if m=n then some (.rw none 0) else E m)=some e:=fun {m e} he=>by
   have:m≠n:=fun e=>by rw[e,aq] at he;cases he
   rw[if_neg this];exact he
  refine ⟨fun _ _ h=>h,fun _ _ _ _ h=>h,fun m b aK he=>ew he,fun m aA l he =>?_,fun m b he=>ew he,fun m b he=>ew he,fun _ _ _ _ h=>h⟩
  ·have:m≠n:=fun e=>by rw[e,aq] at he;cases he
   exact ⟨aA,l,by simp only[if_neg this];exact he,Z5 _,fun _=>rfl⟩
 refine ⟨D,fun m=>if m=n then some (.rw none 0) else E m,h.sz,h.ec,fun t =>?_,h.df,h.cI,h.cL,fun m =>?_,fun m m' e e' b h1 h2 h3 h4 =>?_,fun m e hm =>?_,h.eF,h.cw,h.eI,h.fb⟩
 ·simp only[ab.put,ab.aO];by_cases ht:t=d
  ·subst ht;simp only[if_true];have hv:=h.dB t;rw[hd] at hv;obtain ⟨cs,q1,q2⟩:=hv;simp only[ae] at q2;subst q2;refine ⟨[.slice none 0 0],by simpa[aW,I.isAgg] using q1,?_⟩;simp only[ae,if_true];exact ⟨none,0,rfl,Z5 _,⟨_,_,_,rfl⟩,fun _=>trivial⟩
  ·simp only[if_neg ht];exact aP.later hl (h.dB t)
 ·simp only[ab.put,ab.aO];by_cases hm:m=n
  ·subst hm;simp only[if_true,cX];exact ⟨none,by simp,by simp,trivial⟩
  ·simp only[if_neg hm];exact (h.bz m).later hl (by simp only[if_neg hm]) fun _ _ _ _=>⟨rfl,fun _ ho=>ho⟩
 ·by_cases hm:m=n <;>by_cases hm':m'=n
  ·rw[hm,hm']
  ·simp only[if_pos hm,v6] at h1;subst h1;simp[br.aA] at h3
  ·simp only[if_pos hm',v6] at h2;subst h2;simp[br.aA] at h4
  ·simp only[if_neg hm] at h1;simp only[if_neg hm'] at h2;exact h.cz m m' e e' b h1 h2 h3 h4
 ·have hmn:m≠n:=fun e=>by rw[e,h.iY (.inr hlt)] at hm;cases hm
  simp only[if_neg hmn];exact h.dy m e hm
theorem bx.Fz{ts:List (Nat×I)}{os:List (Nat×ai)}(d n T sz z:Nat)(hd:b9 ts d=.nils z)(hn:aH os n=none){B:ab}(h:bx (aw ((d,.own n 0)::ts) ((n,.bE T sz [])::os)) B)(hlt:n<1000000:=by decide):bx (aw ts os) B :=
 ((bx.Fw (A:=aw ts os) (T:=T) (sz:=sz) hd hn hlt).trans (by rw[r9,vm];exact bx.refl _)).trans h
def dQ.g{n:Nat}(x:dQ n Int)(k:Nat):Int:=x.l.getD k 0
theorem dQ.uW{n k:Nat}(x:dQ n Int)(h:k<n):x.l[k]'(x.lt h)=x.g k:=by simp[dQ.g,x.lt h]
theorem jP{n k:Nat}{p:List Nat}(x:dQ n Int)(h:k<n):jk k p (some (x.l.map enc))=(I.int .i64 (x.g k)).at p:=by
 rw[FX h,x.uW h];rfl
theorem Ak{n k:Nat}(x:dQ n Int)(h:k<n):(x.l.map (enc (α:=Int)))[k]?=some (I.int .i64 (x.g k)):=by
 rw[Tk x h,x.uW h];rfl
theorem BA:(∀ k n,bS none (.int k n)=true)∧(∀ b,bS none (.bool b)=true)∧(∀ z es,bS none (.slice z es)=true)∧(∀ f es,bS none (.func f es)=true)∧(∀ z,bS none (.nils z)=true)∧(∀ n k,bS none (.own n k)=true) :=
 ⟨fun _ _=>rfl,fun _=>rfl,fun _ _=>rfl,fun _ _=>rfl,fun _=>rfl,fun _ _=>rfl⟩
theorem ba:(type_of% @xj)∧(type_of% @BL)∧(type_of% @BM)∧(type_of% @AE)∧(type_of% @BA)∧(type_of% @Eo)∧(type_of% @zJ)∧(type_of% @xA)∧(∀ n:Int,(enc n:I)=.int .i64 n)∧(∀ n:Bool,(enc n:I)=.bool n) ∧
  (∀ {α β:Type} (f:α→β) (x:α) (xs:List α),List.map f (x::xs)=f x::List.map f xs)∧(∀ {α β:Type} (f:α→β),List.map f []=[])∧(∀ {α:Type} (xs:List α),[]++xs=xs)∧(∀ n:Nat,(n:Int).toNat=n)∧(∀ {α β:Type} (f:α→β) (x:α),Option.map f (some x)=some (f x)) ∧
  (∀ n:Nat,0≤(n:Int))∧((!true)=false)∧((!false)=true)∧((false=true)=False)∧((true=false)=False) :=
 ⟨@xj,@BL,@BM,@AE,@BA,@Eo,@zJ,@xA,rn,KU,fun _ _ _=>rfl,fun _=>rfl,fun _=>rfl,fun _=>rfl,fun _ _=>rfl,fun n=>Int.natCast_nonneg n,rfl,rfl,by simp,by simp⟩
end Go.Abs
namespace Go.Abs
open Go Go.RowKit
open Enc (enc)
theorem iQ.bN{P:Program}{f:FuncId}{fn:Func}{x:bj}{rs:List bt}{Y:Value→List I→List (Nat×ai)→b6→Prop}{args:List I}{os:List (Nat×ai)}{post:b6}(hf:P.funcs[f]?=some fn)(hcall:dO P f=true)(hc:(fn.body.bind (dN P fn.ntmps))=some x)
  (hrs:fO P fn.results.toList=some rs) (hn:args.length≤fn.ntmps) (hn2:fn.ntmps≤1000000) (hos:∀ m,aC os m=true→1000000≤m) (h:I.gu args→∀ (w:World) (D:aD) (E:aN),U ⟨P,w,D,fn.ntmps,bQ E,E,Y,none,none⟩ x (mQ rs post) (aw (bD 0 args) os)):iQ P f Y args os post:=by
 obtain ⟨body,hb,hc'⟩:=zy3.1 hc;refine ⟨hcall,fun w D E vs hy hD ho hv =>?_⟩;exact (iQ.sr hf hb hcall hc' hrs hn (fun m hm=>⟨Nat.le_trans hn2 (hos m hm),hos m hm⟩) (fun w D E=>(h (ot _ _ hv) w D E).sub (ta args os))).2 w D E vs hy hD ho hv
theorem eL.bN{P:Program}{f:FuncId}{fn:Func}{x:bj}{rs:List bt}{args:List I}{os:List (Nat×ai)}{post:b6}(hf:P.funcs[f]?=some fn)(hcall:dO P f=true)(hc:(fn.body.bind (dN P fn.ntmps))=some x)
  (hrs:fO P fn.results.toList=some rs) (hn:args.length≤fn.ntmps) (hn2:fn.ntmps≤1000000) (hos:∀ m,aC os m=true→1000000≤m) (h:I.gu args→∀ (w:World) (D:aD) (E:aN),U ⟨P,w,D,fn.ntmps,bQ E,E,fu,none,none⟩ x (mQ rs post) (aw (bD 0 args) os)):eL P f args os post :=
 eL.Bp (iQ.bN hf hcall hc hrs hn hn2 hos h)
theorem u1{A:ab} : ∀ n x,aH [] n=some x→A.o n=some x∧x.only (aC [])=true∧x.eh=true:=fun n x h=>by simp[aH] at h
theorem nQ{A:ab}{k:Nat}{c:I}(h1:A.o k=some (.box c))(h2:∀ p,c.only p=true):∀ n x,aH [(k,.box c)] n=some x→A.o n=some x∧x.only (aC [(k,.box c)])=true∧x.eh=true:=fun n x h=>by
 simp only[aH] at h;split at h
 ·rename_i hn;subst hn;simp only[v6] at h;subst h;exact ⟨h1,h2 _,rfl⟩
 ·cases h
theorem dG.nil{aB:Bool}{ρ:List (Nat×Nat)}{os0:List (Nat×ai)}{r:I}(h1:∀ p,r.only p=true)(h2:aB=true→r.cV=true):dG aB ρ [] os0 r [] :=
 ⟨fun m x h=>by simp[aH] at h,fun m m' h=>by simp[aC,aH] at h,fun m h=>by simp[aC,aH] at h,fun m h=>by simp[aC,aH] at h,h1 _,h2⟩
theorem gC{k:Nat}{x:ai}{m:Nat} : aC [(k,x)] m=true↔m=k:=by
 simp only[aC,aH];split <;>simp_all
theorem dG.vu{aB:Bool}{k d:Nat}{os0:List (Nat×ai)}{r c:I}(h1:∀ p,c.only p=true)(h2:aB=true→c.cV=true)(h3:r.only (aC [(k,.box c)])=true)(h4:aB=true→r.cV=true)(h5:aH os0 d=none)(h6:d<1000000):dG aB [(k,d)] [] os0 r [(k,.box c)]:=by
 refine ⟨fun m x h =>?_,fun m m' h h' _ =>?_,fun m h=>by simp[aC,aH] at h,fun m h _ =>?_,h3,h4⟩
 ·simp only[aH] at h;split at h
  ·simp only[v6] at h;subst h;exact ⟨h1 _,rfl,h2⟩
  ·cases h
 ·rw[gC.1 h,gC.1 h']
 ·rw[gC.1 h];simp[bo,h5,h6]
theorem eM.nil{ρ:List (Nat×Nat)}{os0:List (Nat×ai)} : eM ρ [] os0:=⟨fun m x h=>by simp[aH] at h,fun m m' h=>by simp[aC,aH] at h⟩
mutual
theorem p9(ρ:Nat→Nat):∀ x:I,x.bu=true→x.aR ρ=x
 | .agg fs,h=>by simp only[I.aR,I.bu] at *;rw[mO ρ fs h]
 | .slice _ es,h=>by simp only[I.aR,I.bu] at *;rw[mO ρ es h]
 | .ref x,h=>by simp only[I.aR,I.bu] at *;rw[p9 ρ x h]
 | .func _ caps,h=>by simp only[I.aR,I.bu] at *;rw[mO ρ caps h]
 | .iface _ v,h=>by simp only[I.aR,I.bu] at *;rw[p9 ρ v h]
 | .bool _,_ | .int _ _,_ | .aj _,_ | .nilp,_ | .c8,_ | .cN,_ | .any,_ | .raw _,_ | .nils _,_ | .c0 _,_=>by simp only[I.aR]
 | .cW ks vs,h=>by simp only[I.aR,I.bu,Z0] at *;rw[mO ρ ks h.1,mO ρ vs h.2]
 | .ptr _ _,h | .own _ _,h | .view _ _ _ _ _,h | .mref _,h | .cR _,h | .undef,h | .cU,h | .tuple _,h=>by simp[I.bu] at h
theorem mO(ρ:Nat→Nat):∀ xs:List I,I.cj xs=true→I.cT ρ xs=xs
 | [],_=>rfl
 |x::xs,h=>by
  simp only[I.cj,Z0] at h;simp only[I.cT,p9 ρ x h.1,mO ρ xs h.2]
end
theorem oi :
  (∀ (k:IntKind) n (ρ:Nat→Nat),(I.int k n).aR ρ=.int k n)∧(∀ (b:Bool) (ρ:Nat→Nat),(I.bool b).aR ρ=.bool b)∧(∀ n p (ρ:Nat→Nat),(I.ptr n p).aR ρ=.ptr (ρ n) p) ∧
  (∀ n p sz lo k (ρ:Nat→Nat),(I.view n p sz lo k).aR ρ=.view (ρ n) p sz lo k)∧(∀ fs (ρ:Nat→Nat),(I.agg fs).aR ρ=.agg (I.cT ρ fs))∧(∀ fs (ρ:Nat→Nat),(I.tuple fs).aR ρ=.tuple (I.cT ρ fs))∧(∀ f fs (ρ:Nat→Nat),(I.func f fs).aR ρ=.func f (I.cT ρ fs)) ∧
  (∀ ρ:Nat→Nat,I.cT ρ []=[])∧(∀ (ρ:Nat→Nat) x xs,I.cT ρ (x::xs)=x.aR ρ::I.cT ρ xs)∧(∀ (ρ:Nat→Nat) (x:I),(ai.box x).aR ρ=.box (x.aR ρ)) ∧
  (∀ (z:Nat) (ρ:Nat→Nat),(I.nils z).aR ρ=.nils z)∧(∀ (z:Nat) (ρ:Nat→Nat),(I.c0 z).aR ρ=.c0 z) ∧
  (∀ n,bo [] n=n)∧(∀ a b r n,bo ((a,b)::r) n=if n=a then b else bo r n)∧(∀ ρ,cY ρ []=[])∧(∀ ρ k x os,cY ρ ((k,x)::os)=(bo ρ k,x.aR (bo ρ))::cY ρ os) :=
 ⟨fun _ _ _=>by simp only[I.aR],fun _ _=>by simp only[I.aR],fun _ _ _=>by simp only[I.aR],fun _ _ _ _ _ _=>by simp only[I.aR],fun _ _=>by simp only[I.aR],fun _ _=>by simp only[I.aR],fun _ _ _=>by simp only[I.aR],
  fun _=>rfl,fun _ _ _=>by simp only[I.cT],fun _ _=>rfl,fun _ _=>by simp only[I.aR],fun _ _=>by simp only[I.aR],fun _=>rfl,fun _ _ _ _=>rfl,fun _=>rfl,fun _ _ _ _=>rfl⟩
section
variable {α:Type} [Enc α]
theorem iG(ρ:Nat→Nat)(x:α):(enc x).aR ρ=enc x:=p9 ρ _ (jU x)
theorem mP(ρ:Nat→Nat)(l:List α):I.cT ρ (l.map enc)=l.map enc:=mO ρ _ (pb l)
theorem ki(A:ab)(esz:Nat)(l:List α)(hs:Enc.sz α=esz):cO A esz (enc l)=some (l.map enc):=by
 simp only[gy,cO,hs,if_true]
theorem td(l:List α):iN (enc l)=l.isEmpty:=by
 simp only[gy,iN];cases l <;>rfl
theorem Bj(neg:Bool)(l:List α)(h:l≠[]):n5 neg (enc l)=some (.bool neg):=by
 simp only[gy,n5];cases l with
 |nil=>exact absurd rfl h
 |cons=>rfl
section
variable {P:Program} {Y:Value→List I→List (Nat×ai)→b6→Prop} {K:ab→Prop} {A:ab} {rest:List ar} {d:Nat} {e esz bytes:Nat} {q:Nat}
theorem aX.tG(z:α){l:List α}(hs:Enc.sz α=esz)(hl:l≠[])(hf:A.o d=none)(hb:l.length*bytes≤140737488355328)(hml:l.length≤maxLen)
  (h:∀ m,aX P Y false K (al rest ((A.aO d (.box (.agg ((l++List.replicate m z).map enc)))).aM (some d) (.view d [] esz 0 l.length)))):aX P Y false K (eO A (some d) e esz bytes (enc z) (enc l) rest (.c0 q)):=by
 have hne:l.map (enc (α:=α))≠[]:=by simpa using hl
 have h1:cO A esz (.c0 q)=some []:=rfl;simp only[eO,h1,ki A esz l hs,eb,if_neg hne,eN,hf,zy1,Z9,Z2,if_pos (y6 hb hml),zz2];refine .any rfl fun m _ =>?_;have:=h m;simp only[zz8,List.map_replicate] at this;exact this
theorem FP(z:I)(hs:Enc.sz α=esz):eO A (some d) e esz bytes z (enc ([]:List α)) rest (.c0 q)=al rest (A.aM (some d) (.c0 q)):=by
 have h1:cO A esz (.c0 q)=some []:=rfl;simp only[eO,h1,ki A esz ([]:List α) hs,eb,zz0,if_true]
theorem Vq(esz:Nat)(z:I)(x:au)(rest:List ar)(A:ab):bm A none (.iV esz z x) rest=nC A esz z (al rest) (af A x):=rfl
theorem DS{n:Nat}{p:List Nat}{sz k total i:Nat}(h:i≤total)(h0:0<total):iw n p sz 0 k total none (some (.int .i64 i)) none=some (.view n p sz 0 i):=by
 simp only[iw,gf];rw[if_pos ⟨by omega,by omega,by omega⟩,if_neg (by omega)];simp
theorem lR{n:Nat}{p:List Nat}{sz k total i:Nat}(h:i≤k)(hk:k≤total)(h0:i<total):iw n p sz 0 k total (some (.int .i64 i)) none none=some (.view n p sz i (k-i)):=by
 simp only[iw,gf];rw[if_pos ⟨by omega,by omega,by omega⟩,if_neg (by omega)];simp
theorem Ug{m:Nat}{p:List Nat}{sz lo l j:Nat}{fs:List I}(h:j<l):ml m p sz lo l sz (j:Int) (some fs)=some (.ptr m (p++[lo+j])):=by
 simp only[ml,true_and];rw[if_pos ⟨by omega,by omega⟩];simp
theorem ru{sz k:Nat}{xs:List α}(hs:Enc.sz α=sz):kL sz 0 k (some (xs.map enc))=some (enc (xs.take k)):=by
 have h:((xs.map (enc (α:=α))).drop 0).take k=(xs.take k).map enc:=by rw[List.drop_zero,List.map_take]
 simp only[kL,h];rw[if_pos (pb _),gy,hs]
end
end
theorem pB(A:ab)(esz m:Nat)(p:List Nat)(sz lo l:Nat)(k:Int):iI A esz k (.view m p sz lo l)=ml m p sz lo l esz k (dX (dx p (A.o m))):=rfl
theorem mu(A:ab)(m:Nat)(p:List Nat)(sz lo l:Nat):jx A (.view m p sz lo l)=some (.int .i64 l):=rfl
theorem wq(A:ab)(esz:Nat)(lo hi mx:Option I)(n:Nat)(p:List Nat)(l0 k:Nat):hG A esz lo hi mx (.view n p esz l0 k)=lj n p esz l0 k esz lo hi mx (dX (dx p (A.o n))):=rfl
theorem wu(n:Nat)(p:List Nat)(sz l0 k:Nat)(lo hi mx:Option I)(fs:List I):lj n p sz l0 k sz lo hi mx (some fs)=iw n p sz l0 k fs.length lo hi mx:=by simp[lj]
theorem hZ :
  (∀ A esz m p sz lo l k,iI A esz k (.view m p sz lo l)=ml m p sz lo l esz k (dX (dx p (A.o m))))∧(∀ A m p sz lo l,jx A (.view m p sz lo l)=some (.int .i64 l)) ∧
  (∀ A esz lo hi mx n p l0 k,hG A esz lo hi mx (.view n p esz l0 k)=lj n p esz l0 k esz lo hi mx (dX (dx p (A.o n))))∧(∀ n p sz l0 k lo hi mx fs,lj n p sz l0 k sz lo hi mx (some fs)=iw n p sz l0 k fs.length lo hi mx) ∧
  (∀ esz z x rest A,bm A none (.iV esz z x) rest=nC A esz z (al rest) (af A x))∧(∀ rest A d esz,bm A d (.bs0 esz) rest=al rest (A.aM d (.c0 esz))) :=
 ⟨pB,mu,wq,wu,Vq,fun _ _ _ _=>rfl⟩
theorem jG(rs:List bt)(post:b6)(A:ab):mQ rs post .ret A=iB rs post A:=rfl
theorem WZ(rs:List bt)(post:b6)(A:ab):mQ rs post .normal A=iB rs post A:=rfl
theorem bx.js{ts:List (Nat×I)}{os0:List (Nat×ai)}(ns:List Nat)(d:Nat){x y:I}(hd:b9 ts d=x)(h:aZ true (aw ts (j0 ns os0)) x=some y)(ho:bP (fun n => !ns.contains n) (dR ns os0)) :
  bx (aw ts os0) (aw ((d,y)::iX ns ts) (dR ns os0)):=by
 rintro c a w ⟨D,E,hs⟩;obtain ⟨D1,E1,hs1,hw⟩:=hs.freeze ns ho;have hu:dw (aw ts (j0 ns os0)) (aw ts os0):=fun n z hz=>by
  simp only[aw,pM] at hz ⊢;split at hz
  ·exact hz
  ·cases hz
 have hx:x.cv=true:=by cases x <;>first | rfl | simp[aZ] at h
 have hv:=hs.dB d;simp only[aw] at hv;rw[hd] at hv;have h1:ao w D E [x] [a.tmps.getD d undef]:=kg [x] _ (.cons hv .nil) (by intro z hz;simp only[zy2] at hz;subst hz;exact hx);have h2:=kM (E':=E1) hs hu hw [x] [y] _ h1 (by simp only[bC,h]);have h3:aP w D1 E1 y (a.tmps.getD d undef):=by
  simp only[ao] at h2;obtain ⟨v',rest,cs,e,k1,k2,_⟩:=h2;simp only[Y9] at e;obtain ⟨e1,_⟩:=e;rw[e1];exact fp k1 k2
 refine ⟨D1,E1,hs1.sz,hs1.ec,fun t =>?_,hs1.df,hs1.cI,hs1.cL,hs1.bz,hs1.cz,hs1.dy,hs1.eF,hs1.cw,hs1.eI,hs1.fb⟩;simp only[aw,b9];split
 ·rename_i ht;subst ht;exact h3
 ·exact hs1.dB t
theorem bx.rz{ts ts':List (Nat×I)}{os0 os':List (Nat×ai)}(ns:List Nat)(d:Nat){x y:I}(hd:b9 ts d=x)(h:aZ true (aw ts (j0 ns os0)) x=some y)(ho:bP (fun n => !ns.contains n) (dR ns os0))
  (h1:cg ((d,y)::iX ns ts) ts') (h2:cq (dR ns os0) os') (h3:cn (aC os') ts') (h4:bP (aC os') os'):bx (aw ts os0) (aw ts' os') :=
 (bx.js ns d hd h ho).trans (bx.cJ h1 h2 h3 h4)
theorem WA{w:World}{D:aD}{E:aN}{p:List Nat}{c x y:I}{cs:List Value}(hr:ae w D E c cs)(h:c.at p=some x)(hxy:∀ ds,ae w D E x ds→ae w D E y ds)(hs:y.aK=x.aK):ae w D E (c.dz p y) cs∧(c.dz p y).aK=c.aK:=by
 obtain ⟨off,c1,c2,c3,h1,rfl,h2,h3⟩:=vO p c x cs hr h;obtain ⟨off',k1,k2,k3,k4⟩:=sI p c x y _ c2 hr h (hxy c2 h3) hs;rw[h1,v6] at k1;subst k1;refine ⟨?_,k4⟩;have e:(c1++c2++c3).take off++c2++(c1++c2++c3).drop (off+c2.length)=c1++c2++c3:=by
  rw[Z3 c1 c2 c3,←h2,zy7,List.drop_length_add_append,List.drop_left,Z3]
 rw[←e];exact k3
theorem bx.Fx{A:ab}{m n T sz z:Nat}{p:List Nat}{b:I}(hm:A.o m=some (.box b))(hp:b.at p=some (.nils z))(hn:A.o n=none)(hlt:n<1000000):bx A ((A.aO n (.bE T sz [])).aO m (.box (b.dz p (.own n 0)))):=by
 rintro c a w ⟨D,E,h⟩;have aq:E n=none:=by have:=h.bz n;rw[hn] at this;exact this
 have hmn:m≠n:=fun e=>by rw[e,hn] at hm;cases hm
 have hl:dh w D E w D (fun m=>if m=n then some (.rw none 0) else E m):=by
  have ew:∀ {m:Nat} {e:br},E m=some e→(if m=n then some (.rw none 0) else E m)=some e:=fun {m e} he=>by
   have:m≠n:=fun e=>by rw[e,aq] at he;cases he
   rw[if_neg this];exact he
  refine ⟨fun _ _ h=>h,fun _ _ _ _ h=>h,fun m b aK he=>ew he,fun m aA l he =>?_,fun m b he=>ew he,fun m b he=>ew he,fun _ _ _ _ h=>h⟩
  ·have:m≠n:=fun e=>by rw[e,aq] at he;cases he
   exact ⟨aA,l,by simp only[if_neg this];exact he,Z5 _,fun _=>rfl⟩
 refine ⟨D,fun m=>if m=n then some (.rw none 0) else E m,h.sz,h.ec,fun t=>aP.later hl (h.dB t),h.df,h.cI,h.cL,fun k =>?_,fun m m' e e' b h1 h2 h3 h4 =>?_,fun m e hm =>?_,h.eF,h.cw,h.eI,h.fb⟩
 ·simp only[ab.aO];by_cases hk:k=m
  ·subst hk;have ho:=h.bz k;rw[hm] at ho;obtain ⟨b',cs,T',h1,h2,h3,h4,h5⟩:=ho;obtain ⟨q1,q2⟩:=WA (y:=.own n 0) (ae.later hl _ _ h4) hp (fun ds hd=>by
    simp only[ae] at hd;subst hd;simp only[ae,if_true];exact ⟨none,0,rfl,Z5 _,⟨_,_,_,rfl⟩,fun _=>trivial⟩) rfl
   simp only[if_true,cX];exact ⟨b',cs,T',by rw[q2];simp only[if_neg hmn];exact h1,h2,h3.aK q2,q1,h5⟩
  ·simp only[if_neg hk];by_cases hkn:k=n
   ·subst hkn;simp only[if_true,cX];exact ⟨none,by simp,by simp,trivial⟩
   ·simp only[if_neg hkn];exact (h.bz k).later hl (by simp only[if_neg hkn]) fun _ _ _ _=>⟨rfl,fun _ ho=>ho⟩
 ·by_cases hm:m=n <;>by_cases hm':m'=n
  ·rw[hm,hm']
  ·simp only[if_pos hm,v6] at h1;subst h1;simp[br.aA] at h3
  ·simp only[if_pos hm',v6] at h2;subst h2;simp[br.aA] at h4
  ·simp only[if_neg hm] at h1;simp only[if_neg hm'] at h2;exact h.cz m m' e e' b h1 h2 h3 h4
 ·have hmn:m≠n:=fun e=>by rw[e,h.iY (.inr hlt)] at hm;cases hm
  simp only[if_neg hmn];exact h.dy m e hm
theorem bx.Fy{ts:List (Nat×I)}{os:List (Nat×ai)}(m n T sz z:Nat)(p:List Nat)(b:I)(hm:aH os m=some (.box b))(hp:b.at p=some (.nils z))(hn:aH os n=none){B:ab}(h:bx (aw ts ((m,.box (b.dz p (.own n 0)))::(n,.bE T sz [])::os)) B)(hlt:n<1000000:=by decide):bx (aw ts os) B :=
 ((bx.Fx (A:=aw ts os) (T:=T) (sz:=sz) hm hp hn hlt).trans (by rw[r9,r9];exact bx.refl _)).trans h
mutual
theorem je{p q:Nat→Bool}(h:∀ n,p n=true→q n=true):∀ x:I,x.only p=true→x.only q=true
 | .agg fs,hx | .tuple fs,hx=>by simp only[I.only] at *;exact jD h fs hx
 | .slice _ es,hx=>by simp only[I.only] at *;exact jD h es hx
 | .ref x,hx=>by simp only[I.only] at *;exact je h x hx
 | .func _ caps,hx=>by simp only[I.only] at *;exact jD h caps hx
 | .iface _ v,hx=>by simp only[I.only] at *;exact je h v hx
 | .ptr _ _,hx | .own _ _,hx | .view _ _ _ _ _,hx | .mref _,hx | .cR _,hx=>by simp only[I.only] at *;exact h _ hx
 | .cW ks vs,hx=>by simp only[I.only,Z0] at *;exact ⟨jD h ks hx.1,jD h vs hx.2⟩
 | .bool _,_ | .int _ _,_ | .aj _,_ | .nilp,_ | .c8,_ | .cN,_ | .any,_ | .raw _,_ | .nils _,_ | .c0 _,_ | .undef,_ | .cU,_=>by simp[I.only]
theorem jD{p q:Nat→Bool}(h:∀ n,p n=true→q n=true):∀ xs:List I,I.cH p xs=true→I.cH q xs=true
 | [],_=>rfl
 |x::xs,hx=>by
  simp only[I.cH,Z0] at *;exact ⟨je h x hx.1,jD h xs hx.2⟩
end
theorem ai.je{p q:Nat→Bool}(h:∀ n,p n=true→q n=true)(x:ai)(hx:x.only p=true):x.only q=true:=by
 cases x with
 |box y=>simp only[ai.only] at *;exact Abs.je h y hx
 |bE T sz es=>simp only[ai.only] at *;exact jD h es hx
 |db o=>rfl
 |dL T xs=>rfl
 |b7 ks vs=>simp only[ai.only,Z0] at *;exact ⟨jD h ks hx.1,jD h vs hx.2⟩
 |it ks vs left cur=>simp only[ai.only,Z0] at *;exact ⟨jD h ks hx.1,jD h vs hx.2⟩
theorem Uh{x:I}(h:x.bu=true):x.cv=true:=by
 cases x <;>first | rfl | simp[I.bu] at h
theorem xr{aB:Bool}{A0:ab}{ρ:List (Nat×Nat)}{os:List (Nat×ai)} : ∀ xs:List I,I.cj xs=true→fN aB A0 ρ os xs xs
 | [],_=>trivial
 |x::xs,h=>by
  simp only[I.cj,Z0] at h;exact ⟨.inl ⟨(p9 _ x h.1).symm,lL _ x h.1,Uh h.1⟩,xr xs h.2⟩
structure ff (os os':List (Nat×ai)):Prop where
 same:∀ m,aC os' m=aC os m
 ok:∀ m x,aH os' m=some x→x.only (aC os')=true∧x.eh=true
 lD:∀ m,aC os m=true→1000000≤m
def bM(o:Obj)(os:List (Nat×ai)):List (Nat×ai):=(1999999,.db o)::os
theorem jw(o:Obj)(os:List (Nat×ai))(m:Nat):aC (bM o os) m=(decide (m=1999999)||aC os m):=by
 simp only[bM,aC,aH];by_cases h:m=1999999 <;>simp[h]
theorem nY(o:Obj)(os:List (Nat×ai))(m:Nat):aH (bM o os) m=if m=1999999 then some (.db o) else aH os m:=rfl
theorem ff.bM{os os':List (Nat×ai)}(h:ff os os')(o o':Obj):ff (bM o os) (bM o' os'):=by
 refine ⟨fun m=>by rw[jw,jw,h.same],fun m x hx =>?_,fun m hm =>?_⟩
 ·rw[nY] at hx;split at hx
  ·cases hx;exact ⟨rfl,rfl⟩
  ·obtain ⟨h1,h2⟩:=h.ok m x hx;exact ⟨x.je (fun n hn=>by rw[jw,hn];simp) h1,h2⟩
 ·rw[jw] at hm;simp only[Bool.or_eq_true,decide_eq_true_eq] at hm;rcases hm with rfl | hm
  ·decide
  ·exact h.lD m hm
def sE:List Nat→List I→List (Nat×I)→List (Nat×I)
 |p::ps,v::vs,ts=>sE ps vs ((p,v)::ts)
 |_,_,ts=>ts
def lS(ρ:List (Nat×Nat))(p:Nat→Bool)(ts:List (Nat×I)):List (Nat×I)→Prop
 | []=>True
 |(k,v)::r=>b9 ts k=v.aR (bo ρ)∧v.only p=true∧lS ρ p ts r
theorem DU{ρ:List (Nat×Nat)}{p:Nat→Bool}{ts:List (Nat×I)} : ∀ {tsR:List (Nat×I)},lS ρ p ts tsR→∀ k,b9 tsR k=.cU∨(b9 ts k=(b9 tsR k).aR (bo ρ)∧(b9 tsR k).only p=true)
 | [],_,k=>.inl rfl
 |(j,v)::r,h,k=>by
  simp only[lS] at h;simp only[b9];split
  ·rename_i hk;subst hk;exact .inr ⟨h.1,h.2.1⟩
  ·exact DU h.2.2 k
section
variable {c:cm} {a:Act} {w:World} {D:aD} {E:aN}
theorem aL.wk{A:ab}(h:aL c A a w D E){n b:Nat}{o o':Obj}(hn:A.o n=some (.db o))(aq:E n=some (.op b))(ho:nS o'=true):aL c (A.aO n (.db o')) a (w.putObj b o') D E:=by
 have hob:=h.bz n;rw[hn] at hob;obtain ⟨b',k1,k2,k3,k4,k5⟩:=hob;rw[aq] at k1;cases k1;have hnc:o.isCells=false:=by cases o <;>first | rfl | cases k4
 have hlt:b<w.heap.size:=eG k3;have hl:dh w D E (w.putObj b o') D E:=⟨fun _ _ h=>h,fun b1 o1 v _ hv=>ua k3 hnc hv,fun _ _ _ h=>h,fun _ aA l h=>⟨aA,l,h,Z5 _,fun _=>rfl⟩,fun _ _ h=>h,fun _ _ h=>h,fun b1 es ck hd hm=>(World.putObj_heap_other (fun e1=>k5 0 (by rw[←e1];exact hd))).trans hm⟩
 refine ⟨h.sz,h.ec.mono fun B _ hB=>(World.putObj_heap_other (fun e=>by rw[e,k3] at hB;cases hB;cases k4)).trans hB,fun t=>aP.later hl (h.dB t),h.df.trans ⟨rfl,rfl,rfl,by simp,fun k hk=>World.putObj_heap_other (fun e=>hk (e▸k2))⟩,h.cI,
  fun b1 o1 hd=>by have:=h.cL b1 o1 hd;simpa using this,fun m =>?_,h.cz,h.dy,h.eF,h.cw,h.eI,h.jL hl⟩
 simp only[ab.aO];by_cases hm:m=n
 ·subst hm;simp only[if_true,cX];exact ⟨b,aq,k2,World.putObj_heap_same hlt,ho,k5⟩
 ·simp only[if_neg hm];exact (h.bz m).later hl rfl fun e b1 he hb=>⟨World.putObj_heap_other (fun e1=>hm (h.cz m n e _ b1 he aq hb (by rw[e1];rfl))),fun _ ho=>ho⟩
theorem aL.KS{A:ab}(h:aL c A a w D E){n b:Nat}(aq:E n=some (.op b)):aL c ⟨A.t,fun m=>if m=n then none else A.o m⟩ a w D (fun m=>if m=n then none else E m):=by
 have hne:∀ {m:Nat} {e:br},E m=some e→(∀ b,e≠.op b)→m≠n:=fun he h2 e'=>by
  subst e';rw[aq] at he;cases he;exact h2 _ rfl
 have hl:dh w D E w D (fun m=>if m=n then none else E m):=by
  refine ⟨fun _ _ h=>h,fun _ _ _ _ h=>h,fun m b aK he =>?_,fun m aA l he=>⟨aA,l,?_,Z5 _,fun _=>rfl⟩,fun m b he =>?_,fun m b he =>?_,fun _ _ _ _ h=>h⟩
  ·simp only[if_neg (hne he (fun b=>by simp))];exact he
  ·simp only[if_neg (hne he (fun b=>by simp))];exact he
  ·simp only[if_neg (hne he (fun b=>by simp))];exact he
  ·simp only[if_neg (hne he (fun b=>by simp))];exact he
 refine ⟨h.sz,h.ec,fun t=>aP.later hl (h.dB t),h.df,h.cI,h.cL,fun m =>?_,fun m m' e e' b h1 h2 h3 h4 =>?_,fun m e hm =>?_,h.eF,h.cw,h.eI,h.fb⟩
 ·by_cases hm:m=n
  ·simp only[hm,if_true,cX]
  ·simp only[if_neg hm];exact (h.bz m).later hl (by simp only[if_neg hm]) fun _ _ _ _=>⟨rfl,fun _ ho=>ho⟩
 ·split at h1
  ·cases h1
  ·split at h2
   ·cases h2
   ·exact h.cz m m' e e' b h1 h2 h3 h4
 ·by_cases hmn:m=n
  ·left;simp only[hmn,if_true]
  ·simp only[if_neg hmn];exact h.dy m e hm
theorem aL.enter{ts:List (Nat×I)}{os0:List (Nat×ai)}(h:aL c (aw ts os0) a w D E)(hbase:c.dC=none)(hfree:aH os0 999999=none)(hE0:c.cu 999999=none){o:Obj}(ho:nS o=true) :
  ∃ E1,aL c (aw ts ((999999,.db o)::os0)) { a with defers := { target:=.collected w.heap.size,args := #[] } :: a.defers } ((w.alloc (.deferred (some []))).alloc o) D E1∧E1 999999=some (.op (w.heap.size+1))∧∀ xs vs,ao w D E xs vs→ao ((w.alloc (.deferred (some []))).alloc o) D E1 xs vs:=by
 have hb:Below w.heap.size w ((w.alloc (.deferred (some []))).alloc o):=((Below.refl _ w).alloc (Z5 _) _).alloc (by simp) _;have h1:=h.grow (D':=D) hb (fun _ _ h=>h) (fun _ _ h _=>h) (fun b o' hd=>by have:=h.cL b o' hd;simp;omega);obtain ⟨W,hW⟩:∃ W,W=(w.alloc (.deferred (some []))).alloc o:=⟨_,rfl⟩
 have hL:W.heap[w.heap.size+1]?=some o:=by
  rw[hW];have:=World.alloc_heap_new (w.alloc (.deferred (some []))) o;rwa [World.size_alloc] at this
 have hK:W.heap[w.heap.size]?=some (.deferred (some [])):=by
  rw[hW];exact (Below.heap_alloc _ _ _ (by simp)).trans (World.alloc_heap_new w _)
 rw[←hW] at h1 hb ⊢;have hEn:E 999999=none:=by have:=h.bz 999999;simp only[aw,hfree] at this;exact this
 have hl:dh W D E W D (fun m=>if m=999999 then some (.op (w.heap.size+1)) else E m):=by
  refine ⟨fun _ _ h=>h,fun _ _ _ _ h=>h,fun m b aK he =>?_,fun m aA l he=>⟨aA,l,?_,Z5 _,fun _=>rfl⟩,fun m b he =>?_,fun m b he =>?_,fun _ _ _ _ h=>h⟩
  all_goals
   have:m≠999999:=fun e=>by rw[e,hEn] at he;cases he
   simp only[if_neg this];exact he
 have hsz:c.cP.heap.size≤w.heap.size:=h.df.size;have nb:∀ {m:Nat} {e:br} {b:Nat},E m=some e→e.aA=some b→b<w.heap.size:=fun he hb'=>h.eW he hb';refine ⟨fun m=>if m=999999 then some (.op (w.heap.size+1)) else E m,⟨h1.sz,?_,fun t=>aP.later hl (h1.dB t),h1.df,h1.cI,h1.cL,fun m =>?_,fun m m' e e' b g1 g2 g3 g4 =>?_,fun m e hm =>?_,h1.eF,h1.cw,h1.eI,h1.fb⟩,by simp,fun xs vs hx=>ao.later hl xs vs (ao.later (dh.grow hb fun _ _ h=>h) xs vs hx)⟩
 ·have hdf:=h1.ec;rw[hbase] at hdf ⊢;obtain ⟨Bs,k1,k2,k3⟩:=hdf;refine ⟨w.heap.size::Bs,by simp only[Z4];rw[←k1],List.nodup_cons.2 ⟨fun hin =>?_,k2⟩,fun B hB =>?_⟩
  ·have hdf':=h.ec;rw[hbase] at hdf';obtain ⟨Bs',j1,_,j3⟩:=hdf';have e1:Bs=Bs':=by
    have:Bs.map (fun B=>({ target:=.collected B,args := #[] } : Deferred))=Bs'.map (fun B => { target:=.collected B,args := #[] }):=by rw[←k1,←j1]
    exact (List.map_inj_right (fun x y hxy=>by simpa using hxy)).1 this
   rw[e1] at hin;have:=eG (j3 _ hin).2;omega
  ·rcases zy0.1 hB with rfl | hB
   ·exact ⟨hsz,hK⟩
   ·exact k3 B hB
 ·simp only[aw,aH];by_cases hm:m=999999
  ·subst hm;simp only[if_true,cX];exact ⟨_,rfl,.inl (by omega),hL,ho,fun o' hd=>by have:=h.cL _ o' hd;omega⟩
  ·simp only[if_neg hm];exact (h1.bz m).later hl (by simp only[if_neg hm]) fun _ _ _ _=>⟨rfl,fun _ ho=>ho⟩
 ·by_cases hm:m=999999 <;>by_cases hm':m'=999999
  ·rw[hm,hm']
  ·simp only[if_pos hm,v6] at g1;simp only[if_neg hm'] at g2;subst g1;simp only[br.aA,v6] at g3;have:=nb g2 g4;omega
  ·simp only[if_neg hm] at g1;simp only[if_pos hm',v6] at g2;subst g2;simp only[br.aA,v6] at g4;have:=nb g1 g3;omega
  ·simp only[if_neg hm] at g1;simp only[if_neg hm'] at g2;exact h.cz m m' e e' b g1 g2 g3 g4
 ·have hmn:m≠999999:=fun e=>by rw[e,hE0] at hm;cases hm
  simp only[if_neg hmn];exact h.dy m e hm
theorem cX.jc{M M':Nat→Prop}{n:Nat}{x:Option ai}(h:cX M w D E n x)(hM:∀ e b,E n=some e→e.aA=some b→M' b):cX M' w D E n x:=by
 unfold cX at *;split
 ·exact h
 ·obtain ⟨b,cs,T,h1,_,h3⟩:=h;exact ⟨b,cs,T,h1,hM _ b h1 rfl,h3⟩
 ·obtain ⟨aA,h1,h2,h3⟩:=h;refine ⟨aA,h1,h2,?_⟩;split
  ·exact h3
  ·obtain ⟨cs,pre,rest,_,h4⟩:=h3;exact ⟨cs,pre,rest,hM _ _ h1 rfl,h4⟩
 ·obtain ⟨b,h1,_,h3⟩:=h;exact ⟨b,h1,hM _ b h1 rfl,h3⟩
 ·obtain ⟨b,es,ck,h1,_,h3⟩:=h;exact ⟨b,es,ck,h1,hM _ b h1 rfl,h3⟩
 ·obtain ⟨r,b,es,ck,dK,se,la,h1,_,h3⟩:=h;exact ⟨r,b,es,ck,dK,se,la,h1,hM _ r h1 rfl,h3⟩
 ·obtain ⟨aA,h1,h2,h3⟩:=h;refine ⟨aA,h1,h2,?_⟩;split
  ·exact h3
  ·obtain ⟨cs,m,_,h4⟩:=h3;exact ⟨cs,m,hM _ _ h1 rfl,h4⟩
theorem aL.B1{os:List (Nat×ai)} : ∀ (ps:List Nat) (vs:List Value) (xs:List I) (ts:List (Nat×I)) (a:Act),aL c (aw ts os) a w D E→(∀ p∈ps,p<c.n)→ao w D E xs vs→ps.length=vs.length →
  aL c (aw (sE ps xs ts) os) { a with tmps:=(ps.zip vs).foldl (fun t q=>t.setIfInBounds q.1 q.2) a.tmps } w D E
 | [],[],xs,ts,a,h,_,hv,_=>by
  cases xs with
  |nil=>exact h
  |cons x xs=>simp[ao] at hv
 | [],_::_,_,_,_,_,_,_,hl=>by simp at hl
 |_::_,[],_,_,_,_,_,_,hl=>by simp at hl
 |p::ps,v::vs,xs,ts,a,h,hp,hv,hl=>by
  cases xs with
  |nil=>simp[ao] at hv
  |cons x xs =>
   simp only[ao] at hv;obtain ⟨v',rest,cs,e,h1,h2,h3⟩:=hv;simp only[Y9] at e;obtain ⟨rfl,rfl⟩:=e;have h4:=h.put (hp p (by simp)) (fp h1 h2);rw[vm] at h4;have:=aL.B1 ps vs xs ((p,x)::ts) (a.put (some p) v) h4 (fun q hq=>hp q (by simp[hq])) h3 (by simpa using hl);exact this
end
end Go.Abs
namespace Go.Abs
open Go Go.RowKit
def hJ:bq→Bool
 | .mv _ | .pick .. | .bin .. | .eqv .. | .conv .. | .un .. | .fl .. | .ix .. | .lenT _ | .bld .. | .ext .. | .mk .. | .nilC _ | .ptrE .. | .max2 .. | .prim .. =>true
 | .ld .. | .fa .. | .ia .. | .is .. | .len _ | .va .. | .bs .. | .sl .. | .cap _ | .bs0 _ | .lk .. | .b2s _=>true
 |_=>false
def sx:bq→Bool
 | .alloc _ | .box _ | .aV .. | .call .. | .eX .. | .dM .. | .ef _=>true
 |op=>hJ op
def nX(hs:List FuncId):bq→Bool
 | .alloc _ | .box _ | .ef _=>true
 | .call f _ => !hs.contains f
 |op=>hJ op
abbrev ea:=List (Nat×List Nat)
def gE(av:ea)(s:Nat):Option (List Nat):=(av.find? fun q=>q.1==s).map (·.2)
def dH(av:ea)(A:ab):Prop:=∀ s ns,gE av s=some ns→(A.t s).only (fun n=>ns.contains n)=true
def nU(av:ea):au→Option (List Nat)
 | .t s=>gE av s
 | .c x=>if x.bu then some [] else none
def qt(a:Option (List Nat))(ns:List Nat):Bool:=match a with
 |some ms=>ms.all fun m=>ns.contains m
 |none=>false
def gU(av:ea)(g:ar):Bool:=match g.dst with
 |none=>true
 |some d=>match gE av d with
  |none=>true
  |some ns=>match g.op with
   | .mv x | .nilC x | .fa _ _ x | .ia _ _ x _=>qt (nU av x) ns
   | .bin .. | .len _ | .bs .. | .bs0 _ | .conv .. | .lenT _ | .prim .. | .b2s _=>true
   | .box _ | .alloc _ | .ef _=>ns.contains d
   | .is _ x _ | .ld _ x=>qt (nU av x) []
   |_=>false
def lH:bq→Option (List Nat)
 | .ld _ (.t x) | .fa _ _ (.t x) | .ia _ _ (.t x) _ | .is _ (.t x) _ | .len (.t x) | .va _ _ (.t x) | .sl _ (.t x) _ _ _ | .cap (.t x) | .lk _ _ _ (.t x) _ | .b2s (.t x)=>some [x]
 | .bs _ _ ps=>if (ps.all fun x=>match x with | .t _=>true | .c _=>false)=true then some (iy ps) else none
 | .bs0 _=>some []
 |op=>if op.fF=0∧hJ op=true then some [] else none
def qQ(av:ea)(g:ar)(p:Nat→Bool):Bool:=match lH g.op with
 |some xs=>xs.all fun s=>match gE av s with | some ns=>ns.all p | none=>false
 |none=>false
def mJ(hs:List FuncId)(av:ea)(g h:ar):Bool:=nX hs h.op||match h.op with
 | .aV _ (.t y) _=>match lH g.op with
  |some []=>true
  |_=>match gE av y with
   |some ms=>qQ av g fun n => !ms.contains n
   |none=>false
 | .aV .. =>match lH g.op with
  |some []=>true
  |_=>false
 | .dM _ _ _ _ s _=>qQ av g (fun _=>false)||qt (nU av s) []
 |_=>false
def mj(hs:List FuncId)(av:ea)(g h:ar):Bool:=hJ g.op&&(mJ hs av g h&&((match g.dst with
  |some d => !h.ct.contains d&&h.dst != some d
  |none=>true)&&(match h.dst with
  |some d => !g.ct.contains d
  |none=>true)))
theorem uV{op:bq}(h:hJ op=true)(A:ab)(dst:Option Nat)(rest:List ar)(k:ab→bV):aU A dst op rest k=b8 (aT A op) fun v=>k (A.aM dst v):=by
 cases op <;>first | rfl | cases h
inductive bI (P:Program) (Y:Value→List I→List (Nat×ai)→b6→Prop) (hs:List FuncId) (K:ab→Prop):bV→Prop where
 |done {A:ab} : K A→bI P Y hs K (.done A)
 |flat {f:FuncId} {avs cargs:List I} {a2:Option (List I)} {dst:Option Nat} {rest:List ar} {A:ab} (r:I):aQ P f cargs r→r.flat=true→bI P Y hs K (al rest (A.aM dst r))→bI P Y hs K (.call f avs (some cargs) a2 dst rest A)
 |lead {f:FuncId} {avs cargs:List I} {a1:Option (List I)} {dst:Option Nat} {rest:List ar} {A:ab} (r:I):aQ P f cargs r→bI P Y hs K (al rest (A.aM dst r))→bI P Y hs K (.call f avs a1 (some cargs) dst rest A)
 |bz {f:FuncId} {avs:List I} {a1 a2:Option (List I)} {dst:Option Nat} {rest:List ar} {ts:List (Nat×I)} {os0:List (Nat×ai)} (ρ:List (Nat×Nat)) (cargs:List I) (post:b6):eL P f cargs [] post →
   eM ρ [] os0→fN false (aw ts os0) ρ [] avs cargs→(∀ r os',post r os'→dG false ρ [] os0 r os') →
   (∀ r os',post r os'→bI P Y hs K (al rest ((aw ts (cY ρ os'++os0)).aM dst (r.aR (bo ρ)))))→bI P Y hs K (.call f avs a1 a2 dst rest (aw ts os0))
 |any {p:Nat→Prop} {k:Nat→bV} : (∀ m,p m→bI P Y hs K (k m))→bI P Y hs K (.any p k)
 |vx {f:FuncId} {avs:List I} {a1 a2:Option (List I)} {dst:Option Nat} {rest:List ar} {ts:List (Nat×I)} {os0:List (Nat×ai)} (aB:Bool) (ρ:List (Nat×Nat)) (os:List (Nat×ai)) (cargs:List I) (post:b6):hs.contains f=true→eL P f cargs os post →
   eM ρ os os0→fN aB (aw ts (dR (im ρ os) os0)) ρ os avs cargs→(∀ r os',post r os'→dG aB ρ os os0 r os') →
   (∀ r os',post r os'→bI P Y hs K (al rest ((aw ts (cY ρ os'++os0)).aM dst (r.aR (bo ρ)))))→bI P Y hs K (.call f avs a1 a2 dst rest (aw ts os0))
 |X3 {v:Value} {avs:List I} {dst:Option Nat} {rest:List ar} {ts:List (Nat×I)} {os0:List (Nat×ai)} (os:List (Nat×ai)) (cargs:List I) (post:b6):Y v cargs os post →
   eM [] os os0→fN false (aw ts (dR (im [] os) os0)) [] os avs cargs→(∀ r os',post r os'→dG false [] os os0 r os') →
   (∀ r os',post r os'→bI P Y hs K (al rest ((aw ts (cY [] os'++os0)).aM dst (r.aR (bo [])))))→bI P Y hs K (.kH v avs dst rest (aw ts os0))
theorem KR(os:List (Nat×ai)):dR [] os=os:=by simp[dR]
section
variable {P:Program} {hs:List FuncId} {K:ab→Prop} {Y:Value→List I→List (Nat×ai)→b6→Prop}
theorem bI.qO{p:Nat→Prop}{k:Nat→bV}(h:bI P Y hs K (.any p k)):∀ m,p m→bI P Y hs K (k m):=by cases h;assumption
theorem dH.put{av:ea}{A B:ab}(h:dH av A)(ht:∀ k,B.t k=A.t k){dst:Option Nat}{v:I}(hv:∀ d,dst=some d→∀ ns,gE av d=some ns→v.only (fun n=>ns.contains n)=true):dH av (B.aM dst v):=by
 intro s ns hs';cases dst with
 |none=>exact (ht s).symm▸h s ns hs'
 |some d =>
  simp only[ab.aM,ab.put];by_cases hd:s=d
  ·rw[if_pos hd];exact hv d rfl ns (hd▸hs')
  ·rw[if_neg hd,ht];exact h s ns hs'
theorem nk{av:ea}{A:ab}(h:dH av A){x:au}{ns:List Nat}(hx:qt (nU av x) ns=true):(af A x).only (fun n=>ns.contains n)=true:=by
 cases x with
 |c x =>
  simp only[nU] at hx;split at hx
  ·rename_i hc;exact lL _ x hc
  ·cases hx
 |t s =>
  simp only[nU] at hx;cases hl:gE av s with
  |none=>rw[hl] at hx;cases hx
  |some ms =>
   rw[hl] at hx;simp only[qt,Y5] at hx;exact je (fun n hn=>hx n (by simpa using hn)) _ (h s ms hl)
theorem Gg{op:BinOp}{x y v:I}(p:Nat→Bool)(h:bF op x y=some v):v.only p=true:=by
 unfold bF at h
 (repeat' split at h) <;>first | (cases h;done) | (simp only[v6] at h;subst h;rfl)
theorem Wn{q:tw}{xs:List I}{v:I}(p:Nat→Bool)(h:ej q xs=some v):v.only p=true:=by
 unfold ej at h
 (repeat' split at h) <;>first | (cases h;done) | (rename_i hc;simp only[v6] at h;subst h;simp only[I.only];exact lL _ _ hc.1) | (simp only[v6] at h;subst h;rfl) | (simp only[t7] at h;obtain ⟨_,_,rfl⟩:=h;rfl)
theorem FZ{x:Option (List I)}{v:I}(p:Nat→Bool)(h:kC x=some v):v.only p=true:=by
 unfold kC at h;split at h
 ·simp only[t7] at h;obtain ⟨_,_,rfl⟩:=h;rfl
 ·cases h
theorem sA{p:Nat→Bool} : ∀ {xs:List I} {i:Nat} {x:I},I.cH p xs=true→xs[i]?=some x→x.only p=true
 | [],_,_,_,h=>by simp at h
 |a::xs,0,x,h,e=>by
  simp only[I.cH,Z0] at h;simp only[List.getElem?_cons_zero,v6] at e;exact e▸h.1
 |a::xs,i+1,x,h,e=>by
  simp only[I.cH,Z0] at h;exact sA (xs:=xs) h.2 (by simpa using e)
theorem Bx{av:ea}{A:ab}{g:ar}(h:dH av A)(hg:gU av g=true){v:I}(hv:aT A g.op=some v):∀ d,g.dst=some d→∀ ns,gE av d=some ns→v.only (fun n=>ns.contains n)=true:=by
 intro d hd ns hn;obtain ⟨dst,op,gd⟩:=g;simp only at hd hv;subst hd;simp only[gU,hn] at hg;cases op <;>simp only at hg <;>(try (cases hg;done)) <;>simp only[aT] at hv <;>(try (cases hv;done))
 case mv x=>simp only[v6] at hv;exact hv▸nk h hg
 case nilC x =>
  have:=nk h hg;generalize af A x=u at hv this;cases u <;>simp only[my] at hv <;>first | (cases hv;done) | (simp only[v6] at hv;exact hv▸this)
 case bin op x y=>exact Gg _ hv
 case conv k x=>split at hv <;>first | (cases hv;done) | (simp only[v6] at hv;subst hv;rfl)
 case prim p xs=>exact Wn _ hv
 case is esz x i =>
  have hx:=nk h hg;split at hv
  case h_2=>cases hv
  split at hv
  ·rename_i sz es he;rw[he] at hx;simp only[I.only] at hx;split at hv
   ·simp only[t7] at hv;obtain ⟨u,hu,rfl⟩:=hv;simp only[I.only];exact je (fun n hn=>by simp at hn) _ (sA hx hu)
   ·cases hv
  ·rename_i m l he;rw[he] at hx;simp[I.only] at hx
  ·rename_i m p sz lo l he;rw[he] at hx;simp[I.only] at hx
  ·cases hv
 case ld s x =>
  have hx:=nk h hg;split at hv
  case h_2=>cases hv
  rename_i u hu;split at hv
  case isFalse=>cases hv
  simp only[v6] at hv;subst hv;generalize af A x=z at hx hu;cases z <;>simp only[bO] at hu <;>try (cases hu;done)
  ·simp only[v6] at hu;subst hu;simp only[I.only] at hx;exact je (fun n hn=>by simp at hn) _ hx
  ·simp[I.only] at hx
 case b2s x=>exact FZ _ hv
 case lenT x=>split at hv <;>first | (cases hv;done) | (simp only[v6] at hv;subst hv;rfl)
 case len x=>(repeat' split at hv) <;>first | (cases hv;done) | (simp only[v6] at hv;subst hv;rfl)
 case bs0 e=>simp only[v6] at hv;subst hv;rfl
 case bs e ps =>
  split at hv
  ·split at hv
   ·rename_i hc;simp only[v6] at hv;subst hv;simp only[I.only];exact mG _ _ hc.2
   ·cases hv
  ·cases hv
 case fa f off x =>
  have hx:=nk h hg;split at hv
  ·rename_i fs he;rw[he] at hx;simp only[I.only] at hx;split at hv
   ·rename_i u hu;split at hv
    ·simp only[v6] at hv;subst hv;simp only[I.only];exact sA hx hu
    ·cases hv
   ·cases hv
  ·rename_i n q he;rw[he] at hx;simp only[I.only] at hx;split at hv
   ·split at hv
    ·simp only[v6] at hv;subst hv;simpa only[I.only] using hx
    ·cases hv
   ·cases hv
  ·cases hv
 case ia n esz x i =>
  have hx:=nk h hg;split at hv
  case h_2=>cases hv
  split at hv
  case isFalse=>cases hv
  split at hv
  ·rename_i fs he;rw[he] at hx;simp only[I.only] at hx;split at hv
   ·simp only[t7] at hv;obtain ⟨u,hu,rfl⟩:=hv;simp only[I.only];exact sA hx hu
   ·cases hv
  ·rename_i m q he;rw[he] at hx;simp only[I.only] at hx;split at hv
   ·split at hv
    ·simp only[v6] at hv;subst hv;simpa only[I.only] using hx
    ·cases hv
   ·cases hv
  ·cases hv
def qG(A:ab)(dst:Option Nat)(s:I)(B:ab):Prop:=(∀ t,dst≠some t→B.t t=A.t t)∧(s.only (fun _=>false)=true→dw A B)
def lX(A:ab)(dst:Option Nat)(s:I)(R:(ab→bV)→bV):Prop :=
 (∀ k,R k=.fail)∨(∃ B,(∀ k,R k=k B)∧qG A dst s B)∨∃ (p:Nat→Prop) (bh:Nat→ab),(∀ k,R k=.any p fun m=>k (bh m))∧∀ m,qG A dst s (bh m)
theorem pZ{A B:ab}{dst:Option Nat}{v:I}{t:Nat}(ht:∀ k,B.t k=A.t k)(h:dst≠some t):(B.aM dst v).t t=A.t t:=by
 cases dst with
 |none=>exact ht t
 |some d =>
  have:t≠d:=fun e=>h (by rw[e]);simp only[ab.aM,ab.put,if_neg this];exact ht t
theorem FH(A:ab)(dst:Option Nat)(esz bytes:Nat)(z s:I)(es ys:List I):lX A dst s (eN A dst esz bytes z es ys):=by
 cases dst with
 |none=>exact .inl fun _=>rfl
 |some d =>
  cases ho:A.o d with
  |some y=>exact .inl fun k=>by simp only[eN,ho]
  |none =>
   by_cases hc:(es.length+ys.length)*bytes≤140737488355328∧es.length+ys.length≤maxLen
   ·refine .inr (.inr ⟨_,fun m=>(A.aO d (.box (.agg (es++(ys++List.replicate m z))))).aM (some d) (.view d [] esz 0 (es.length+ys.length)),fun k=>by simp only[eN,ho];rw[if_pos hc],fun m=>⟨fun t ht=>pZ (A:=A) (B:=A.aO d _) (fun _=>rfl) ht,fun _ n y hy =>?_⟩⟩);have:n≠d:=fun e=>by rw[e,ho] at hy;cases hy
    rw[gp];simp only[ab.aO,if_neg this];exact hy
   ·exact .inl fun k=>by simp only[eN,ho];rw[if_neg hc]
theorem FL(A:ab)(dst:Option Nat)(esz bytes:Nat)(z s:I)(es ys:Option (List I)):lX A dst s (eb A dst esz bytes z s es ys):=by
 cases es with
 |none=>exact .inl fun _=>rfl
 |some es =>
  cases ys with
  |none=>exact .inl fun _=>rfl
  |some ys =>
   by_cases h0:ys=[]
   ·exact .inr (.inl ⟨A.aM dst s,fun k=>by simp only[eb,if_pos h0],fun t ht=>pZ (A:=A) (fun _=>rfl) ht,fun _ n y hy=>by rw[gp];exact hy⟩)
   ·have gg:=fun s'=>FH A dst esz bytes z s' es ys;cases s
    case nils=>simp only[lX,eb,if_neg h0];exact gg _
    case c0=>simp only[lX,eb,if_neg h0];exact gg _
    case view n p sz lo l =>
     cases ho:A.o n with
     |none=>exact .inl fun k=>by simp only[eb,if_neg h0,ho]
     |some y =>
      cases y with
      |box b =>
       cases hb:b.at p with
       |none=>exact .inl fun k=>by simp only[eb,if_neg h0,ho,hb]
       |some c =>
        cases c
        case agg fs =>
         by_cases h1:lo+l+ys.length≤fs.length
         ·by_cases h2:sz=esz∧I.cK ys=I.cK ((fs.drop (lo+l)).take ys.length)
          ·exact .inr (.inl ⟨(A.aO n (.box (gZ b p (lo+l) fs ys))).aM dst (.view n p esz lo (l+ys.length)),fun k=>by simp only[eb,if_neg h0,ho,hb,if_pos h1];rw[if_pos h2],fun t ht=>pZ (A:=A) (B:=A.aO n _) (fun _=>rfl) ht,fun h=>by simp[I.only] at h⟩)
          ·exact .inl fun k=>by simp only[eb,if_neg h0,ho,hb,if_pos h1];rw[if_neg h2]
         ·simp only[lX,eb,if_neg h0,ho,hb,if_neg h1];exact gg _
        all_goals exact .inl fun k=>by simp only[eb,if_neg h0,ho,hb]
      |_=>exact .inl fun k=>by simp only[eb,if_neg h0,ho]
    all_goals exact .inl fun k=>by simp only[eb,if_neg h0]
theorem xq(A:ab)(dst:Option Nat)(e esz bytes:Nat)(z:I)(s x:au)(rest:List ar):lX A dst (af A s) (aU A dst (.dM e esz bytes z s x) rest):=by
 generalize hs:af A s=gM;cases gM
 case own n l =>
  cases hx:af A x
  case slice sz ys =>
   cases ho:A.o n with
   |none=>exact .inl fun k=>by simp only[aU,hs,hx,ho]
   |some y =>
    cases y with
    |bE T sz' es =>
     by_cases hc:vA e esz bytes l sz ys T sz' es
     ·exact .inr (.inl ⟨(A.aO n (.bE e esz (es++ys))).aM dst (.own n (es.length+ys.length)),fun k=>by simp only[aU,hs,hx,ho];rw[if_pos hc],fun t ht=>pZ (A:=A) (B:=A.aO n _) (fun _=>rfl) ht,fun h=>by simp[I.only] at h⟩)
     ·exact .inl fun k=>by simp only[aU,hs,hx,ho];rw[if_neg hc]
    |dL T xs =>
     by_cases hc:vB e esz bytes l ys T xs z
     ·exact .inr (.inl ⟨(A.aO n (.dL e (xs++pz ys))).aM dst (.own n (xs.length+ys.length)),fun k=>by simp only[aU,hs,hx,ho];rw[if_pos hc],fun t ht=>pZ (A:=A) (B:=A.aO n _) (fun _=>rfl) ht,fun h=>by simp[I.only] at h⟩)
     ·exact .inl fun k=>by simp only[aU,hs,hx,ho];rw[if_neg hc]
    |_=>exact .inl fun k=>by simp only[aU,hs,hx,ho]
  all_goals exact .inl fun k=>by simp only[aU,hs,hx]
 all_goals (simp only[lX,aU,hs];exact FL ..)
theorem vM{A:ab}{d:Nat}{v:I}{n:Nat}{y:ai}{dst:Option Nat}{u:I}(h:dst≠some d):((A.put d v).aO n y).aM dst u=((A.aO n y).aM dst u).put d v:=by
 cases dst with
 |none=>rfl
 |some e =>
  have:e≠d:=fun he=>h (by rw[he]);simp only[ab.aM,ab.put,ab.aO,ab.mk.injEq,and_true]
  funext k
  by_cases h1:k=e <;>by_cases h2:k=d <;>simp_all
theorem Wy{A:ab}{d:Nat}{v:I}{dst:Option Nat}{u:I}(h:dst≠some d):(A.put d v).aM dst u=(A.aM dst u).put d v:=by
 cases dst with
 |none=>rfl
 |some e =>
  have:e≠d:=fun he=>h (by rw[he]);simp only[ab.aM,ab.put,ab.mk.injEq,and_true]
  funext k
  by_cases h1:k=e <;>by_cases h2:k=d <;>simp_all
theorem FI{A:ab}{d:Nat}{v:I}{dst:Option Nat}(h:dst≠some d)(esz bytes:Nat)(z:I)(es ys:List I)(k:ab→bV):eN (A.put d v) dst esz bytes z es ys k=eN A dst esz bytes z es ys fun B=>k (B.put d v):=by
 cases dst with
 |none=>rfl
 |some e =>
  simp only[eN];have:(A.put d v).o=A.o:=rfl;rw[this];cases A.o e with
  |some _=>rfl
  |none =>
   simp only;split
   ·simp only[vM h]
   ·rfl
theorem FM{A:ab}{d:Nat}{v:I}{dst:Option Nat}(h:dst≠some d)(esz bytes:Nat)(z s:I)(es ys:Option (List I))(k:ab→bV):eb (A.put d v) dst esz bytes z s es ys k=eb A dst esz bytes z s es ys fun B=>k (B.put d v):=by
 have ho:(A.put d v).o=A.o:=rfl;cases es with
 |none=>rfl
 |some es =>
  cases ys with
  |none=>rfl
  |some ys =>
   simp only[eb];split
   ·rw[Wy h]
   ·cases s <;>simp only[FI h,ho]
    rename_i n p sz lo l;cases A.o n with
    |none=>rfl
    |some y =>
     cases y with
     |box b =>
      simp only;cases b.at p with
      |none=>rfl
      |some c =>
       cases c <;>simp only[vM h]
     |_=>rfl
theorem FQ{A:ab}{d:Nat}{v:I}{dst:Option Nat}(h:dst≠some d){e esz bytes:Nat}{z:I}{s x:au}(hag:dv A (A.put d v) (s.sl++x.sl))(rest rest':List ar)(k:ab→bV) :
  aU (A.put d v) dst (.dM e esz bytes z s x) rest k=aU A dst (.dM e esz bytes z s x) rest' fun B=>k (B.put d v):=by
 have ho:(A.put d v).o=A.o:=rfl;have hsrc:∀ y,cO (A.put d v) esz y=cO A esz y:=fun y=>by cases y <;>rfl
 simp only[aU,cB hag.l,cB hag.r,hsrc];cases af A s <;>simp only[FM h]
 rename_i n l;cases af A x <;>simp only[ho]
 cases A.o n with
 |none=>rfl
 |some y=>cases y <;>simp only[vM h]
theorem bI.yS{av:ea}{f:FuncId}{avs:List I}{a1 a2:Option (List I)}{dst:Option Nat}{rest:List ar}{A:ab}(hi:dH av A)(hd:∀ d,dst=some d→gE av d=none)(h:bI P Y hs K (.call f avs a1 a2 dst rest A)) :
  aX P Y false (fun B=>bI P Y hs K (al rest B)∧dH av B) (.call f avs a1 a2 dst [] A):=by
 have no:∀ {v:I},∀ d,dst=some d→∀ ns,gE av d=some ns→v.only (fun n=>ns.contains n)=true:=fun d e ns hn=>by rw[hd d e] at hn;cases hn
 cases h with
 |flat r hc hf hw=>exact .flat r hc hf (.done ⟨hw,hi.put (fun _=>rfl) no⟩)
 |lead r hc hw=>exact .lead r hc (.done ⟨hw,hi.put (fun _=>rfl) no⟩)
 |bz ρ cargs post hc hg ha hb hw=>exact .bz false ρ [] cargs post rfl hc hg (by simp only[im,zz0,KR];exact ha) hb fun r os' hp=>.done ⟨hw r os' hp,hi.put (B:=aw _ (cY ρ os'++_)) (fun _=>rfl) no⟩
 |vx aB ρ os cargs post _ hc hg ha hb hw=>exact .bz aB ρ os cargs post rfl hc hg ha hb fun r os' hp=>.done ⟨hw r os' hp,hi.put (B:=aw _ (cY ρ os'++_)) (fun _=>rfl) no⟩
theorem bI.HD{av:ea}{v:Value}{avs:List I}{dst:Option Nat}{rest:List ar}{A:ab}(hi:dH av A)(hd:∀ d,dst=some d→gE av d=none)(h:bI P Y hs K (.kH v avs dst rest A)) :
  aX P Y false (fun B=>bI P Y hs K (al rest B)∧dH av B) (.kH v avs dst [] A):=by
 have no:∀ {v:I},∀ d,dst=some d→∀ ns,gE av d=some ns→v.only (fun n=>ns.contains n)=true:=fun d e ns hn=>by rw[hd d e] at hn;cases hn
 cases h with
 |X3 os cargs post hc hg ha hb hw=>exact .th os cargs post rfl hc hg ha hb fun r os' hp=>.done ⟨hw r os' hp,hi.put (B:=aw _ (cY [] os'++_)) (fun _=>rfl) no⟩
theorem bI.one{av:ea}{A:ab}{g:ar}{rest:List ar}(hi:dH av A)(ho:sx g.op=true)(hL:gU av g=true)(h:bI P Y hs K (aU A g.dst g.op rest (al rest))):aX P Y false (fun B=>bI P Y hs K (al rest B)∧dH av B) (aU A g.dst g.op [] (al [])):=by
 have hval:=fun v (hv:aT A g.op=some v)=>Bx hi hL hv;obtain ⟨dst,op,gd⟩:=g;simp only at ho h hval ⊢;have pure:hJ op=true→aX P Y false (fun B=>bI P Y hs K (al rest B)∧dH av B) (aU A dst op [] (al [])):=by
  intro hsm;rw[uV hsm] at h ⊢;cases hv:aT A op with
  |none=>rw[hv] at h;cases h
  |some v=>rw[hv] at h;exact .done ⟨h,hi.put (fun _=>rfl) (hval v hv)⟩
 have unl:(∀ ns d,dst=some d→gE av d=some ns→gU av ⟨dst,op,gd⟩=false)→∀ d,dst=some d→gE av d=none:=fun h1 d hd=>by
  cases hn:gE av d with
  |none=>rfl
  |some ns=>rw[h1 ns d hd hn] at hL;cases hL
 cases op with
 |alloc z =>
  cases dst with
  |none=>simp only[aU] at h;cases h
  |some d =>
   simp only[aU] at h ⊢;split at h
   case h_2=>cases h
   refine .done ⟨h,hi.put (B:=A.aO d _) (dst:=some d) (fun _=>rfl) fun d' e ns hn =>?_⟩;simp only[v6] at e;subst e;simpa only[gU,hn,I.only] using hL
 |box x =>
  cases dst with
  |none=>simp only[aU] at h;cases h
  |some d =>
   simp only[aU] at h ⊢;split at h
   case h_2=>cases h
   split at h
   case isFalse=>cases h
   rename_i hv;rw[if_pos hv];refine .done ⟨h,hi.put (B:=A.aO d _) (dst:=some d) (fun _=>rfl) fun d' e ns hn =>?_⟩;simp only[v6] at e;subst e;simpa only[gU,hn,I.only] using hL
 |aV s x v =>
  cases dst with
  |some d=>simp only[aU] at h;cases h
  |none =>
   simp only[aU] at h ⊢;split at h
   case h_2=>cases h
   rename_i n p hx;split at h
   case h_2=>cases h
   rename_i b hb;split at h
   case h_2=>cases h
   rename_i old hold;split at h
   case isFalse=>cases h
   rename_i hok;simp only[if_pos hok];exact .done ⟨h,fun s ns hn=>hi s ns hn⟩
 |ef x =>
  simp only[aU] at h ⊢;cases hse:kZ (af A x) with
  |none=>rw[hse] at h;simp only[gY] at h;cases h
  |some ys =>
   rw[hse] at h;cases dst with
   |none=>simp only[gY] at h;cases h
   |some d =>
    simp only[gY] at h ⊢;split at h
    case h_2=>cases h
    rename_i ho;refine .any rfl fun m hm=>.done ⟨h.qO m hm,hi.put (B:=A.aO d _) (dst:=some d) (fun _=>rfl) fun d' e ns hn =>?_⟩;simp only[v6] at e;subst e;simpa only[gU,hn,I.only] using hL
 |call f args=>exact bI.yS hi (unl fun ns d e hn=>by subst e;simp only[gU,hn]) h
 |eX x args =>
  have hu:=unl fun ns d e hn=>by subst e;simp only[gU,hn]
  simp only[aU] at h ⊢;split at h
  ·exact bI.yS hi hu h
  ·exact bI.HD hi hu h
  ·cases h
 |dM e esz bytes z s x =>
  have hu:=unl fun ns d e hn=>by subst e;simp only[gU,hn]
  have rP:∀ B,qG A dst (af A s) B→dH av B:=fun B hB t ns hn=>by
   rw[hB.1 t fun e=>by rw[hu t e] at hn;cases hn];exact hi t ns hn
  have hf:=xq A dst e esz bytes z s x;rcases hf rest with h1 | ⟨B,h1,h2⟩ | ⟨p,bh,h1,h2⟩
  ·rw[h1] at h;cases h
  ·rw[h1] at h;have:aU A dst (.dM e esz bytes z s x) [] (al [])=al [] B:=(show aU A dst (.dM e esz bytes z s x) [] (al [])=aU A dst (.dM e esz bytes z s x) rest (al []) from rfl).trans (h1 _);rw[this];exact .done ⟨h,rP B h2⟩
  ·rw[h1] at h;have:aU A dst (.dM e esz bytes z s x) [] (al [])=.any p fun m=>al [] (bh m):=(show aU A dst (.dM e esz bytes z s x) [] (al [])=aU A dst (.dM e esz bytes z s x) rest (al []) from rfl).trans (h1 _);rw[this];exact .any rfl fun m hm=>.done ⟨h.qO m hm,rP _ (h2 m)⟩
 |_=>first | exact pure rfl | cases ho
def fh(g:ar)(A:ab)(v:I):Prop:=(fw A g∧v=.undef)∨(pass A g∧aT A g.op=some v)
theorem bI.wv{A:ab}{g:ar}{rest:List ar}(hs':hJ g.op=true)(h:bI P Y hs K (al (g::rest) A)):∃ v,fh g A v∧bI P Y hs K (al rest (A.aM g.dst v)):=by
 have step:pass A g→bI P Y hs K (aU A g.dst g.op rest (al rest))→∃ v,fh g A v∧bI P Y hs K (al rest (A.aM g.dst v)):=by
  intro hp h;rw[uV hs'] at h;cases hv:aT A g.op with
  |none=>rw[hv] at h;cases h
  |some v=>rw[hv] at h;exact ⟨v,.inr ⟨hp,hv⟩,h⟩
 simp only[al] at h;split at h
 ·rename_i hg;exact step (by simp only[pass,hg]) h
 ·rename_i t b hg;split at h
  ·rename_i b' hb;split at h
   ·rename_i hbb;subst hbb;exact step (by simp only[pass,hg];exact hb) h
   ·rename_i hbb;exact ⟨_,.inl ⟨by simp only[fw,hg];exact .inl (by rw[hb,tP hbb]),rfl⟩,h⟩
  ·rename_i hb;exact ⟨_,.inl ⟨by simp only[fw,hg];exact .inr hb,rfl⟩,h⟩
  ·cases h
theorem qP{A:ab}{g:ar}{rest:List ar}(hn:fw A g):al (g::rest) A=al rest (A.aM g.dst .undef):=by
 simp only[al];cases hg:g.guard with
 |none=>simp only[fw,hg] at hn
 |some tb =>
  obtain ⟨t,b⟩:=tb;simp only[fw,hg] at hn;rcases hn with hn | hn
  ·simp only[hn];rw[if_neg (by cases b <;>simp)]
  ·simp only[hn]
theorem fh.to{A:ab}{g:ar}{rest:List ar}{v:I}(hs':hJ g.op=true)(h:fh g A v):al (g::rest) A=al rest (A.aM g.dst v):=by
 rcases h with ⟨hn,rfl⟩ | ⟨hp,hv⟩
 ·exact qP hn
 ·rw[ma hp,uV hs',hv];rfl
theorem Ky{A A':ab}{p:Nat→Bool}(ho:∀ n,p n=true→A'.o n=A.o n){x:I}(hx:x.only p=true):bO A' x=bO A x:=by
 cases x <;>simp only[bO]
 rename_i n q;rw[ho n (by simpa[I.only] using hx)]
mutual
theorem Ln{A A':ab}{p:Nat→Bool}(ho:∀ n,p n=true→A'.o n=A.o n):∀ {x:I},x.only p=true→aZ false A' x=aZ false A x
 | .own n k,h=>by simp only[aZ];rw[ho n (by simpa[I.only] using h)]
 | .func f caps,h=>by simp only[aZ];rw[rv ho (xs:=caps) (by simpa[I.only] using h)]
 | .agg fs,h=>by simp only[aZ];rw[rv ho (xs:=fs) (by simpa[I.only] using h)]
 | .undef,_ | .cU,_ | .bool _,_ | .int _ _,_ | .aj _,_ | .nilp,_ | .c8,_ | .cN,_ | .any,_ | .raw _,_ | .nils _,_ | .c0 _,_ | .slice _ _,_ | .tuple _,_ | .ref _,_ | .iface _ _,_ | .ptr _ _,_ | .view _ _ _ _ _,_ | .mref _,_ | .cR _,_ | .cW _ _,_=>by simp[aZ]
theorem rv{A A':ab}{p:Nat→Bool}(ho:∀ n,p n=true→A'.o n=A.o n):∀ {xs:List I},I.cH p xs=true→bC false A' xs=bC false A xs
 | [],_=>rfl
 |x::xs,h=>by
  simp only[I.cH,Z0] at h;simp only[bC,Ln ho h.1,rv ho h.2]
end
theorem BH{p:Nat→Bool}{f:au→I} : ∀ {xs:List au},(∀ x∈xs,(f x).only p=true)→I.cH p (xs.map f)=true
 | [],_=>rfl
 |x::xs,h=>by
  simp only[Z4,I.cH,Z0];exact ⟨h x (by simp),BH fun y hy=>h y (by simp[hy])⟩
theorem UP{A A':ab}{p:Nat→Bool}(ho:∀ n,p n=true→A'.o n=A.o n){x:I}(hx:x.only p=true):fH A' x=fH A x:=by
 cases x with
 |mref n=>simp only[fH];rw[ho n (by simpa[I.only] using hx)]
 |raw v=>cases v <;>first | rfl | (rename_i o;cases o <;>rfl)
 |_=>rfl
theorem Wp{A A':ab}{op:bq}{xs:List Nat}{p:Nat→Bool}(hm:lH op=some xs)(h:dv A A' op.ct)(hx:∀ s∈xs,(A.t s).only p=true)(ho:∀ n,p n=true→A'.o n=A.o n):aT A' op=aT A op:=by
 have js:op.fF=0→aT A' op=aT A op:=fun hc=>vL hc h;have dl:=fun {x:I} (hx:x.only p=true)=>Ky ho hx;unfold lH at hm;split at hm
 ·rename_i s x;simp only[v6] at hm;subst hm;have e:=h x (by simp[bq.ct,au.sl]);simp only[aT,af,e,dl (hx x (by simp))]
 ·rename_i f off x;simp only[v6] at hm;subst hm;have e:=h x (by simp[bq.ct,au.sl]);have k:=hx x (by simp);simp only[aT,af,e];generalize A.t x=u at k ⊢;cases u with
  |ptr n q=>simp only[dl (x:=.ptr n q) k]
  |ref c=>cases c <;>rfl
  |_=>rfl
 ·rename_i n esz x i;simp only[v6] at hm;subst hm;have e:=h x (by simp[bq.ct,au.sl]);have ei:=cB (x:=i) (fun m hm=>h m (by simp[bq.ct,hm]));have k:=hx x (by simp);simp only[aT,ei];generalize af A i=w;simp only[af,e];generalize A.t x=u at k ⊢;cases u with
  |ptr n q=>simp only[dl (x:=.ptr n q) k]
  |ref c=>cases c <;>rfl
  |_=>rfl
 ·rename_i esz x i;simp only[v6] at hm;subst hm;have e:=h x (by simp[bq.ct,au.sl]);have ei:=cB (x:=i) (fun m hm=>h m (by simp[bq.ct,hm]));have k:=hx x (by simp);simp only[aT,ei];generalize af A i=w;simp only[af,e];generalize A.t x=u at k ⊢;cases u with
  |own n l=>simp only[ho n (by simpa[I.only] using k)]
  |view n q=>simp only[dl (x:=.ptr n q) (by simpa[I.only] using k)]
  |_=>rfl
 ·rename_i x;simp only[v6] at hm;subst hm;have e:=h x (by simp[bq.ct,au.sl]);have k:=hx x (by simp);simp only[aT,af,e];generalize A.t x=u at k ⊢;cases u with
  |own n l=>simp only[ho n (by simpa[I.only] using k)]
  |_=>rfl
 ·rename_i n esz x;simp only[v6] at hm;subst hm;have e:=h x (by simp[bq.ct,au.sl]);have k:=hx x (by simp);simp only[aT,af,e];generalize A.t x=u at k ⊢;cases u with
  |ptr n q=>simp only[dl (x:=.ptr n q) k]
  |ref c=>cases c <;>rfl
  |_=>rfl
 ·rename_i esz x lo hi mx;simp only[v6] at hm;subst hm;have e:=h x (by simp[bq.ct,au.sl]);have e1:=nK (x:=lo) (fun m hm=>h m (by simp[bq.ct,hm]));have e2:=nK (x:=hi) (fun m hm=>h m (by simp[bq.ct,hm]));have e3:=nK (x:=mx) (fun m hm=>h m (by simp[bq.ct,hm]));have k:=hx x (by simp);simp only[aT,e1,e2,e3];generalize lo.map (af A)=w1;generalize hi.map (af A)=w2;generalize mx.map (af A)=w3;simp only[af,e];generalize A.t x=u at k ⊢;cases u with
  |view n q=>simp only[dl (x:=.ptr n q) (by simpa[I.only] using k)]
  |_=>rfl
 ·rename_i x;simp only[v6] at hm;subst hm;have e:=h x (by simp[bq.ct,au.sl]);have k:=hx x (by simp);simp only[aT,af,e];generalize A.t x=u at k ⊢;cases u with
  |view n q=>simp only[dl (x:=.ptr n q) (by simpa[I.only] using k)]
  |_=>rfl
 ·rename_i ty z ok x kk;simp only[v6] at hm;subst hm;have e:=h x (by simp[bq.ct,au.sl]);have ek:=cB (x:=kk) (fun m hm=>h m (by simp[bq.ct,hm]));have k:=hx x (by simp);simp only[aT,ek];generalize af A kk=w;simp only[af,e,UP ho k]
 ·rename_i x;simp only[v6] at hm;subst hm;have e:=h x (by simp[bq.ct,au.sl]);have k:=hx x (by simp);simp only[aT,af,e];generalize A.t x=u at k ⊢;cases u with
  |own n l=>simp only[cO,ho n (by simpa[I.only] using k)]
  |view n q=>simp only[cO,dl (x:=.ptr n q) (by simpa[I.only] using k)]
  |_=>rfl
 ·rename_i esz ps;split at hm
  case isFalse=>cases hm
  rename_i hall;simp only[v6] at hm;subst hm;have hev:ps.map (af A')=ps.map (af A):=jV h;have hon:I.cH p (ps.map (af A))=true:=BH fun x hx'=>by
   have h1:=Y5.1 hall x hx';cases x with
   |c _=>cases h1
   |t s=>exact hx s (by simp only[iy,List.mem_flatMap];exact ⟨_,hx',by simp[au.sl]⟩)
  simp only[aT,hev,rv ho hon]
 ·rfl
 ·split at hm
  ·rename_i hc;exact js hc.1
  ·cases hm
theorem xm{av:ea}{A:ab}{g:ar}{p:Nat→Bool}(hi:dH av A)(h:qQ av g p=true):∃ xs,lH g.op=some xs∧∀ s∈xs,(A.t s).only p=true:=by
 unfold qQ at h;split at h
 case h_2=>cases h
 rename_i xs hm;refine ⟨xs,hm,fun s hs' =>?_⟩;have h1:=Y5.1 h s hs';split at h1
 case h_2=>cases h1
 rename_i ns hn;exact je (fun n h2=>Y5.1 h1 n (by simpa using h2)) _ (hi s ns hn)
theorem fh.vh{A A':ab}{g:ar}{v:I}{xs:List Nat}{p:Nat→Bool}(h:fh g A v)(hm:lH g.op=some xs)(ha:dv A A' g.ct)(hx:∀ s∈xs,(A.t s).only p=true)(ho:∀ n,p n=true→A'.o n=A.o n):fh g A' v:=by
 rcases h with ⟨h,rfl⟩ | ⟨h,k⟩
 ·exact .inl ⟨oa ha h,rfl⟩
 ·exact .inr ⟨lM ha h,by rw[Wp hm (ar.iJ ha) hx ho];exact k⟩
theorem fh.rP{av:ea}{A:ab}{g:ar}{v:I}(hi:dH av A)(hg:gU av g=true)(h:fh g A v):dH av (A.aM g.dst v):=by
 rcases h with ⟨_,rfl⟩ | ⟨_,k⟩
 ·exact hi.put (fun _=>rfl) fun _ _ _ _=>rfl
 ·exact hi.put (fun _=>rfl) (Bx hi hg k)
theorem fh.cw{A A':ab}{g:ar}{v:I}(h:fh g A v)(hu:dw A A')(ha:dv A A' g.ct):fh g A' v:=by
 rcases h with ⟨h,rfl⟩ | ⟨h,k⟩
 ·exact .inl ⟨oa ha h,rfl⟩
 ·exact .inr ⟨lM ha h,BY hu (ar.iJ ha) k⟩
theorem AA{av:ea}{g h:ar}(hi:mj hs av g h=true):hJ g.op=true∧mJ hs av g h=true∧(∀ d,g.dst=some d→d∉h.ct)∧(∀ d,g.dst=some d→h.dst≠some d)∧(∀ d,h.dst=some d→d∉g.ct):=by
 simp only[mj,Z0] at hi;obtain ⟨h1,h2,h3,h4⟩:=hi;refine ⟨h1,h2,fun d hd =>?_,fun d hd =>?_,fun d hd =>?_⟩
 ·rw[hd] at h3;simp at h3;exact h3.1
 ·rw[hd] at h3;simp at h3;exact h3.2
 ·rw[hd] at h4;simpa using h4
theorem xu{aB:Bool}{A A':ab}{ρ:List (Nat×Nat)}{os:List (Nat×ai)}(hu:dw A A'):∀ {xs cs:List I},fN aB A ρ os xs cs→fN aB A' ρ os xs cs
 | [],[],_=>trivial
 |x::xs,c::cs,h=>⟨h.1.imp id fun h=>zO hu h,xu hu h.2⟩
 | [],_::_,h=>h.elim
 |_::_,[],h=>h.elim
theorem UX{A:ab}{d:Option Nat}{v:I}{ts:List (Nat×I)}{os:List (Nat×ai)}(h:A.aM d v=aw ts os):∃ ts2,A=aw ts2 os∧∀ X:List (Nat×ai),(aw ts2 X).aM d v=aw ts X:=by
 cases d with
 |none=>exact ⟨ts,h,fun _=>rfl⟩
 |some d =>
  have ht:∀ k,(A.aM (some d) v).t k=b9 ts k:=fun k=>by rw[h];rfl
  have ho:A.o=aH os:=by
   have:(A.aM (some d) v).o=aH os:=by rw[h];rfl
   rwa [gp] at this
  refine ⟨(d,A.t d)::ts,?_,fun X =>?_⟩
  ·cases A with
   |mk t o =>
    simp only[aw,ab.mk.injEq];refine ⟨funext fun k =>?_,ho⟩;have:=ht k;simp only[ab.aM,ab.put] at this;simp only[b9];by_cases hk:k=d
    ·subst hk;simp
    ·rw[if_neg hk] at this;have hk':¬ d=k:=fun e=>hk e.symm;simp only[hk,if_false];exact this
  ·simp only[ab.aM,ab.put,aw,ab.mk.injEq,and_true]
   funext k
   have:=ht k;simp only[ab.aM,ab.put] at this;by_cases hk:k=d
   ·subst hk;simp at this ⊢;exact this
   ·have hk':¬ d=k:=fun e=>hk e.symm;simp only[b9,hk,if_false]
theorem Wk{ρ:List (Nat×Nat)}{os0 os':List (Nat×ai)}{r:I}(hb:dG false ρ [] os0 r os'){n:Nat}{x:ai}(hx:aH os0 n=some x):aH (cY ρ os'++os0) n=some x:=by
 rw[r5];cases hp:pre ρ os' n with
 |none=>exact hx
 |some m =>
  obtain ⟨h1,h2⟩:=kS hp;have:=(hb.nZ m h1 (by simp[aC,aH])).1;rw[h2,hx] at this;cases this
theorem bI.HB{A B:ab}{j:ar}{v:I}{f:FuncId}{args:List au}{dst:Option Nat}{rest:List ar}(hj:hJ j.op=true)(hv:fh j A v)(hB:B=A.aM j.dst v)(hf:hs.contains f=false)(hag:dv A B (iy args))(hd:∀ d,j.dst=some d→dst≠some d)(hr:∀ d,dst=some d→d∉j.ct)
  (h:bI P Y hs K (.call f (args.map (af B)) (bC true B (args.map (af B))) (bC false B (args.map (af B))) dst rest B)):bI P Y hs K (.call f (args.map (af A)) (bC true A (args.map (af A))) (bC false A (args.map (af A))) dst (j::rest) A):=by
 have eo:B.o=A.o:=by rw[hB,gp]
 have cw:dw B A:=fun n x hx=>by rwa [←eo]
 have up':dw A B:=fun n x hx=>by rwa [eo]
 have eav:args.map (af B)=args.map (af A):=jV hag;rw[eav] at h;have cont:∀ r:I,bI P Y hs K (al rest (B.aM dst r))→bI P Y hs K (al (j::rest) (A.aM dst r)):=fun r hw=>by
  have h1:fh j (A.aM dst r) v:=hv.cw (fun n x hx=>by rwa [gp]) (kT hr);rw[h1.to hj,oh (fun d hd'=>fun e=>hd d e hd'),←hB];exact hw
 generalize e1:bC true B (args.map (af A))=a1 at h;generalize e2:bC false B (args.map (af A))=a2 at h;generalize hBm:B=B0 at h;cases h with
 |flat r hc hfl hw =>
  subst hBm;rw[jY cw e1];exact .flat r hc hfl (cont r hw)
 |lead r hc hw =>
  subst hBm;rw[jY cw e2];exact .lead r hc (cont r hw)
 |bz ρ cargs post hc hg ha hb hw =>
  rename_i ts os0;rw[hB] at hBm;obtain ⟨ts2,hA,hts⟩:=UX hBm;have hA':=hA;clear cont;subst hA;refine .bz ρ cargs post hc hg (xu (A:=aw ts os0) (A':=aw ts2 os0) (fun n x hx=>hx) ha) hb fun r os' hp =>?_;have h1:fh j ((aw ts2 (cY ρ os'++os0)).aM dst (r.aR (bo ρ))) v:=hv.cw (fun n x hx=>by
   rw[gp];exact Wk (hb r os' hp) hx) (fun k hk=>by
    have:=kT (A:=aw ts2 (cY ρ os'++os0)) (v:=r.aR (bo ρ)) hr k hk;rw[this];rfl)
  rw[h1.to hj,oh (fun d hd'=>fun e=>hd d e hd'),hts];exact hw r os' hp
 |vx aB ρ os cargs post hfs =>
  rw[hf] at hfs;cases hfs
theorem bI.qv{av:ea}{A:ab}{j g:ar}{rest:List ar}(hinv:dH av A)(hi:mj hs av j g=true)(hw:bI P Y hs K (al (j::g::rest) A)):bI P Y hs K (al (g::j::rest) A):=by
 obtain ⟨hj,hl,i1,i2,i3⟩:=AA hi;obtain ⟨v,hv,hw⟩:=bI.wv hj hw;have ag:dv (A.aM j.dst v) A g.ct:=(kT i1).symm;have ag':dv A (A.aM j.dst v) g.ct:=kT i1;have cw:dw (A.aM j.dst v) A:=fun n x hx=>by rwa [gp] at hx
 have up':∀ (d:Option Nat) (u:I),dw A (A.aM d u):=fun d u n x hx=>by rwa [gp]
 by_cases hsg:hJ g.op=true
 ·obtain ⟨u,hu,hw⟩:=bI.wv hsg hw;rw[(hu.cw cw ag).to hsg,(hv.cw (up' _ _) (kT i3)).to hj,←oh i2];exact hw
 ·-- the guard
  have guard:(fw (A.aM j.dst v) g∧al (g::rest) (A.aM j.dst v)=al rest ((A.aM j.dst v).aM g.dst .undef))∨(pass (A.aM j.dst v) g∧al (g::rest) (A.aM j.dst v)=aU (A.aM j.dst v) g.dst g.op rest (al rest))∨al (g::rest) (A.aM j.dst v)=.fail:=by
   cases hg:g.guard with
   |none=>exact .inr (.inl ⟨by simp only[pass,hg],by simp only[al,hg]⟩)
   |some tb =>
    obtain ⟨t,b⟩:=tb;cases ht:(A.aM j.dst v).t t with
    |bool b' =>
     by_cases hbb:b'=b
     ·subst hbb;have hp:pass (A.aM j.dst v) g:=by simp only[pass,hg,ht]
      exact .inr (.inl ⟨hp,ma hp⟩)
     ·have hn:fw (A.aM j.dst v) g:=by simp only[fw,hg];exact .inl (by rw[ht,tP hbb])
      exact .inl ⟨hn,qP hn⟩
    |undef =>
     have hn:fw (A.aM j.dst v) g:=by simp only[fw,hg];exact .inr ht
     exact .inl ⟨hn,qP hn⟩
    |_=>exact .inr (.inr (by simp only[al,hg,ht]))
  rcases guard with ⟨hn,he⟩ | ⟨hp,he⟩ | he
  ·rw[he] at hw;rw[qP (oa ag hn),(hv.cw (up' _ _) (kT i3)).to hj,←oh i2];exact hw
  ·rw[he] at hw;rw[ma (lM ag hp)];obtain ⟨dst,op,gd⟩:=g;simp only at hw hsg i2 i3 ⊢;cases op with
   |alloc z =>
    cases dst with
    |none=>simp only[aU] at hw;cases hw
    |some d =>
    simp only[aU] at hw ⊢;split at hw
    case h_2=>cases hw
    rename_i ho;rw[gp] at ho;simp only[ho];have h1:fh j ((A.aO d (.box z)).put d (.ptr d [])) v:=hv.cw (fun n y hy=>by
     have:n≠d:=fun he=>by rw[he,ho] at hy;cases hy
     simp only[ab.put,ab.aO,this,if_false];exact hy) (fun k hk=>by
     have:k≠d:=fun he=>i3 d rfl (he▸hk);simp only[ab.put,ab.aO,this,if_false])
    rw[h1.to hj];have e:((A.aM j.dst v).aO d (.box z)).put d (.ptr d [])=((A.aO d (.box z)).put d (.ptr d [])).aM j.dst v:=by
     cases hgd:j.dst with
     |none=>rfl
     |some e =>
      have hne:e≠d:=fun he=>i2 e hgd (by rw[he]);simp only[ab.aM,ab.put,ab.aO,ab.mk.injEq,and_true]
      funext k
      by_cases h1:k=e <;>by_cases h2:k=d <;>simp_all
    rw[←e];exact hw
   |box x =>
    have ex:af (A.aM j.dst v) x=af A x:=cB (ar.iJ ag');cases dst with
    |none=>simp only[aU] at hw;cases hw
    |some d =>
    simp only[aU] at hw ⊢;split at hw
    case h_2=>cases hw
    rename_i ho;rw[gp] at ho;simp only[ho];rw[ex] at hw;split at hw
    case isFalse=>cases hw
    rename_i hval;rw[if_pos hval];have h1:fh j ((A.aO d (.box (af A x))).put d (.ptr d [])) v:=hv.cw (fun n y hy=>by
     have:n≠d:=fun he=>by rw[he,ho] at hy;cases hy
     simp only[ab.put,ab.aO,this,if_false];exact hy) (fun k hk=>by
     have:k≠d:=fun he=>i3 d rfl (he▸hk);simp only[ab.put,ab.aO,this,if_false])
    rw[h1.to hj];have e:((A.aM j.dst v).aO d (.box (af A x))).put d (.ptr d [])=((A.aO d (.box (af A x))).put d (.ptr d [])).aM j.dst v:=by
     cases hgd:j.dst with
     |none=>rfl
     |some e =>
      have hne:e≠d:=fun he=>i2 e hgd (by rw[he]);simp only[ab.aM,ab.put,ab.aO,ab.mk.injEq,and_true]
      funext k
      by_cases h1:k=e <;>by_cases h2:k=d <;>simp_all
    rw[←e];exact hw
   |ef x =>
    have ex:af (A.aM j.dst v) x=af A x:=cB (ar.iJ ag');simp only[aU] at hw ⊢;rw[ex] at hw;cases hse:kZ (af A x) with
    |none=>rw[hse] at hw;simp only[gY] at hw;cases hw
    |some ys =>
    rw[hse] at hw;cases dst with
    |none=>simp only[gY] at hw;cases hw
    |some d =>
    simp only[gY] at hw ⊢;rw[gp] at hw;split at hw
    case h_2=>cases hw
    rename_i ho;refine .any fun m hm =>?_;have hw:=hw.qO m hm;generalize hbx:ai.box (.agg (ys++List.replicate m (.int .u8 0)))=aB at hw ⊢;generalize hvw:I.view d [] 1 0 ys.length=vw at hw ⊢;have h1:fh j ((A.aO d aB).aM (some d) vw) v:=hv.cw (fun n y hy=>by
     have:n≠d:=fun he=>by rw[he,ho] at hy;cases hy
     simp only[ab.aM,ab.put,ab.aO,this,if_false];exact hy) (fun k hk=>by
     have:k≠d:=fun he=>i3 d rfl (he▸hk);simp only[ab.aM,ab.put,ab.aO,this,if_false])
    rw[h1.to hj];have e:((A.aM j.dst v).aO d aB).aM (some d) vw=((A.aO d aB).aM (some d) vw).aM j.dst v:=by
     cases hgd:j.dst with
     |none=>rfl
     |some e =>
      have hne:e≠d:=fun he=>i2 e hgd (by rw[he]);simp only[ab.aM,ab.put,ab.aO,ab.mk.injEq,and_true]
      funext k
      by_cases h1:k=e <;>by_cases h2:k=d <;>simp_all
    rw[←e];exact hw
   |call f args =>
    simp only[aU] at hw ⊢;refine bI.HB hj hv rfl (by simpa[mJ,nX] using hl) (ar.iJ ag') i2 i3 hw
   |aV s y u =>
    cases dst with
    |some d=>simp only[aU] at hw;cases hw
    |none =>
    have ey:af (A.aM j.dst v) y=af A y:=cB (ar.iJ ag').l;have eu:af (A.aM j.dst v) u=af A u:=cB (ar.iJ ag').r;simp only[aU] at hw ⊢;rw[ey,eu,gp] at hw;cases hx:af A y <;>simp only[hx] at hw ⊢ <;>try (cases hw;done)
    rename_i n q;cases ho:A.o n with
    |none=>rw[ho] at hw;cases hw
    |some ob =>
    rw[ho] at hw;cases ob <;>simp only at hw ⊢ <;>try (cases hw;done)
    rename_i b;cases hb:b.at q with
    |none=>rw[hb] at hw;cases hw
    |some old =>
    rw[hb] at hw;simp only at hw ⊢;split at hw
    case isFalse=>cases hw
    rename_i hok;rw[if_pos hok];have h1:fh j (A.aO n (.box (b.dz q (af A u)))) v:=by
     have none0:lH j.op=some []→fh j (A.aO n (.box (b.dz q (af A u)))) v:=fun hm=>hv.vh (p:=fun _=>false) hm (fun _ _=>rfl) (fun s hs'=>by cases hs') (fun m hm=>by cases hm);cases y with
     |c y =>
      simp only[mJ,nX,hJ,Bool.false_or] at hl;split at hl
      ·rename_i hm;exact none0 hm
      ·cases hl
     |t y =>
      simp only[mJ,nX,hJ,Bool.false_or] at hl;split at hl
      ·rename_i hm;exact none0 hm
      ·split at hl
       case h_2=>cases hl
       rename_i ms hms;obtain ⟨xs,hm,hx2⟩:=xm hinv hl;refine hv.vh hm (fun _ _=>rfl) hx2 fun m hm2 =>?_;have hn:=hinv y ms hms;simp only[af] at hx;rw[hx] at hn;have:m≠n:=fun e=>by subst e;simp[I.only] at hn hm2;exact hm2 hn
       simp only[ab.aO,if_neg this]
    rw[h1.to hj];have e:(A.aM j.dst v).aO n (.box (b.dz q (af A u)))=(A.aO n (.box (b.dz q (af A u)))).aM j.dst v:=by cases j.dst <;>rfl
    rw[←e];exact hw
   |dM e esz bytes z s x =>
    have hag:dv A (A.aM j.dst v) (s.sl++x.sl):=ar.iJ ag';have he2:aU (A.aM j.dst v) dst (.dM e esz bytes z s x) rest (al rest)=aU A dst (.dM e esz bytes z s x) (j::rest) fun B=>al rest (B.aM j.dst v):=by
     cases hjd:j.dst with
     |none=>rfl
     |some d =>
      rw[hjd] at hag;exact FQ (fun e=>i2 d hjd e) hag rest (j::rest) (al rest)
    rw[he2] at hw;have jt:∀ B,qG A dst (af A s) B→al (j::rest) B=al rest (B.aM j.dst v):=fun B hB=>by
     have hagB:dv A B j.ct:=fun k hk=>hB.1 k fun e=>i3 k e hk;have:fh j B v:=by
      simp only[mJ,nX,hJ,Bool.false_or,Bool.or_eq_true] at hl;rcases hl with hl | hl
      ·obtain ⟨xs,hm,hx2⟩:=xm hinv hl;exact hv.vh hm hagB hx2 fun m hm2=>by cases hm2
      ·have:=nk hinv hl;exact hv.cw (hB.2 (by simpa using this)) hagB
     rw[this.to hj]
    rcases xq A dst e esz bytes z s x (j::rest) with h1 | ⟨B,h1,h2⟩ | ⟨p,bh,h1,h2⟩
    ·rw[h1] at hw;cases hw
    ·rw[h1] at hw ⊢;rw[jt B h2];exact hw
    ·rw[h1] at hw ⊢;exact .any fun m hm=>by rw[jt _ (h2 m)];exact hw.qO m hm
   |_=>first | exact absurd rfl hsg | (simp[mJ,nX,hJ] at hl)
  ·rw[he] at hw;cases hw
theorem bI.oY{av:ea}{g:ar} : ∀ {l:List ar} {r:List ar} {A:ab},dH av A→(∀ j∈l,mj hs av j g=true∧gU av j=true)→bI P Y hs K (al (l++g::r) A)→bI P Y hs K (al (g::(l++r)) A)
 | [],r,A,_,_,h=>h
 |j::l,r,A,hinv,hi,h=>by
  have hj:=(AA (hi j (by simp)).1).1;obtain ⟨v,hv,h2⟩:=bI.wv (g:=j) (rest:=l++g::r) hj h;have h3:=bI.oY (l:=l) (r:=r) (hv.rP hinv (hi j (by simp)).2) (fun k hk=>hi k (by simp[hk])) h2;refine bI.qv hinv (hi j (by simp)).1 ?_;rw[hv.to hj];exact h3
end
def sj:List Nat→Bool
 | []=>true
 |a::l => !l.contains a&&sj l
def qL(hs:List FuncId)(av:ea)(gs:List ar)(cl:List Nat):List Nat→List Nat→Bool
 |_,[]=>true
 |before,i::σ=>(before.all fun j=>(cl.getD i 0).testBit j||mj hs av (gs.getD j default) (gs.getD i default))&&qL hs av gs cl (i::before) σ
def sC(hs:List FuncId)(av:ea)(on:List (List Nat))(gs:List ar)(cl:List Nat)(σ:List Nat):Bool :=
 (Nat.beq σ.length gs.length&&(sj σ&&(σ.all (fun i=>decide (i<gs.length))&&((List.range gs.length).all (fun i=>σ.contains i)&&gs.all fun g=>sx g.op&&gU av g))))&&(qL hs av gs cl [] σ&&(List.range gs.length).all fun i=>(on.getD i []).all (fun k=>decide (k<i))&&Nat.beq (cl.getD i 0) (nl cl (on.getD i [])))
theorem Bk:∀ {l:List Nat},sj l=true→l.Nodup
 | [],_=>List.nodup_nil
 |a::l,h=>by
  simp only[sj,Z0,Bool.not_eq_true',List.contains_eq_mem,decide_eq_false_iff_not] at h;exact List.nodup_cons.2 ⟨h.1,Bk h.2⟩
theorem xk{hs:List FuncId}{av:ea}{gs:List ar}{cl:List Nat} : ∀ {σ before:List Nat},qL hs av gs cl before σ=true→∀ s1 i s2,σ=s1++i::s2→∀ j,j∈before∨j∈s1→(cl.getD i 0).testBit j=true∨mj hs av (gs.getD j default) (gs.getD i default)=true
 | [],_,_,s1,i,s2,e,_,_=>by cases s1 <;>cases e
 |a::σ,before,h,s1,i,s2,e,j,hj=>by
  simp only[qL,Z0,Y5,Bool.or_eq_true] at h;cases s1 with
  |nil =>
   simp only[zz2,Y9] at e;obtain ⟨rfl,rfl⟩:=e;rcases hj with hj | hj
   ·exact h.1 j hj
   ·cases hj
  |cons b s1 =>
   simp only[Y2,Y9] at e;obtain ⟨rfl,rfl⟩:=e;refine xk h.2 s1 i s2 rfl j ?_;rcases hj with hj | hj
   ·exact .inl (List.mem_cons_of_mem _ hj)
   ·rcases zy0.1 hj with hj | hj
    ·exact .inl (by rw[hj];exact List.mem_cons_self)
    ·exact .inr hj
def gX(σ:List Nat)(listed:Array Bool):List Nat:=σ.filter fun i => !listed.getD i true
def mM(gs:List ar)(σ:List Nat)(listed:Array Bool):List ar:=(gX σ listed).map fun i=>gs.getD i default
theorem WN{σ:List Nat}{listed:Array Bool}{i:Nat}(hn:σ.Nodup)(hi:i∈σ)(hl:i<listed.size)(hu:listed.getD i true=false):∃ s1 s2,σ=s1++i::s2∧gX σ listed=(s1.filter fun j => !listed.getD j true)++i::(s2.filter fun j => !listed.getD j true) ∧
  gX σ (listed.setIfInBounds i true)=(s1.filter fun j => !listed.getD j true)++(s2.filter fun j => !listed.getD j true):=by
 obtain ⟨s1,s2,rfl⟩:=List.append_of_mem hi;have same:∀ j,j≠i→(listed.setIfInBounds i true).getD j true=listed.getD j true:=fun j hj=>getD_set_ne true (Ne.symm hj);have ju:(listed.setIfInBounds i true).getD i true=true:=by simp[hl]
 have hnd:=List.nodup_append.1 hn;have h1:∀ j∈s1,j≠i:=fun j hj=>hnd.2.2 j hj i List.mem_cons_self;have h2:∀ j∈s2,j≠i:=fun j hj e=>(List.nodup_cons.1 hnd.2.1).1 (e▸hj);refine ⟨s1,s2,rfl,?_,?_⟩
 ·simp only[gX,List.filter_append,List.filter_cons,hu,Bool.not_false,if_true]
 ·simp only[gX,List.filter_append,List.filter_cons,ju,Bool.not_true,Z7,if_false]
  congr 1
  ·exact List.filter_congr fun j hj=>by rw[same j (h1 j hj)]
  ·exact List.filter_congr fun j hj=>by rw[same j (h2 j hj)]
structure xf (hs:List FuncId) (av:ea) (l:List Oper) (gs:List ar) (σ:List Nat):Prop where
 Vb:σ.Nodup
 lt:∀ i∈σ,i<gs.length
 all:∀ i,i<gs.length→i∈σ
 ok:∀ g∈gs,sx g.op=true∧gU av g=true
 len:σ.length=gs.length
 kD:∀ i o,l[i]?=some o→∀ k∈dI o,k<i
 u2:∀ (S:Nat→Prop),(∀ i o,l[i]?=some o→S i→∀ k∈dI o,S k)→∀ s1 i s2 o,σ=s1++i::s2→l[i]?=some o→(∀ k∈dI o,S k)→∀ j∈s1,¬ S j→mj hs av (gs.getD j default) (gs.getD i default)=true
theorem Wg{hs:List FuncId}{av:ea}{l:List Oper}{gs:List ar}{cl σ:List Nat}(hlen:gs.length=l.length)(h:sC hs av (l.map dI) gs cl σ=true):xf hs av l gs σ:=by
 simp only[sC,Z0,Y5,decide_eq_true_eq,List.mem_range,List.contains_eq_mem] at h;obtain ⟨⟨h1,h2,h3,h4,h5⟩,h6,h7⟩:=h;have bB:∀ i o,l[i]?=some o→(∀ k∈dI o,k<i)∧(∀ j,(cl.getD i 0).testBit j=true→j∈dI o∨∃ k∈dI o,(cl.getD k 0).testBit j=true):=by
  intro i o ho;have hi:i<l.length:=(Z8.1 ho).1;have h8:=h7 i (by omega);have hon:(l.map dI).getD i []=dI o:=by simp[Y7,ho]
  rw[hon] at h8;have hb:=Nat.eq_of_beq_eq_true h8.2;exact ⟨h8.1,fun j hj=>wN (by rw[←hb];exact hj)⟩
 refine ⟨Bk h2,h3,h4,h5,Nat.eq_of_beq_eq_true h1,fun i o ho=>(bB i o ho).1,?_⟩;intro S hS s1 i s2 o e ho hon j hj hnj;have key:∀ n i o,i≤n→l[i]?=some o→(∀ k∈dI o,S k)→∀ j,(cl.getD i 0).testBit j=true→S j:=by
  intro n
  induction n with
  |zero =>
   intro i o hi ho hon j hj;obtain ⟨h8,h9⟩:=bB i o ho;rcases h9 j hj with h | ⟨k,hk,_⟩
   ·exact hon j h
   ·have:=h8 k hk;omega
  |succ n ih =>
   intro i o hi ho hon j hj;obtain ⟨h8,h9⟩:=bB i o ho;rcases h9 j hj with h | ⟨k,hk,hjk⟩
   ·exact hon j h
   ·have hki:=h8 k hk;have hkl:k<l.length:=Nat.lt_trans hki (Z8.1 ho).1;obtain ⟨ok,hok⟩:∃ ok,l[k]?=some ok:=⟨l[k],Y4 hkl⟩
    exact ih k ok (by omega) hok (hS k ok hok (hon k hk)) j hjk
 rcases xk h6 s1 i s2 e j (.inr hj) with h | h
 ·exact absurd (key i i o (Z5 _) ho hon j h) hnj
 ·exact h
section
variable {c:cm}
theorem SP{K:ab→Prop}{hs:List FuncId}{av:ea}{bg:Array Oper}{Q:Exit→Act→World→Prop}{o:Oper}{g:ar}{rest:List ar}{A:ab}{a:Act}{w:World}{Kw:Act→World→Prop}(hg:kG c.P c.n bg o=some g)(hi:dH av A)(ho:sx g.op=true∧gU av g=true)(hwp:bI c.P c.Y hs K (al (g::rest) A))(hs':bA c A a w)
  (hK:∀ B a' w',bI c.P c.Y hs K (al rest B)→dH av B→bA c B a' w'→Kw a' w'):if Region.wanted o (yielded bg a.tmps) then o.wpIn c.bh 9 c.P a w Kw Q else (∀ f,o.about c.P w a.eval=some f→c.bh.fn f)∧Kw (a.put o.dst undef) w:=by
 obtain ⟨h1,h2,h3,h4⟩:=nB hg;have step:bI c.P c.Y hs K (aU A g.dst g.op rest (al rest))→o.wpIn c.bh 9 c.P a w Kw Q:=fun h =>
  rH h1 h2.symm (by rw[h2];exact h3) (bI.one (Y:=c.Y) hi ho.1 ho.2 h) hs' (fun B a' w' hw hs2=>by
   cases hw with
   |done hk=>exact hK B a' w' hk.1 hk.2 hs2)
 simp only[al] at hwp;rcases h4 with ⟨h5,h6⟩ | ⟨j,b,t,h5,h6,h7⟩
 ·rw[h6] at hwp;have hw:Region.wanted o (yielded bg a.tmps)=true:=by simp[Region.wanted,h5]
  rw[hw,if_pos rfl];exact step hwp
 ·rw[h7] at hwp;simp only at hwp;split at hwp
  ·rename_i b' hb';rw[rM hs' h5 h6 hb'];split at hwp
   ·rename_i hbb;subst hbb;simp only[BEq.rfl,if_true];exact step hwp
   ·rename_i hbb;have:(b'==b)=false:=by simpa using hbb
    rw[this];simp only[Z7,if_false];exact ⟨fun f _=>kN c f,hK _ _ _ hwp (hi.put (fun _=>rfl) fun _ _ _ _=>rfl) (by rw[h2];exact hs'.lO h3)⟩
  ·rename_i hb';rw[rN hs' h5 h6 hb'];simp only[Z7,if_false];exact ⟨fun f _=>kN c f,hK _ _ _ hwp (hi.put (fun _=>rfl) fun _ _ _ _=>rfl) (by rw[h2];exact hs'.lO h3)⟩
  ·cases hwp
theorem FF{K:ab→Prop}{fs:List FuncId}{av:ea}{bg:Array Oper}{gs:List ar}{σ:List Nat}{Q:Exit→Act→World→Prop}(hQ:∀ B a w,K B→bA c B a w→Q .normal a w)(hgs:fi c.P c.n bg bg.toList=some gs)(hd:xf fs av bg.toList gs σ) :
  ∀ (fuel:Nat) (listed:Array Bool) (A:ab) (a:Act) (w:World),listed.size=bg.size→(∀ i o,bg.toList[i]?=some o→listed.getD i false=true→∀ k∈dI o,listed.getD k false=true)→(gX σ listed).length≤fuel →
   dH av A→bI c.P c.Y fs K (al (mM gs σ listed) A)→bA c A a w→wpAnyIn c.bh 9 c.P .any bg Q fuel listed a w:=by
 obtain ⟨hlen,hat⟩:=lx hgs;have onOf_mem:∀ (o:Oper) (e:Edge),e∈o.after→Region.binds .any e=true→e.on∈dI o:=fun o e he hb=>by
  simp only[dI,zz1,List.mem_filter];exact ⟨e,⟨by simpa using he,hb⟩,rfl⟩
 have of_onOf:∀ (o:Oper) (k:Nat),k∈dI o→∃ e∈o.after,Region.binds .any e=true∧e.on=k:=fun o k hk=>by
  simp only[dI,zz1,List.mem_filter] at hk;obtain ⟨e,⟨h1,h2⟩,h3⟩:=hk;exact ⟨e,by simpa using h1,h2,h3⟩
 have hgl:gs.length=bg.size:=by rw[hlen,zz5]
 have last:∀ (listed:Array Bool) (A:ab) (a:Act) (w:World),listed.size=bg.size→Region.ready .any bg listed=[]→bI c.P c.Y fs K (al (mM gs σ listed) A)→bA c A a w→Q .normal a w:=by
  intro listed A a w hsz hr hwp hs;have hnone:gX σ listed=[]:=by
   have all:∀ n,∀ i,i<n→i<bg.size→listed.getD i true=true:=by
    intro n
    induction n with
    |zero=>intro i hi;omega
    |succ n ih =>
     intro i hi his;cases hb:listed.getD i true with
     |true=>rfl
     |false =>
      exfalso
      have ho:bg[i]?=some bg[i]:=Array.getElem?_eq_getElem his;have:i∈Region.ready .any bg listed:=mem_ready.2 ⟨hb,bg[i],ho,fun e he hbd=>by
       have hlt:=hd.kD i bg[i] (by simp) e.on (onOf_mem _ e he hbd);have h1:=ih e.on (by omega) (by omega);have h2:e.on<listed.size:=by omega
       simpa[Array.getD_eq_getD_getElem?,h2] using h1⟩
      rw[hr] at this;cases this
   simp only[gX];refine List.filter_eq_nil_iff.2 fun i hi =>?_;have:=all (i+1) i (by omega) (by rw[←hgl];exact hd.lt i hi);simp only[this,Bool.not_true,Z7,not_false_eq_true]
  simp only[mM,hnone,zz0,al] at hwp;cases hwp with
  |done hk=>exact hQ A a w hk hs
 intro fuel
 induction fuel with
 |zero =>
  intro listed A a w hsz hcl hcnt hinv hwp hs;have hnone:gX σ listed=[]:=List.length_eq_zero_iff.1 (by omega);have hr:Region.ready .any bg listed=[]:=by
   refine List.eq_nil_iff_forall_not_mem.2 fun i hi =>?_;obtain ⟨h1,o,ho,_⟩:=mem_ready.1 hi;have:i∈gX σ listed:=by
    simp only[gX,List.mem_filter,h1,Bool.not_false,and_true];exact hd.all i (by rw[hgl];exact (Y3.1 ho).1)
   rw[hnone] at this;cases this
  exact ⟨hr,last listed A a w hsz hr hwp hs⟩
 |succ fuel ih =>
  intro listed A a w hsz hcl hcnt hinv hwp hs;refine ⟨fun hr=>last listed A a w hsz hr hwp hs,fun i hi =>?_⟩;obtain ⟨hun,o,ho,hall⟩:=mem_ready.1 hi;have hin:i<bg.size:=(Y3.1 ho).1;obtain ⟨s1,s2,hσ,e1,e2⟩:=WN hd.Vb (hd.all i (by omega)) (by omega) hun;have hol:bg.toList[i]?=some o:=by simpa using ho
  obtain ⟨g,hgi,hcg⟩:=hat i o hol;have hon:∀ k∈dI o,listed.getD k false=true:=fun k hk=>by
   obtain ⟨e,h1,h2,h3⟩:=of_onOf o k hk;exact h3▸hall e h1 h2
  have hgd:gs.getD i default=g:=by simp[Y7,hgi]
  have hwp':bI c.P c.Y fs K (al (g::mM gs σ (listed.setIfInBounds i true)) A):=by
   simp only[mM,e1,zz8,Z4,hgd] at hwp;simp only[mM,e2,zz8];refine bI.oY hinv (fun j hj =>?_) hwp;obtain ⟨k,hk,rfl⟩:=zz1.1 hj;obtain ⟨hk1,hk2⟩:=List.mem_filter.1 hk;have:=hd.u2 (fun k=>listed.getD k false=true) hcl s1 i s2 o hσ hol hon k hk1 (by
    have hks:k<listed.size:=by
     have:=hd.lt k (by rw[hσ];exact List.mem_append_left _ hk1);omega
    simp[Array.getD_eq_getD_getElem?,hks] at hk2 ⊢;exact hk2)
   rw[hgd] at this;refine ⟨this,(hd.ok _ ?_).2⟩;have hkl:=hd.lt k (by rw[hσ];exact List.mem_append_left _ hk1);rw[Y7,Y4 hkl];exact List.getElem_mem _
  unfold wpOpIn;rw[ho];refine SP hcg hinv (hd.ok g (List.mem_of_getElem? hgi)) hwp' hs fun B a' w' hw hiB hs'=>ih _ B a' w' (by simpa using hsz) ?_ ?_ hiB hw hs'
  ·intro m om hom hm k hk;by_cases hmi:m=i
   ·subst hmi;rw[hol,v6] at hom;subst hom;exact getD_set_true (hon k hk)
   ·rw[getD_set_ne false (Ne.symm hmi)] at hm;exact getD_set_true (hcl m om hom hm k hk)
  ·have:(gX σ listed).length=(gX σ (listed.setIfInBounds i true)).length+1:=by
    rw[e1,e2];simp;omega
   omega
def j9(σ:List Nat)(gs:List ar):List ar:=σ.map fun i=>gs.getD i default
theorem U.WK{Q:Exit→ab→Prop}{A:ab}{on:List (List Nat)}{gs:List ar}(hs:List FuncId)(av:ea)(cl σ:List Nat)(hd:sC hs av on gs cl σ=true)(hi:dH av A)(h:∀ K:ab→Prop,(∀ B,Q .normal B→K B)→bI c.P c.Y hs K (al (j9 σ gs) A)):U c (.bX (some on) gs) Q A:=by
 intro code hc a w hs';cases code <;>simp only[dN] at hc <;>try (first | (cases hc;done) | ((repeat' split at hc) <;>cases hc;done))
 rename_i id bg draw;split at hc
 ·rename_i gs' hgs;split at hc
  case isFalse=>cases hc
  rename_i hok;simp only[v6,bj.bX.injEq] at hc;obtain ⟨he,rfl⟩:=hc;cases draw with
  |false=>cases he
  |true =>
   simp only[cond_true,v6] at he;subst he;simp only[Bool.not_true,Bool.false_or] at hok;have hp:=Wg (lx hgs).1 hd;refine wpIn_region_any hok (FF (K:=Q .normal) (fun B a w hk hs=>⟨B,hk,hs⟩) hgs hp bg.size (Array.replicate bg.size false) A a _ (by simp) ?_ ?_ hi ?_ ?_)
   ·intro i o _ h
    exfalso
    simp only[Array.getD_eq_getD_getElem?,Array.getElem?_replicate] at h;split at h <;>simp at h
   ·refine Nat.le_trans (List.length_filter_le _ _) ?_;rw[hp.len,(lx hgs).1,zz5];exact Z5 _
   ·have hall:gX σ (Array.replicate bg.size false)=σ:=by
     simp only[gX];refine List.filter_eq_self.2 fun i hi =>?_;have h1:=hp.lt i hi;rw[(lx hgs).1,zz5] at h1;simp[h1]
    simp only[mM,hall];exact h _ fun _ hb=>hb
   ·obtain ⟨D,E,hs'⟩:=hs';exact ⟨D,E,hs'.grow (w' := { w with drawn:=w.drawn+1 }) ⟨rfl,rfl,rfl,Z5 _,fun _ _=>rfl⟩ (fun _ _ h=>h) (fun _ _ h _=>h) (fun b o h=>hs'.cL b o h)⟩
 ·cases hc
def jv(ts:List (Nat×I)):ea→Prop
 | []=>True
 |(s,ns)::av=>(b9 ts s).only (fun n=>ns.contains n)=true∧jv ts av
theorem dH.of{ts:List (Nat×I)}{os:List (Nat×ai)}{av:ea}(h:jv ts av):dH av (aw ts os):=by
 intro s ns hn;simp only[aw]
 induction av with
 |nil=>cases hn
 |cons q av ih =>
  obtain ⟨s',ns'⟩:=q;simp only[jv] at h;simp only[gE,List.find?_cons] at hn;split at hn
  ·rename_i e;simp only[Y1,v6] at hn;simp only[beq_iff_eq] at e;subst e hn;exact h.1
  ·exact ih h.2 hn
end
end Go.Abs
namespace Go.Abs
open Go Go.RowKit
open Enc (enc)
theorem Xh{P:Program}(w:World)(tS tR e:TypeId)(ht:P.underlying tS=some (.slice e))(size:Nat)(hz:∀ w,(Go.sizeOf e).run P w=.ok size w)
  (a b:Addr) (la ca lb cb:Nat) (hne:a.block≠b.block) (tA tB:TypeId) (kA kB:Nat) (hsa:w.shape? a.block=some (tA,kA+1)) (hsb:w.shape? b.block=some (tB,kB+1)) (hfb:w.frozen? b=false) (hfe:w.frozen? { block:=b.block,off:=kB+1 } = false) :
  (Extern.SlicesOverlaps.overlaps #[tS,tS] #[tR] #[.slice (some a) la ca,.slice (some b) lb cb]).run P w=.ok (.bool false) w:=by
 have hnb:(a.block != b.block)=true:=by simpa using hne
 have hnb':(a.block==b.block)=false:=by simpa using hne
 change Sem.run P (α:=Value) (do
  let some t := (#[tS, tS] : Array TypeId)[0]? | stuck "slices.overlaps: no parameter types"
  let .slice elem ← underlying t | stuck "slices.overlaps: slice type expected"
  let size ←sizeOf elem
  match (some a:Option Addr),(some b:Option Addr) with
  |some a,some b =>
   if la=0∨lb=0∨size=0 then pure (Value.bool false)
   else if a.block != b.block&&(←frozen a)&&(←frozen b) then unsupported .addressObserved
   else do
    if a.block != b.block then do
     noView a;noView b
     if ← mayBeOne a b then return Value.bool ((← choose (.extern "sameAddr.stringBytes" 2)) == 1)
    pure (Value.bool (a.block==b.block&&a.off<b.off+lb*size&&b.off<a.off+la*size))
  |_,_=>pure (Value.bool false)) w=_
 by_cases h0:la=0∨lb=0∨size=0
 ·simp[run_underlying ht,hz,h0]
 ·cases hfa:w.frozen? a <;>cases hfk:w.frozen? { block:=a.block,off:=kA+1 } <;>
   simp[run_underlying ht,hz,h0,hnb,hnb',frozen,noView,viewAt,mayBeOne,stringish,shape,Sem.run,hsa,hsb,hfa,hfb,hfe,hfk]
theorem Dt{P:Program}(w:World)(tS tR e:TypeId)(ht:P.underlying tS=some (.slice e))(size:Nat)(hz:∀ w,(Go.sizeOf e).run P w=.ok size w)(a:Option Addr)(b:Addr)(ca lb cb:Nat) :
  (Extern.SlicesOverlaps.overlaps #[tS,tS] #[tR] #[.slice a 0 ca,.slice (some b) lb cb]).run P w=.ok (.bool false) w:=by
 cases a with
 |none =>
  change Sem.run P (α:=Value) (do
   let some t := (#[tS, tS] : Array TypeId)[0]? | stuck "slices.overlaps: no parameter types"
   let .slice elem ← underlying t | stuck "slices.overlaps: slice type expected"
   let size ←sizeOf elem
   pure (Value.bool false)) w=_
  simp[run_underlying ht,hz]
 |some a =>
  change Sem.run P (α:=Value) (do
   let some t := (#[tS, tS] : Array TypeId)[0]? | stuck "slices.overlaps: no parameter types"
   let .slice elem ← underlying t | stuck "slices.overlaps: slice type expected"
   let size ←sizeOf elem
   if (0:Nat)=0∨lb=0∨size=0 then pure (Value.bool false)
   else if a.block != b.block&&(←frozen a)&&(←frozen b) then unsupported .addressObserved
   else do
    if a.block != b.block then do
     noView a;noView b
     if ← mayBeOne a b then return Value.bool ((← choose (.extern "sameAddr.stringBytes" 2)) == 1)
    pure (Value.bool (a.block==b.block&&a.off<b.off+lb*size&&b.off<a.off+0*size))) w=_
  simp[run_underlying ht,hz]
theorem Xw{w:World}{b o:Nat}{v:Value}(h:w.cell? ⟨b,o,none⟩=some v):∃ t k,w.shape? b=some (t,k+1):=by
 simp only[World.cell?] at h;cases hb:w.heap[b]? with
 |none=>rw[hb] at h;cases h
 |some ob =>
  rw[hb] at h;cases ob with
  |cells cs T fr =>
   simp only at h;have hlt:o<cs.size:=(Y3.1 (by simpa using h)).1;exact ⟨T,cs.size-1,by simp only[World.shape?,hb];congr 2;omega⟩
  |_=>cases h
theorem Lv{α:Type}[Enc α]{xs:List α}(h:xs≠[])(hs:(Enc.aK α).AI=false):(I.agg (xs.map Enc.enc)).aK.flat=false:=by
 cases xs with
 |nil=>exact absurd rfl h
 |cons x xs=>simp only[Z4,I.aK,I.cK,bL.flat,List.all_cons,Enc.iv,hs,Bool.false_and]
theorem X1 {P : Program} {f : FuncId} {fn : Func} {tS tR e : TypeId} (hf : P.funcs[f]? = some fn) (hname : (fn.name == "runtime.NumGoroutine") = false) (hb : fn.body.isNone = true) (hn : Extern.findNext fn = none) (he : Extern.find fn = some (Extern.SlicesOverlaps.overlaps #[tS, tS] #[tR]))
  (ht:P.underlying tS=some (.slice e)) (hi:(P.info? e).isSome=true) {A:ab} {n sz sz' lo k:Nat} {p:List Nat} {y:I} {es fs:List I} (hA:A.o n=some (.box y)) (hat:y.at p=some (.agg fs)) (hy:y.size≠0) (hsz:sz'≠0) (hfl:y.aK.flat=false):xi P A f [.slice sz' es,.view n p sz lo k] (.bool false):=by
 intro c a w D E vs hP hs hargs;subst hP;obtain ⟨i,hi⟩:=Y6.1 hi;have hz:∀ w,(Go.sizeOf e).run c.P w=.ok i.size w:=fun w=>by simp[sizeOf,typeInfo,hi]
 cases hargs with
 |cons h1 hrest =>
  cases hrest with
  |cons h2 hnil =>
   cases hnil;rename_i v1 v2;refine ⟨.bool false,?_,j4 false⟩;rw[run_callFunc_extern hf hname hb hn he];obtain ⟨ad,cap,rfl,c1,c2,c3,c4⟩:=ke h1;obtain ⟨y',b,cs,T,off,d1,d2,d3,q1,q2,q3,q4,q5,q6,q7,q8,q9,q10,q11,q12,rfl⟩:=hs.view (fs:=fs) h2 (by simp only[bO,hA,hat]);rw[hA] at q1;simp only[v6,ai.box.injEq] at q1;subst q1;rcases c3 with rfl | ⟨b1,off1,cs1,rfl,r1,ir⟩
   ·rw[zy1,Dt w tS tR e ht i.size hz];rfl
   ·cases es with
    |nil=>rw[zy1,Dt w tS tR e ht i.size hz];rfl
    |cons e0 es =>
     have hl:=az.length _ _ ir;have he0:=c4 e0 (by simp);have hpos:0<cs1.length:=by rw[hl];simp only[I.sizes];omega
     have hc:=r1 0 cs1[0] (Y4 hpos);obtain ⟨tA,kA,hsa⟩:=Xw hc.1;have ho:=hs.bz n;rw[hA] at ho;obtain ⟨b',cs',T',k1,k2,k3,k4,k5⟩:=ho;rw[q2] at k1;simp only[v6,br.aB.injEq,and_true] at k1;subst k1;have hne:b1≠b:=fun e1=>k5 _ (e1▸hc.2);have hcs:cs.size≠0:=by
      have:=ae.length _ _ q9;rw[zz5] at this;omega
     replace q3:=q3.plain hfl
     obtain ⟨kB,hkB⟩:∃ kB,cs.size=kB+1:=⟨cs.size-1,by omega⟩
     rw[Xh w tS tR e ht i.size hz ⟨b1,off1,none⟩ ⟨b,off+lo*sz,none⟩ _ _ _ _ hne tA T kA kB hsa (by simp only[World.shape?,q3,hkB]) (by simp[World.frozen?,q3]) (by simp[World.frozen?,q3])];rfl
noncomputable def tH(A:ab)(d:Option Nat)(esz bytes:Nat)(z s:I)(rest:List ar):I→bV
 | .int _ m=>oS A d esz bytes z m.toNat s (cO A esz s) (al rest)
 |_=>.fail
theorem Vi(A:ab)(d:Option Nat)(rest:List ar)(e esz bytes:Nat)(z:I)(s n:au):bm A d (.jj e esz bytes z s n) rest=tH A d esz bytes z (af A s) rest (af A n):=by
 simp only[bm,aU];cases af A n <;>rfl
theorem VT(A:ab)(d:Option Nat)(rest:List ar)(f:FuncId)(args:List au):bm A d (.gv f args) rest=.gv f (args.map (af A)) d rest A:=rfl
def qW(A:ab):I→Option I
 | .nils _ | .c0 _=>some (.int .i64 ((0:Nat):Int))
 | .view n p _ lo _=>match dX (dx p (A.o n)) with
  |some fs=>some (.int .i64 ((fs.length-lo:Nat):Int))
  |none=>none
 |_=>none
theorem Vp(A:ab)(d:Option Nat)(rest:List ar)(x:au):bm A d (.cap x) rest=b8 (qW A (af A x)) (cE d rest A):=by
 simp only[bm,aU,aT];cases af A x <;>try rfl
 rename_i n p sz l0 k;simp only[qW,jq,ft];cases dx p (A.o n) with
 |none=>rfl
 |some c=>cases c <;>rfl
theorem lJ(A:ab)(d:Option Nat)(rest:List ar)(esz:Nat)(x y:au):bm A d (.fP esz x y) rest=jS A d esz (al rest) (af A x) (jK A esz (af A y)):=rfl
section
variable {α:Type} [Enc α] {P:Program} {Y:Value→List I→List (Nat×ai)→b6→Prop} {K:ab→Prop} {A:ab} {rest:List ar} {esz bytes:Nat}
theorem HI{n lo k sz:Nat}{xs:List α}(ho:A.o n=some (.box (.agg (xs.map enc)))):qW A (.view n [] sz lo k)=some (.int .i64 ((xs.length-lo:Nat):Int)):=by
 have h2:(I.agg (xs.map (enc (α:=α)))).at []=some (.agg (xs.map enc)):=rfl;simp only[qW,dx,ho,h2,dX,I.cZ,Z2]
theorem nc{n lo k:Nat}{xs:List α}(ho:A.o n=some (.box (.agg (xs.map enc))))(h:lo+k≤xs.length):cO A esz (.view n [] esz lo k)=some (((xs.drop lo).take k).map enc):=by
 have h1:bO A (.ptr n [])=some (.agg (xs.map enc)):=by simp only[bO,ho];rfl
 simp only[cO,h1,Z2];rw[if_pos ⟨h,trivial⟩,List.map_take,List.map_drop]
theorem DL{xs ys:List α}(h:xs.length=ys.length):I.cK (xs.map enc)=I.cK (ys.map enc):=by
 rw[wo,wo,h]
theorem nF{d:Option Nat}{n lo l c:Nat}{xs ys:List α}(ho:A.o n=some (.box (.agg (xs.map enc))))(hl:lo+l≤xs.length)(hc:min ys.length l=c) :
  jS A d esz (al rest) (.view n [] esz lo l) (some (ys.map enc))=al rest ((A.aO n (.box (.agg ((xs.take lo++(ys.take c++xs.drop (lo+c))).map enc)))).aM d (.int .i64 (c:Nat))):=by
 have h2:(I.agg (xs.map (enc (α:=α)))).at []=some (.agg (xs.map enc)):=rfl;have h1:I.cK ((ys.map (enc (α:=α))).take c)=I.cK (((xs.map (enc (α:=α))).drop lo).take c):=by
  rw[←List.map_take,←List.map_drop,←List.map_take];exact DL (by rw[Z6,Z6,List.length_drop];omega)
 have hc':min (ys.map (enc (α:=α))).length l=c:=by rw[Z2];exact hc
 simp only[jS,ho,h2,hc'];rw[if_pos ⟨rfl,by rw[hc'];exact h1⟩];have h3:((ys.map (enc (α:=α))).take c).length=c:=by rw[Z6,Z2];omega
 simp only[gZ,fD,h3,zz8,List.map_take,List.map_drop]
theorem aX.FT{d:Nat}(z:α)(hs:Enc.sz α=esz){n l m:Nat}{xs:List α}(ho:A.o n=some (.box (.agg (xs.map enc))))(hl:l≤xs.length)(hm:0<m)(hr:xs.length<l+m)(hf:A.o d=none)(hb:(l+m)*bytes≤140737488355328)(hml:l+m≤maxLen)
  (h:∀ q,aX P Y false K (al rest ((A.aO d (.box (.agg ((xs.take l++(List.replicate m z++List.replicate q z)).map enc)))).aM (some d) (.view d [] esz 0 (l+m))))):aX P Y false K (tH A (some d) esz bytes (enc z) (.view n [] esz 0 l) rest (.int .i64 (m:Nat))):=by
 have h1:=nc (A:=A) (esz:=esz) (lo:=0) (k:=l) ho (by omega);have h2:(I.agg (xs.map (enc (α:=α)))).at []=some (.agg (xs.map enc)):=rfl;have h4:(xs.take l).length=l:=by rw[Z6];omega
 simp only[tH,h1,List.drop_zero,oS,ho,h2,Z2,Int.toNat_natCast];rw[if_pos ⟨hm,by omega⟩];simp only[eN,hf,Z2,h4,List.length_replicate];rw[if_pos ⟨hb,hml⟩];refine .any rfl fun q _ =>?_;have:=h q;simp only[zz8,List.map_replicate] at this;exact this
theorem xp{d:Option Nat}{e:Nat}(z:I)(hs:Enc.sz α=esz){n l:Nat}{xs ys:List α}(hy:ys≠[])(ho:A.o n=some (.box (.agg (xs.map enc))))(hr:l+ys.length≤xs.length) :
  eO A d e esz bytes z (enc ys) rest (.view n [] esz 0 l)=al rest ((A.aO n (.box (.agg ((xs.take l++(ys++xs.drop (l+ys.length))).map enc)))).aM d (.view n [] esz 0 (l+ys.length))):=by
 have h1:=nc (A:=A) (esz:=esz) (lo:=0) (k:=l) ho (by omega);have h2:(I.agg (xs.map (enc (α:=α)))).at []=some (.agg (xs.map enc)):=rfl;have h3:I.cK (ys.map (enc (α:=α)))=I.cK (((xs.map (enc (α:=α))).drop l).take ys.length):=by
  rw[←List.map_drop,←List.map_take];exact DL (by rw[Z6,List.length_drop];omega)
 simp only[eO,h1,ki A esz ys hs,eb];rw[if_neg (by simpa using hy)];simp only[ho,h2,Z2,Z9];rw[if_pos hr,if_pos ⟨rfl,by rw[Z2,Z9];exact h3⟩];simp only[gZ,fD,Z2,zz8,List.map_take,List.map_drop]
theorem aX.FJ{d e:Nat}(z:α)(hs:Enc.sz α=esz){n l:Nat}{xs ys:List α}(hy:ys≠[])(ho:A.o n=some (.box (.agg (xs.map enc))))(hl:l≤xs.length)(hr:xs.length<l+ys.length)(hf:A.o d=none)(hb:(l+ys.length)*bytes≤140737488355328)(hml:l+ys.length≤maxLen)
  (h:∀ q,aX P Y false K (al rest ((A.aO d (.box (.agg ((xs.take l++(ys++List.replicate q z)).map enc)))).aM (some d) (.view d [] esz 0 (l+ys.length))))):aX P Y false K (eO A (some d) e esz bytes (enc z) (enc ys) rest (.view n [] esz 0 l)):=by
 have h1:=nc (A:=A) (esz:=esz) (lo:=0) (k:=l) ho (by omega);have h2:(I.agg (xs.map (enc (α:=α)))).at []=some (.agg (xs.map enc)):=rfl;have h4:(xs.take l).length=l:=by rw[Z6];omega
 simp only[eO,h1,List.drop_zero,ki A esz ys hs,eb];rw[if_neg (by simpa using hy)];simp only[ho,h2,Z2,Z9];rw[if_neg (by omega)];simp only[eN,hf,Z2,h4];rw[if_pos ⟨hb,hml⟩];refine .any rfl fun q _ =>?_;have:=h q;simp only[zz8,List.map_replicate] at this;exact this
theorem aX.FK{d e q0:Nat}(z:α){l:List α}(hs:Enc.sz α=esz)(hl:l≠[])(hf:A.o d=none)(hb:l.length*bytes≤140737488355328)(hml:l.length≤maxLen)
  (h:∀ m,aX P Y false K (al rest ((A.aO d (.box (.agg ((l++List.replicate m z).map enc)))).aM (some d) (.view d [] esz 0 l.length)))):aX P Y false K (eO A (some d) e esz bytes (enc z) (enc l) rest (.nils q0)):=by
 have hne:l.map (enc (α:=α))≠[]:=by simpa using hl
 have h1:cO A esz (.nils q0)=some []:=rfl;simp only[eO,h1,ki A esz l hs,eb,if_neg hne,eN,hf,zy1,Z9,Z2,if_pos (y6 hb hml),zz2];refine .any rfl fun m _ =>?_;have:=h m;simp only[zz8,List.map_replicate] at this;exact this
end
theorem Xz{n:Nat}{p:List Nat}{sz k total i:Nat}(h:i≤k)(hk:k≤total):∃ y,iw n p sz 0 k total (some (.int .i64 i)) none none=some y:=by
 simp only[iw,gf];rw[if_pos ⟨by omega,by omega,by omega⟩];split <;>exact ⟨_,rfl⟩
theorem Bb(k:Nat):b9 [] k=.cU:=rfl
def fV(av:List Nat):List (Nat×I)→List (Nat×I)
 | []=>[]
 |(s,v)::ts=>if av.contains s=true then (s,v)::fV av ts else fV av ts
theorem Up(av:List Nat):fV av []=[]:=rfl
theorem Uo(av:List Nat)(s:Nat)(v:I)(ts:List (Nat×I)):fV av ((s,v)::ts)=if av.contains s=true then (s,v)::fV av ts else fV av ts:=rfl
theorem Ba(av:List Nat)(t:Nat):∀ ts,b9 (fV av ts) t=.cU∨b9 (fV av ts) t=b9 ts t
 | []=>.inl rfl
 |(s,v)::ts=>by
  simp only[fV];have ih:=Ba av t ts;by_cases hs:av.contains s=true
  ·rw[if_pos hs];simp only[b9];split
   ·exact .inr rfl
   ·exact ih
  ·rw[if_neg hs];simp only[b9];split
   ·rename_i e;subst e
    left
    have:∀ ts,b9 (fV av ts) t=.cU:=by
     intro ts
     induction ts with
     |nil=>rfl
     |cons q ts ih2 =>
      obtain ⟨s',v'⟩:=q;simp only[fV];split
      ·rename_i h';simp only[b9];have:t≠s':=fun e=>hs (e▸h');rw[if_neg this];exact ih2
      ·exact ih2
    exact this ts
   ·exact ih
theorem U.pG(av:List Nat){c:cm}{x:bj}{Q:Exit→ab→Prop}{ts:List (Nat×I)}{os:List (Nat×ai)}(h:U c x Q (aw (fV av ts) os)):U c x Q (aw ts os):=by
 refine U.sub ?_ h;rintro cc a w ⟨D,E,hs⟩;refine ⟨D,E,hs.sz,hs.ec,fun t =>?_,hs.df,hs.cI,hs.cL,hs.bz,hs.cz,hs.dy,hs.eF,hs.cw,hs.eI,hs.fb⟩;simp only[aw];rcases Ba av t ts with e | e
 ·rw[e];simp[aP]
 ·rw[e];exact hs.dB t
theorem AL:(∀ av,fV av []=[])∧(∀ av s v ts,fV av ((s,v)::ts)=if av.contains s=true then (s,v)::fV av ts else fV av ts)∧(∀ (a:Nat) l b,(a::l).contains b=(b==a||l.contains b))∧(∀ b:Nat,([]:List Nat).contains b=false)∧(∀ b,(false||b)=b)∧(∀ b,(true||b)=true)∧(∀ b,(b||true)=true)∧(∀ b,(b||false)=b)∧((false=true)=False) :=
 ⟨Up,Uo,fun _ _ _=>List.contains_cons,fun _=>rfl,fun _=>rfl,fun _=>rfl,fun b=>by cases b <;>rfl,fun b=>by cases b <;>rfl,by simp⟩
end Go.Abs
namespace Go.Abs
open Go Go.RowKit
open Enc (enc)
def vi:Option ai→Option (List I×List I)
 |some (.b7 ks vs)=>some (ks,vs)
 |_=>none
noncomputable def vr(A:ab)(n:Nat)(rest:List ar):Option (List I×List I)→bV
 |some (ks,vs)=>al rest (A.aO n (.b7 ks vs))
 |none=>.fail
noncomputable def vq(A:ab)(n:Nat)(ty:bZ)(k v:I)(rest:List ar):Option ai→bV
 |some (.b7 ks vs)=>vr A n rest (pO ty k v ks vs)
 |_=>.fail
noncomputable def vp(A:ab)(ty:bZ)(k v:I)(rest:List ar):I→bV
 | .mref n=>vq A n ty k v rest (A.o n)
 |_=>.fail
noncomputable def vn(A:ab)(d:Nat)(rest:List ar):Option ai→bV
 |none=>al rest ((A.aO d (.b7 [] [])).put d (.mref d))
 |some _=>.fail
open Classical in
noncomputable def sg(A:ab)(d bytes:Nat)(z:I)(rest:List ar):I→bV
 | .int _ n=>if 0≤n∧n.toNat*bytes≤281474976710656∧n.toNat≤maxLen then al rest ((A.aO d (.box (.agg (List.replicate n.toNat z)))).put d (.view d [] 1 0 n.toNat)) else .fail
 |_=>.fail
noncomputable def sf(A:ab)(d bytes:Nat)(z n:I)(rest:List ar):Option ai→bV
 |none=>sg A d bytes z rest n
 |some _=>.fail
noncomputable def vW(A:ab)(d:Nat)(rest:List ar):I→bV
 | .cW ks vs=>al rest ((A.aO d (.it ks vs (List.range ks.length) none)).put d (.cR d))
 |_=>.fail
noncomputable def sR(A:ab)(d:Nat)(x:I)(rest:List ar):Option ai→bV
 |none=>vW A d rest x
 |some _=>.fail
def ux:Option ai→Option I
 |some (.it ks vs _ cur)=>rp ks vs cur
 |_=>none
def uw(A:ab):I→Option I
 | .cR n=>ux (A.o n)
 |_=>none
open Classical in
noncomputable def Bm(A:ab)(d:Option Nat)(n:Nat)(rest:List ar):Option ai→bV
 |some (.it ks vs left _)=>if left=[] then al rest (A.aM d (.tuple [.bool false])) else
   .any (fun i=>i∈left) fun i=>match ks[i]?,vs[i]? with
    |some kk,some x=>al rest ((A.aO n (.it ks vs (left.filter (· != i)) (some i))).aM d (.tuple [.bool true,kk,x]))
    |_,_=>.fail
 |_=>.fail
noncomputable def vv(A:ab)(d:Option Nat)(rest:List ar):I→bV
 | .cR n=>Bm A d n rest (A.o n)
 |_=>.fail
section
variable (d:Option Nat) (rest:List ar) (A:ab)
theorem VJ(x:au):bm A d (.nilC x) rest=b8 (my (af A x)) (cE d rest A):=rfl
theorem VN(neg:Bool)(x y:au):bm A d (.ptrE neg x y) rest=b8 (lN neg (gR (af A x)) (gR (af A y))) (cE d rest A):=rfl
theorem VD(ty:bZ)(z:I)(ok:Bool)(m k:au):bm A d (.lk ty z ok m k) rest=b8 (pJ ty z ok (af A k) (fH A (af A m))) (cE d rest A):=rfl
theorem UR(n:Nat):fH A (.mref n)=vi (A.o n):=by
 simp only[fH];cases A.o n with
 |none=>rfl
 |some y=>cases y <;>rfl
theorem VH(ty:bZ)(m k v:au):bm A none (.jA ty m k v) rest=vp A ty (af A k) (af A v) rest (af A m):=by
 simp only[bm,aU];cases af A m <;>rfl
theorem VF(d:Nat):bm A (some d) .j5 rest=vn A d rest (A.o d):=by
 simp only[bm,aU];cases A.o d <;>rfl
theorem VG(d e bytes:Nat)(z:I)(n:au):bm A (some d) (.jd e bytes z n) rest=sf A d bytes z (af A n) rest (A.o d):=by
 simp only[bm,aU];cases A.o d with
 |some _=>rfl
 |none=>simp only[sf];cases af A n <;>rfl
theorem VO(d:Nat)(x:au):bm A (some d) (.jI x) rest=sR A d (af A x) rest (A.o d):=by
 simp only[bm,aU];cases A.o d with
 |some _=>rfl
 |none=>simp only[sR];cases af A x <;>rfl
theorem Vs(x:au):bm A d (.ent x) rest=b8 (uw A (af A x)) (cE d rest A):=by
 simp only[bm,aU,aT];cases af A x <;>rfl
theorem VL(x:au):bm A d (.jB x) rest=vv A d rest (af A x):=by
 simp only[bm,aU];cases af A x <;>rfl
end
theorem r7 :
  (∀ d rest A x,bm A d (.nilC x) rest=b8 (my (af A x)) (cE d rest A))∧(∀ n p,my (.ptr n p)=some (.ptr n p))∧(∀ x,my (.ref x)=some (.ref x)) ∧
  (∀ d rest A neg x y,bm A d (.ptrE neg x y) rest=b8 (lN neg (gR (af A x)) (gR (af A y))) (cE d rest A))∧(gR .nilp=some true)∧(∀ n p,gR (.ptr n p)=some false)∧(∀ x,gR (.ref x)=some false) ∧
  (lN false (some true) (some true)=some (.bool true))∧(lN false (some false) (some true)=some (.bool false))∧(lN true (some true) (some true)=some (.bool false))∧(lN true (some false) (some true)=some (.bool true)) ∧
  (∀ d rest A ty z ok m k,bm A d (.lk ty z ok m k) rest=b8 (pJ ty z ok (af A k) (fH A (af A m))) (cE d rest A))∧(∀ A n,fH A (.mref n)=vi (A.o n))∧(∀ A ks vs,fH A (.cW ks vs)=some (ks,vs))∧(∀ ks vs,vi (some (.b7 ks vs))=some (ks,vs)) ∧
  (∀ ty z ok k ks vs,pJ ty z ok k (some (ks,vs))=pK ok (pL ty z k ks vs))∧(∀ v b,pK false (some (v,b))=some v)∧(∀ v b,pK true (some (v,b))=some (.tuple [v,.bool b])) ∧
  (∀ rest A ty m k v,bm A none (.jA ty m k v) rest=vp A ty (af A k) (af A v) rest (af A m))∧(∀ A ty k v rest n,vp A ty k v rest (.mref n)=vq A n ty k v rest (A.o n))∧(∀ A n ty k v rest ks vs,vq A n ty k v rest (some (.b7 ks vs))=vr A n rest (pO ty k v ks vs)) ∧
  (∀ A n rest ks vs,vr A n rest (some (ks,vs))=al rest (A.aO n (.b7 ks vs))) ∧
  (∀ rest A d,bm A (some d) .j5 rest=vn A d rest (A.o d))∧(∀ A d rest,vn A d rest none=al rest ((A.aO d (.b7 [] [])).put d (.mref d))) ∧
  (∀ rest A d e bytes z n,bm A (some d) (.jd e bytes z n) rest=sf A d bytes z (af A n) rest (A.o d))∧(∀ A d bytes z n rest,sf A d bytes z n rest none=sg A d bytes z rest n) ∧
  (∀ rest A d x,bm A (some d) (.jI x) rest=sR A d (af A x) rest (A.o d))∧(∀ A d x rest,sR A d x rest none=vW A d rest x)∧(∀ A d rest ks vs,vW A d rest (.cW ks vs)=al rest ((A.aO d (.it ks vs (List.range ks.length) none)).put d (.cR d))) ∧
  (∀ d rest A x,bm A d (.ent x) rest=b8 (uw A (af A x)) (cE d rest A))∧(∀ A n,uw A (.cR n)=ux (A.o n))∧(∀ ks vs l cur,ux (some (.it ks vs l cur))=rp ks vs cur) ∧
  (∀ d rest A x,bm A d (.jB x) rest=vv A d rest (af A x))∧(∀ A d rest n,vv A d rest (.cR n)=Bm A d n rest (A.o n)) :=
 ⟨VJ,fun _ _=>rfl,fun _=>rfl,VN,rfl,fun _ _=>rfl,fun _=>rfl,rfl,rfl,rfl,rfl,VD,UR,fun _ _ _=>rfl,fun _ _=>rfl,fun _ _ _ _ _ _=>rfl,fun _ _=>rfl,fun _ _=>rfl,
  fun rest A ty m k v=>VH rest A ty m k v,fun _ _ _ _ _ _=>rfl,fun _ _ _ _ _ _ _ _=>rfl,fun _ _ _ _ _=>rfl,fun rest A d=>VF rest A d,fun _ _ _=>rfl,fun rest A d e bytes z n=>VG rest A d e bytes z n,fun _ _ _ _ _ _=>rfl,
  fun rest A d x=>VO rest A d x,fun _ _ _ _=>rfl,fun _ _ _ _ _=>rfl,Vs,fun _ _=>rfl,fun _ _ _ _=>rfl,VL,fun _ _ _ _=>rfl⟩
theorem sh{A:ab}{d bytes:Nat}{z:I}{rest:List ar}{n:Nat}(h1:n*bytes≤281474976710656)(h2:n≤maxLen):sg A d bytes z rest (.int .i64 n)=al rest ((A.aO d (.box (.agg (List.replicate n z)))).put d (.view d [] 1 0 n)):=by
 simp only[sg,Int.toNat_natCast];rw[if_pos ⟨Int.natCast_nonneg n,h1,h2⟩]
section
variable {α:Type} [Enc α]
theorem D7{A:ab}{n i:Nat}{xs:List α}(v u:α){rest:List ar}(hA:Enc.gl α=false)(h:i<xs.length):dT A none n [i] (.agg (xs.map enc)) (enc v) rest (some (enc u))=al rest (A.aO n (.box (.agg ((xs.set i v).map enc)))):=by
 rw[eK (eY v) (by rw[KW,hA];rfl) ((eE v).trans (eE u).symm)];have h2:(xs.map (enc (α:=α)))[i]?=some (enc (xs[i])):=by simp[h]
 simp only[I.dz,h2,List.map_set]
end
theorem AK{m sz lo l i:Nat}{fs:List I}(h:i<l):ml m [] sz lo l sz (i:Int) (some fs)=some (.ptr m [lo+i]):=by rw[Ug h];rfl
theorem yY:(∀ {α:Type} [Enc α] (x:α),(enc x).bu=true)∧(∀ n p z lo k,(I.view n p z lo k).bu=false)∧(∀ n,(I.mref n).bu=false)∧(∀ n p,(I.ptr n p).bu=false)∧(∀ n k,(I.own n k).bu=false) :=
 ⟨@jU,fun _ _ _ _ _=>rfl,fun _=>rfl,fun _ _=>rfl,fun _ _=>rfl⟩
end Go.Abs
namespace Go.Abs
open Go Go.RowKit
def qX(on:List (List Nat)):List Nat:=on.foldl (fun acc ks=>acc++[nl acc ks]) []
def uq(d:Option (List (List Nat)))(gs:List ar):Bool:=match d with
 |none=>true
 |some on=>rm on gs (qX on)
section
variable {c:cm} {Q:Exit→ab→Prop} {A:ab} {d:Option (List (List Nat))} {on:List (List Nat)} {gs:List ar}
theorem U.gV(hd:uq d gs=true)(h:∀ K:ab→Prop,(∀ B,Q .normal B→K B)→aX c.P c.Y d.isSome K (al gs A)):U c (.bX d gs) Q A:=by
 cases d with
 |none=>exact U.bX (cl:=[]) rfl h
 |some on=>exact U.bX (cl:=qX on) hd h
theorem U.dP{y:bj}(hd:uq d gs=true)(h:∀ K:ab→Prop,(∀ B,U c y Q B→K B)→aX c.P c.Y d.isSome K (al gs A)):U c (.seq (.bX d gs) y) Q A :=
 U.seq (U.gV hd h)
theorem U.lP(hs:List FuncId)(av:ea)(σ:List Nat)(hd:sC hs av on gs (qX on) σ=true)(hi:dH av A)(h:∀ K:ab→Prop,(∀ B,Q .normal B→K B)→bI c.P c.Y hs K (al (j9 σ gs) A)):U c (.bX (some on) gs) Q A :=
 U.WK hs av (qX on) σ hd hi h
def fE(c:cm):bj→(Exit→ab→Prop)→ab→Prop
 | .seq x y,Q,A=>fE c x (cQ (fun B=>U c y Q B) Q) A
 | .block id x,Q,A=>fE c x (kF id Q) A
 | .skip,Q,A=>Q .normal A
 | .exit id,Q,A=>Q (.exit id) A
 | .ret,Q,A=>Q .ret A
 | .cond b x y,Q,A=>ay (af A b) (U c x Q A) (U c y Q A)
 |x,Q,A=>U c x Q A
def Ue:bj→Bool
 | .seq _ _ | .block _ _ | .skip | .exit _ | .ret | .cond _ _ _=>true
 |_=>false
theorem fE.tK:∀ (x:bj) {Q:Exit→ab→Prop} {A:ab},fE c x Q A→U c x Q A
 | .seq x y,_,_,h=>U.seq (fE.tK x h)
 | .block id x,_,_,h=>U.block (fE.tK x h)
 | .skip,_,_,h=>U.skip h
 | .exit _,_,_,h=>U.exit h
 | .ret,_,_,h=>U.ret h
 | .cond _ _ _,_,_,h=>U.gD h
 | .bX _ _,_,_,h | .loop _,_,_,h | .scope _,_,_,h | .label,_,_,h | .oV,_,_,h | .mS _ _ _ _,_,_,h=>h
theorem U.of{x:bj}(_:Ue x=true)(h:fE c x Q A):U c x Q A:=fE.tK x h
theorem aJ :
  (∀ c x y Q A,fE c (.seq x y) Q A=fE c x (cQ (fun B=>U c y Q B) Q) A)∧(∀ c id x Q A,fE c (.block id x) Q A=fE c x (kF id Q) A)∧(∀ c Q A,fE c .skip Q A=Q .normal A)∧(∀ c id Q A,fE c (.exit id) Q A=Q (.exit id) A)∧(∀ c Q A,fE c .ret Q A=Q .ret A) ∧
  (∀ c b x y Q A,fE c (.cond b x y) Q A=ay (af A b) (U c x Q A) (U c y Q A))∧(∀ c d gs Q A,fE c (.bX d gs) Q A=U c (.bX d gs) Q A)∧(∀ c x Q A,fE c (.loop x) Q A=U c (.loop x) Q A)∧(∀ c f ps x y Q A,fE c (.mS f ps x y) Q A=U c (.mS f ps x y) Q A) ∧
  (∀ k Q A,cQ k Q .normal A=k A)∧(∀ k Q A,cQ k Q .ret A=Q .ret A)∧(∀ k Q A i,cQ k Q (.exit i) A=Q (.exit i) A)∧(∀ i Q A,kF i Q .normal A=Q .normal A)∧(∀ i Q A,kF i Q .ret A=Q .ret A)∧(∀ i Q A j,kF i Q (.exit j) A=if j=i then Q .normal A else Q (.exit j) A) ∧
  (∀ p q,ay (.bool true) p q=p)∧(∀ p q,ay (.bool false) p q=q)∧(type_of% @AL) :=
 ⟨fun _ _ _ _ _=>rfl,fun _ _ _ _ _=>rfl,fun _ _ _=>rfl,fun _ _ _ _=>rfl,fun _ _ _=>rfl,fun _ _ _ _ _ _=>rfl,fun _ _ _ _ _=>rfl,fun _ _ _ _=>rfl,fun _ _ _ _ _ _ _=>rfl,fun _ _ _=>rfl,fun _ _ _=>rfl,fun _ _ _ _=>rfl,fun _ _ _=>rfl,fun _ _ _=>rfl,fun _ _ _ _=>rfl,
  fun p q=>by simp[ay],fun p q=>by simp[ay],AL⟩
theorem ay.aG{t:Bool}{p q:Prop}(h1:t=true→p)(h2:t=false→q):ay (.bool t) p q:=⟨h1,h2⟩
theorem U.aI{g:ar}{r:List ar}(hd:uq d gs=true)(e:gs=g::r)(h:∀ K:ab→Prop,(∀ B,Q .normal B→K B)→aX c.P c.Y d.isSome K (al (g::r) A)):U c (.bX d gs) Q A :=
 U.gV hd (e▸h)
theorem aX.aF(av:List Nat){P:Program}{Y:Value→List I→List (Nat×ai)→b6→Prop}{dr:Bool}{x:bj}{K:ab→Prop}{ts:List (Nat×I)}{os:List (Nat×ai)}(hK:∀ B,U c x Q B→K B)(h:U c x Q (aw (fV av ts) os)):aX P Y dr K (.done (aw ts os)) :=
 .done (hK _ (U.pG av h))
theorem bI.aF(av:List Nat){P:Program}{Y:Value→List I→List (Nat×ai)→b6→Prop}{hs:List FuncId}{x:bj}{K:ab→Prop}{ts:List (Nat×I)}{os:List (Nat×ai)}(hK:∀ B,U c x Q B→K B)(h:U c x Q (aw (fV av ts) os)):bI P Y hs K (.done (aw ts os)) :=
 .done (hK _ (U.pG av h))
end
section
variable {c:cm} {A:ab} {o:Oper}
theorem yM{P:Program}{m:Nat}{bg:Array Oper}{l:List Oper}{gs:List ar}(h:fi P m bg (o::l)=some gs):∃ g gs',gs=g::gs'∧kG P m bg o=some g∧fi P m bg l=some gs':=by
 simp only[fi] at h;split at h
 ·rename_i g gs' h1 h2;simp only[v6] at h;exact ⟨g,gs',h.symm,h1,h2⟩
 ·cases h
end
def sT(P:Program)(f:FuncId)(ch:List PanicEntry)(vs:Array Value)(w:World)(R:Ending→World→Prop):Prop :=
 Calls P f vs w fun e w'=>e=.panicked ch∧R (.returned (.tuple #[])) w'
theorem sT.mono{P:Program}{f:FuncId}{ch:List PanicEntry}{vs:Array Value}{w:World}{R R':Ending→World→Prop}(h:sT P f ch vs w R)(hr:∀ e w',R e w'→R' e w'):sT P f ch vs w R' :=
 Calls.mono h fun _ _ q=>⟨q.1,hr _ _ q.2⟩
def og(post:List (Nat×ai)→Prop):b6:=fun r os'=>r=.tuple []∧post os'
def oH(P:Program)(f:FuncId)(ch:List PanicEntry)(args:List I)(os:List (Nat×ai))(post:List (Nat×ai)→Prop):Prop :=
 dO P f=true∧lZ (sT P f ch) (fun w _ E=>eA P w (bQ E)) args os (og post)
def vI(ch:List PanicEntry)(post:List (Nat×ai)→Prop):Exit→ab→Prop
 | .panic ch',A=>ch'=ch∧iB [] (og post) A
 |_,_=>False
theorem AX{P:Program}{n:Nat}{w:World}{D:aD}{E:aN}{Y:Value→List I→List (Nat×ai)→b6→Prop}{post:List (Nat×ai)→Prop}{fn:Func}{A:ab}{D':aD}{E':aN}{ch:List PanicEntry}(h:iB [] (og post) A){R:World→Prop}(hR:∀ v w',kv w D E (og post) v w'→R w') :
  ∀ (ds:List Deferred) (a:Act) (w':World),a.defers=ds→aL ⟨P,w,D,n,bQ E,E,Y,none,none⟩ A a w' D' E'→LeavesInM Fence.wide 9 P fn a.tmps (fun e w'=>e=.panicked ch∧R w') ds (.panicking ch) w'
 | [],a,w',_,hs=>by
  obtain ⟨v,h1,h2⟩:=hs.rX (fn := { fn with results := #[] }) (rs:=[]) rfl h;exact ⟨rfl,hR v w' h2⟩
 |d::ds,a,w',hd,hs=>by
  obtain ⟨Bs,h1,_⟩:=hs.ec;rw[hd] at h1;cases Bs with
  |nil=>cases h1
  |cons B Bs =>
   simp only[Z4,Y9] at h1;obtain ⟨rfl,rfl⟩:=h1;obtain ⟨k1,k2⟩:=hs.yZ rfl hd;exact ⟨by simp,.inl ⟨B,_,rfl,run_takeDeferred k1,AX h hR _ { a with defers:=Bs.map _ } _ rfl k2⟩⟩
theorem UI{w:World}{D:aD}{E:aN}{post:List (Nat×ai)→Prop}{v:Value}{w':World}(h:kv w D E (og post) v w'):∃ v' D' E' r os',Ending.returned (.tuple #[])=.returned v'∧og post r os'∧aP w' D' E' r v'∧iR (fun b=>w.heap.size≤b∨bQ E b) w' D' E' (aH os') ∧
   er (fun b=>w.heap.size≤b∨bQ E b) w w'∧(∀ b o,D b o→D' b o)∧(∀ b o,D' b o→b<w'.heap.size)∧(∀ b o,D' b o→b<w.heap.size→¬ bQ E b→D b o) ∧
   (∀ n e,E n=some e→aC os' n=true→∃ e',E' n=some e'∧e.fo e')∧fM w D w':=by
 obtain ⟨D',E',r,os',h1,h2,h3⟩:=h;refine ⟨_,D',E',r,os',rfl,h1,?_,h3⟩;obtain ⟨rfl,_⟩:=h1;simp only[aP];exact ⟨[],by simp,by simp[ao]⟩
theorem oH.mk{P:Program}{f:FuncId}{fn:Func}{x:bj}{ch:List PanicEntry}{args:List I}{os:List (Nat×ai)}{post:List (Nat×ai)→Prop}(hf:P.funcs[f]?=some fn)(hcall:dO P f=true)(hc:(fn.body.bind (dN P fn.ntmps))=some x)
  (hn:args.length≤fn.ntmps) (hn2:fn.ntmps≤1000000) (hos:∀ m,aC os m=true→1000000≤m) (h:I.gu args→∀ (w:World) (D:aD) (E:aN),U ⟨P,w,D,fn.ntmps,bQ E,E,fu,none,none⟩ x (vI ch post) (aw (bD 0 args) os)):oH P f ch args os post:=by
 obtain ⟨body,hb,hc'⟩:=zy3.1 hc;refine ⟨hcall,fun w D E vs hl hD ho hv =>?_⟩;have hlen:=qi hv;have hsim:=wB (P:=P) (n:=fn.ntmps) (Y:=fu) hD ho hv (by omega) (fun m hm=>⟨Nat.le_trans hn2 (hos m hm),hos m hm⟩) (oE hl);refine (callsIn_wide (n:=9)).1 (callsIn_of_wp_marks hf hb trivial ?_);refine wpIn_mono (((h (ot _ _ hv) w D E).sub (ta args os)) body hc' _ w ⟨D,E,hsim⟩) ?_;rintro e a w' ⟨A,hq,D',E',hs⟩;cases e <;>simp only[vI] at hq
 obtain ⟨rfl,hq⟩:=hq;exact AX hq (fun v w' h=>UI h) a.defers a w' rfl hs
section
variable {c:cm} {A:ab} {Q:Exit→ab→Prop}
theorem rK{dr:Bool}{K:ab→Prop}{bg:Array Oper}{Q:Exit→Act→World→Prop}{l2:List Oper}(hQ:∀ B a w,K B→bA c B a w→wpListIn c.bh 9 c.P bg Q l2 a w):∀ (l:List Oper) (gs:List ar) (A:ab) (a:Act) (w:World),fi c.P c.n bg l=some gs→aX c.P c.Y dr K (al gs A) →
  bA c A a w→wpListIn c.bh 9 c.P bg Q (l++l2) a w
 | [],gs,A,a,w,hc,hwp,hs=>by
  simp only[fi,v6] at hc;subst hc;simp only[al] at hwp;cases hwp with
  |done hk=>exact hQ A a w hk hs
 |o::l,gs,A,a,w,hc,hwp,hs=>by
  simp only[fi] at hc;split at hc
  case h_2=>cases hc
  rename_i g gs' hg hgs;simp only[v6] at hc;subst hc;obtain ⟨h1,h2,h3,h4⟩:=nB hg;have step:aX c.P c.Y dr K (aU A g.dst g.op gs' (al gs'))→o.wpIn c.bh 9 c.P a w (wpListIn c.bh 9 c.P bg Q (l++l2)) Q:=fun h =>
   rH h1 h2.symm (by rw[h2];exact h3) h hs (fun B a' w' hw hs'=>rK hQ l gs' B a' w' hgs hw hs')
  simp only[Y2,wpListIn];simp only[al] at hwp;rcases h4 with ⟨h5,h6⟩ | ⟨j,b,t,h5,h6,h7⟩
  ·rw[h6] at hwp;have hw:Region.wanted o (yielded bg a.tmps)=true:=by simp[Region.wanted,h5]
   rw[hw,if_pos rfl];exact step hwp
  ·rw[h7] at hwp;simp only at hwp;split at hwp
   ·rename_i b' hb';rw[rM hs h5 h6 hb'];split at hwp
    ·rename_i hbb;subst hbb;simp only[BEq.rfl,if_true];exact step hwp
    ·rename_i hbb;have:(b'==b)=false:=by simpa using hbb
     rw[this];simp only[Z7,if_false];exact ⟨fun f _=>kN c f,rK hQ l gs' _ _ w hgs hwp (by rw[h2];exact hs.lO h3)⟩
   ·rename_i hb';rw[rN hs h5 h6 hb'];simp only[Z7,if_false];exact ⟨fun f _=>kN c f,rK hQ l gs' _ _ w hgs hwp (by rw[h2];exact hs.lO h3)⟩
   ·cases hwp
theorem yL{P:Program}{m:Nat}{bg:Array Oper}{g:ar}{gs2:List ar} : ∀ {l:List Oper} {gs1:List ar},fi P m bg l=some (gs1++g::gs2)→∃ l1 o l2,l=l1++o::l2∧fi P m bg l1=some gs1∧kG P m bg o=some g
 | [],gs1,h=>by simp[fi] at h
 |o::l,[],h=>by
  obtain ⟨g',gs',e,h1,h2⟩:=yM h;simp only[zz2,Y9] at e;obtain ⟨rfl,rfl⟩:=e;exact ⟨[],o,l,rfl,rfl,h1⟩
 |o::l,k::gs1,h=>by
  obtain ⟨g',gs',e,h1,h2⟩:=yM h;simp only[Y2,Y9] at e;obtain ⟨rfl,rfl⟩:=e;obtain ⟨l1,o',l2,rfl,q1,q2⟩:=yL h2;exact ⟨o::l1,o',l2,rfl,by simp only[fi,h1,q1],q2⟩
inductive oN (P:Program) (Q:Exit→ab→Prop) (f:FuncId) (avs:List I):ab→Prop where
 |mk {ts:List (Nat×I)} {os0:List (Nat×ai)} (aB:Bool) (ρ:List (Nat×Nat)) (os:List (Nat×ai)) (cargs:List I) (ch:List PanicEntry) (post:List (Nat×ai)→Prop):oH P f ch cargs os post→eM ρ os os0→fN aB (aw ts (dR (im ρ os) os0)) ρ os avs cargs →
  (∀ os',post os'→dG aB ρ os os0 (.tuple []) os')→(∀ os',post os'→Q (.panic ch) (aw ts (cY ρ os'++os0)))→oN P Q f avs (aw ts os0)
inductive lu (P:Program) (Q:Exit→ab→Prop):bq→ab→Prop where
 |call {f:FuncId} {args:List au} {A:ab} : oN P Q f (args.map (af A)) A→lu P Q (.call f args) A
 |eX {x:au} {args:List au} {f:Nat} {caps:List I} {A:ab} : af A x=.func f caps→oN P Q (jW f) (gz f (args.map (af A)) caps) A→lu P Q (.eX x args) A
 |j8 {x:au} {t:TypeId} {A:ab} : af A x=.iface t (.agg [])→Q (.panic [{ v:=.iface t (.agg #[]),recovered:=false }]) A→lu P Q (.prim .j8 [x]) A
theorem vJ{o:Oper}{g:bq}{f:FuncId}{avs:List I}{vs:List Value}{a:Act}{w:World}{D:aD}{E:aN}{Kw:Act→World→Prop}(hop0:cA c.P o=some g)(h:oN c.P Q f avs A)(hs:aL c A a w D E)(hall:dY (aP w D E) avs vs)
  (hrun:dO c.P f=true→(execOp a.eval o).run c.P w=.ok (.enter f vs.toArray) w):o.wpIn c.bh 9 c.P a w Kw (rZ c Q):=by
 cases h with
 |mk aB ρ os cargs ch post hspec hgv ha hb hrest =>
  have hu:=hspec.2.use hs aB (fun h=>h.mono) ⟨fun _ _=>hs.nV,fun _=>hs.nV⟩ hgv ha (fun r os' hp=>by obtain ⟨rfl,hp⟩:=hp;exact hb os' hp) hall;refine ⟨iS,?_⟩;rw[jh hop0,hrun hspec.1,Oper.uponIn_enter];refine ⟨uk c,yU (Calls.mono hu ?_)⟩;rintro e w' ⟨rfl,v,r,os',D2,E2,he,⟨rfl,hp⟩,hs',hv,_⟩;exact ⟨_,hrest os' hp,D2,E2,hs'⟩
theorem Wf{o:Oper}{g:bq}{a:Act}{w:World}{Kw:Act→World→Prop}(hop:cA c.P o=some g)(h:lu c.P Q g A)(hsim:bA c A a w):o.wpIn c.bh 9 c.P a w Kw (rZ c Q):=by
 have hop0:=hop;obtain ⟨D,E,hs⟩:=hsim;cases h with
 |call h =>
  unfold cA at hop;split at hop <;>try (first | (simp at hop;done) | ((repeat' split at hop) <;>simp at hop;done))
  rename_i f' xs ts ho;split at hop
  case isFalse=>simp at hop
  simp only[t7,bq.call.injEq] at hop;obtain ⟨ys,hys,rfl,rfl⟩:=hop;have e:xs.map a.eval=(xs.toList.map a.eval).toArray:=by apply Array.ext';simp
  refine vJ (vs:=xs.toList.map a.eval) hop0 h hs (jO hs xs.toList ts.toList ys hys) fun hc =>?_;simp only[execOp,ho,resolve,Act.eval,Deferred.ofValue,Sem.run_bind,Sem.run_pure,Result.andThen_ok,invoke,Array.append_empty,Array.empty_append,lQ hc];rw[←e]
 |eX hx h =>
  rename_i x args f caps;unfold cA at hop;split at hop <;>try (first | (simp at hop;done) | ((repeat' split at hop) <;>simp at hop;done))
  rename_i y xs ts _ ho;split at hop
  case h_2=>cases hop
  rename_i y' ys h1 h2;simp only[v6,bq.eX.injEq] at hop;obtain ⟨rfl,rfl⟩:=hop;have hv:=bn hs h1;rw[hx] at hv;obtain ⟨cs,q1,q2⟩:=hv;simp only[ae] at q2;obtain ⟨vs,q3,q4⟩:=q2;have hval:a.eval y=iH f vs:=by simpa[aW,I.isAgg,q3] using q1.symm
  have e:xs.map a.eval=(xs.toList.map a.eval).toArray:=by apply Array.ext';simp
  have hargs:=jO hs xs.toList ts.toList ys h2;rcases Nat.lt_or_ge f 1000000 with hf | hf
  ·rw[uF hf,uE hf] at h;rw[lC hf] at hval;refine vJ (vs:=xs.toList.map a.eval++vs) hop0 h hs (hargs.append (oo q4)) fun hc =>?_;simp only[execOp,ho,resolve,hval,Deferred.ofValue,Sem.run_bind,Sem.run_pure,Result.andThen_ok,invoke,Array.empty_append,lQ hc];rw[e];simp
  ·obtain ⟨g,rfl⟩:∃ g:Nat,f=g+1000000:=⟨Nat.sub f 1000000,(Nat.sub_add_cancel hf).symm⟩
   rw[zI,zH] at h;rw[pq] at hval;refine vJ (vs:=vs++xs.toList.map a.eval) hop0 h hs ((oo q4).append hargs) fun hc =>?_;simp only[execOp,ho,resolve,hval,Deferred.ofValue,Sem.run_bind,Sem.run_pure,Result.andThen_ok,invoke,Array.append_empty,lQ hc];rw[e];simp

 |j8 hx hq =>
  rename_i x t;unfold cA at hop;split at hop <;>try (first | (simp at hop;done) | ((repeat' split at hop) <;>simp at hop;done))
  rename_i x0 ho;simp only[t7,bq.prim.injEq,Y9,and_true,true_and] at hop;obtain ⟨y,hy,rfl⟩:=hop;have hv:=bn hs hy;rw[hx] at hv;obtain ⟨cs,q1,q2⟩:=hv;simp only[ae] at q2;obtain ⟨u,cs',q3,q4,q5⟩:=q2;simp only[az] at q5;subst q5;have hu:u=.agg #[]:=by simpa[aW,I.isAgg] using q4
  have hval:a.eval x0=.iface t (.agg #[]):=by simpa[aW,I.isAgg,q3,hu] using q1.symm
  have hrun:(execOp a.eval o).run c.P w=.halt (.panic (.iface t (.agg #[]))) w:=by simp[execOp,ho,hval,Instr.panic,goPanic]
  refine ⟨iS,?_⟩;rw[jh hop0,hrun,Oper.uponIn_panic];exact ⟨A,hq,D,E,hs⟩
theorem U.WJ{gs:List ar}(k:Nat){g:bq}{dst:Option Nat}(hk:gs=gs.take k++⟨dst,g,none⟩::gs.drop (k+1))(h:∀ K:ab→Prop,(∀ B,lu c.P Q g B→K B)→aX c.P c.Y false K (al (gs.take k) A)):U c (.bX none gs) Q A:=by
 intro code hc a w hs;cases code <;>simp only[dN] at hc <;>try (first | (cases hc;done) | ((repeat' split at hc) <;>cases hc;done))
 rename_i id bg draw;split at hc
 case h_2=>cases hc
 rename_i gs' hgs;split at hc
 case isFalse=>cases hc
 simp only[v6,bj.bX.injEq] at hc;obtain ⟨hdr,rfl⟩:=hc;cases draw with
 |true=>simp at hdr
 |false =>
  refine wpIn_region_list ?_;rw[hk] at hgs;obtain ⟨l1,o,l2,hl,h1,h2⟩:=yL hgs;rw[hl];refine rK (K:=lu c.P Q g) (fun B a' w' hp hs' =>?_) l1 _ A a w h1 (h _ fun _ hb=>hb) hs;obtain ⟨q1,q2,q3,q4⟩:=nB h2;have wn:Region.wanted o (yielded bg a'.tmps)=true:=by
   rcases q4 with ⟨a5,_⟩ | ⟨_,_,_,_,_,a5⟩
   ·simp[Region.wanted,a5]
   ·simp at a5
  simp only[wpListIn,wn,if_true];exact Wf q1 hp hs'
theorem U.kV{gs gs1 gs2:List ar}{g:bq}{dst:Option Nat}(e:gs=gs1++⟨dst,g,none⟩::gs2)(h:∀ K:ab→Prop,(∀ B,lu c.P Q g B→K B)→aX c.P c.Y false K (al gs1 A)):U c (.bX none gs) Q A:=by
 subst e;refine U.WJ gs1.length (g:=g) (dst:=dst) ?_ fun K hK =>?_
 ·simp
 ·simpa using h K hK
end
section
variable {P:Program} {n:Nat} {w:World} {D:aD} {E:aN} {rs:List bt} {post:b6} {fn:Func} {ch:List PanicEntry} {f:FuncId} {N b:Nat}
theorem nW{bh:Fence}{m:Nat}{tmps:Array Value}{R R':Ending→World→Prop}(hr:∀ e w,R e w→R' e w):∀ (ds:List Deferred) (u:FrameMode) (w:World),LeavesInM bh m P fn tmps R ds u w→LeavesInM bh m P fn tmps R' ds u w
 | [],u,w,h=>by
  cases u with
  |run=>exact h
  |returning=>obtain ⟨v,h1,h2⟩:=h;exact ⟨v,h1,hr _ _ h2⟩
  |panicking c=>exact hr _ _ h
 |d::ds,u,w,h=>by
  obtain ⟨h1,h2⟩:=h;refine ⟨h1,?_⟩;rcases h2 with ⟨r,w',k1,k2,k3⟩ | ⟨k1,fv,cap,g,args,k2,k3,k4,k5⟩
  ·exact .inl ⟨r,w',k1,k2,nW hr ds u w' k3⟩
  ·refine .inr ⟨k1,fv,cap,g,args,k2,k3,k4,k5.mono fun e u' w' h =>?_⟩;cases e with
   |returned v=>exact nW hr ds _ w' h
   |panicked c=>exact nW hr ds _ w' h
   |outgrown=>exact hr _ _ h
def qh(P:Program)(fn:Func)(rest:Code)(slots:List Nat)(a:Act)(vs:Array Value)(w:World)(R:Ending→World→Prop):Prop :=
 vs.toList=slots.map (fun t=>a.tmps.getD t undef)→rest.wpIn Fence.wide 9 P (bodyPostM Fence.wide 9 P fn R) a w
theorem qh.mono{rest:Code}{slots:List Nat}{a:Act}{vs:Array Value}{w:World}{R R':Ending→World→Prop}(h:qh P fn rest slots a vs w R)(hr:∀ e w,R e w→R' e w):qh P fn rest slots a vs w R':=fun hv=>by
 refine wpIn_mono (h hv) fun e a' w' q =>?_;cases e <;>simp only[bodyPostM] at q ⊢ <;>first
  |exact nW hr _ _ _ q
  |exact hr _ _ q
  |exact q
theorem Ek{w:World}{D:aD}{E:aN}(g:Nat→Value):∀ (slots:List Nat) (args:List I),ao w D E args (slots.map g)→∀ t,aP w D E (b9 (slots.zip args) t) (g t)
 | [],args,h,t=>by simp[b9,aP]
 |s::slots,[],h,t=>by simp[b9,aP]
 |s::slots,x::args,h,t=>by
  simp only[ao,Z4] at h;obtain ⟨v,rest,cs,e,h1,h2,h3⟩:=h;simp only[Y9] at e;obtain ⟨rfl,rfl⟩:=e;simp only[List.zip_cons_cons,b9];split
  ·rename_i hk;subst hk;exact fp h1 h2
  ·exact Ek g slots args h3 t
end
abbrev rf(P:Program)(w:World)(D:aD)(n:Nat)(E:aN)(b:Option (List Deferred)):cm:=⟨P,w,D,n,bQ E,E,fu,none,b⟩
theorem aL.UG{P:Program}{n:Nat}{w:World}{D:aD}{E:aN}{dC:Option (List Deferred)}{post:b6}{A:ab}{a:Act}{w':World}{D':aD}{E':aN}{r:I}{v:Value}{os:List (Nat×ai)}
  (hs:aL (rf P w D n E dC) A a w' D' E') (h1:∀ m z,aH os m=some z→A.o m=some z∧z.only (aC os)=true∧z.eh=true) (hf:r.flat=true) (hv:aP w' D' E' r v) (hp:post r os):kv w D E post v w':=by
 obtain ⟨D2,E2,hw,e2,e2n,q1,q2,q3,q4,q5,q6⟩:=hs.vd h1;exact ⟨D2,E2,r,os,hp,aP.flat hf hv,q1,q2,q3,q4,q5,q6⟩
def jF(b:Nat):Value:=.pointer (some ⟨b,0,none⟩)
def qH(P:Program)(f:FuncId)(k:Nat):Prop:=dO P f=true∧∀ (bs:List Nat) (w:World),bs.length=k →
 CallsDIn Fence.wide 8 P f (bs.map jF).toArray .returning w fun e u' w'=>(∃ v,e=.returned v)∧u'=.returning∧w'=w
def mY(A:ab):List Nat→List I→ab
 |N::Ns,z::zs=>mY (A.aO N (.box z)) Ns zs
 |_,_=>A
def kq(E:aN):List Nat→List Nat→List I→Prop
 | [],[],[]=>True
 |N::Ns,b::bs,z::zs=>E N=some (.aB b z.aK)∧kq E Ns bs zs
 |_,_,_=>False
def nr(A:ab):List Nat→List I→Prop
 | [],[]=>True
 |N::Ns,z::zs=>(∃ x,A.o N=some (.box x)∧x.aK=z.aK)∧nr A Ns zs
 |_,_=>False
def qC(P:Program)(f:FuncId)(ch:List PanicEntry)(zs:List I):Prop:=dO P f=true∧∀ (c:cm) (A:ab) (a:Act) (w:World) (D:aD) (E:aN) (Ns bs:List Nat),c.P=P→aL c A a w D E→kq E Ns bs zs→nr A Ns zs →
 CallsDIn Fence.wide 8 P f (bs.map jF).toArray (.panicking ch) w fun e u' w'=>(∃ v,e=.returned v)∧settle u'=.returning∧aL c (mY A Ns zs) a w' D E
def jo(f:FuncId)(vs:List Value):Deferred := { target:=.fn (.func f) vs.toArray,args := #[] }
def p8(rs:List bt)(post:b6)(ch:List PanicEntry)(Ns:List Nat)(zs:List I):Exit→ab→Prop
 | .ret,A=>nr A Ns zs∧iB rs post A
 | .panic ch',A=>ch'=ch∧nr A Ns zs∧iB rs post (mY A Ns zs)
 |_,_=>False
theorem kq.len{E:aN} : ∀ {Ns bs:List Nat} {zs:List I},kq E Ns bs zs→bs.length=zs.length∧Ns.length=zs.length
 | [],[],[],_=>⟨rfl,rfl⟩
 |_::Ns,_::bs,_::zs,h=>by
  have:=kq.len h.2;simp[this.1,this.2]
 | [],_::_,_,h=>h.elim
 | [],[],_::_,h=>h.elim
 |_::_,[],_,h=>h.elim
 |_::_,_::_,[],h=>h.elim
section
variable {P:Program} {n:Nat} {w:World} {D:aD} {E:aN} {rs:List bt} {post:b6} {fn:Func} {ch:List PanicEntry} {f:FuncId} {Ns bs:List Nat} {zs:List I}
theorem xE{A:ab}{a:Act}{w':World}{D':aD}{E':aN}{dC:Option (List Deferred)}(hs:aL ⟨P,w,D,n,bQ E,E,fu,none,dC⟩ A a w' D' E'):∀ {Ns bs:List Nat} {zs:List I},kq E Ns bs zs→nr A Ns zs→kq E' Ns bs zs
 | [],[],[],_,_=>trivial
 |N::Ns,b::bs,z::zs,h,hx=>by
  refine ⟨?_,xE hs h.2 hx.2⟩;obtain ⟨x,hx,_⟩:=hx.1;have hob:cX _ w' D' E' N (some (.box x)):=hx▸hs.bz N;rcases hs.uN (n:=N) (e:=.aB b z.aK) h.1 rfl with k | k
  ·exact absurd k (pQ hob)
  ·exact k
 | [],_::_,_,h,_=>h.elim
 | [],[],_::_,h,_=>h.elim
 |_::_,[],_,h,_=>h.elim
 |_::_,_::_,[],h,_=>h.elim
theorem AY(hrs:fO P fn.results.toList=some rs)(hEN:kq E Ns bs zs){A:ab}{D':aD}{E':aN}{u:FrameMode}(hx:nr A Ns zs)
  (hcase:(u=.returning∧iB rs post A∧qH P f zs.length)∨(u=.panicking ch∧iB rs post (mY A Ns zs)∧qC P f ch zs)) :
  ∀ (ds:List Deferred) (a:Act) (w':World),a.defers=ds→aL ⟨P,w,D,n,bQ E,E,fu,none,some [jo f (bs.map jF)]⟩ A a w' D' E'→LeavesInM Fence.wide 9 P fn a.tmps (fun e w'=>∃ v,e=.returned v∧kv w D E post v w') ds u w'
 | [],a,w',hd,hs=>by
  have h1:a.defers=[jo f (bs.map jF)]:=hs.ec;rw[hd] at h1;cases h1
 |d::ds,a,w',hd,hs=>by
  have h1:a.defers=[jo f (bs.map jF)]:=hs.ec;rw[hd] at h1;simp only[Y9] at h1;obtain ⟨rfl,rfl⟩:=h1;refine ⟨by rcases hcase with ⟨rfl,_⟩ | ⟨rfl,_⟩ <;>simp,.inr ⟨fun _=>by decide,.func f,(bs.map jF).toArray,f,(bs.map jF).toArray,rfl,?_,fun _ _=>trivial,?_⟩⟩
  ·have hcb:dO P f=true:=by rcases hcase with ⟨_,_,h⟩ | ⟨_,_,h⟩ <;>exact h.1
   simp only[jo,invoke,lQ hcb,Array.empty_append]
  ·rcases hcase with ⟨rfl,hr,hi⟩ | ⟨rfl,hr,hc⟩
   ·refine (hi.2 bs w' hEN.len.1).mono ?_;rintro e u' w'' ⟨⟨v,rfl⟩,rfl,rfl⟩;obtain ⟨v,h1,h2⟩:=hs.rX hrs hr;exact ⟨v,h1,v,rfl,h2⟩
   ·refine (hc.2 _ A a w' D' E' Ns bs rfl hs (xE hs hEN hx) hx).mono ?_;rintro e u' w'' ⟨⟨v,rfl⟩,hu,hs2⟩;obtain ⟨v,h1,h2⟩:=hs2.rX hrs hr;simp only[hu];exact ⟨v,h1,v,rfl,h2⟩
theorem BW{w:World}{D:aD}{E:aN} : ∀ {Ns:List Nat} {zs:List I} {vs:List Value},dY (aP w D E) (Ns.map fun N=>.ptr N []) vs→(∀ q∈Ns.zip zs,∃ b,E q.1=some (.aB b q.2.aK))→Ns.length=zs.length→∃ bs,vs=bs.map jF∧kq E Ns bs zs
 | [],[],_,.nil,_,_=>⟨[],rfl,trivial⟩
 |N::Ns,z::zs,_,.cons h hs,hb,hl=>by
  obtain ⟨bs,rfl,h2⟩:=BW (zs:=zs) hs (fun q hq=>hb q (by simp[hq])) (by simpa using hl);obtain ⟨b,aq⟩:=hb (N,z) (by simp);obtain ⟨b',aK,off,p1,p2,rfl⟩:=kd h;simp only at aq;rw[aq] at p1;simp only[v6,br.aB.injEq] at p1;obtain ⟨rfl,rfl⟩:=p1;have hoff:off=0:=by
   cases hz:z.aK <;>rw[hz] at p2 <;>simpa[bL.off] using p2.symm
  subst hoff;exact ⟨b::bs,rfl,aq,h2⟩
 | [],_::_,_,_,_,hl=>by simp at hl
 |_::_,[],_,_,_,hl=>by simp at hl
theorem qM{α:Type}{R:I→Value→Prop}{f:α→I}{g:α→Value}(h:∀ x,R (f x) (g x)):∀ l:List α,dY R (l.map f) (l.map g)
 | []=>.nil
 |x::l=>.cons (h x) (qM h l)
theorem WW{rest:Code}{x:bj}{slots:List Nat}{a:Act}{args:List I}{os:List (Nat×ai)}{tss:List Nat}(hrs:fO P fn.results.toList=some rs)(hx:dN P n rest=some x)(hsz:a.tmps.size=n)(hd:a.defers=[jo f (tss.map fun t=>a.tmps.getD t undef)])(hos:∀ m,aC os m=true→n≤m∧1000000≤m)
  (hts:tss.map (b9 (slots.zip args))=Ns.map fun N=>.ptr N []) (hl:Ns.length=zs.length) (hN:∀ q∈Ns.zip zs,∃ y,aH os q.1=some (.box y)∧y.aK=q.2.aK) (hi:qH P f zs.length) (hc:qC P f ch zs)
  (hAW:∀ (w:World) (D:aD) (E:aN) (d:Deferred),U ⟨P,w,D,n,bQ E,E,fu,none,some [d]⟩ x (p8 rs post ch Ns zs) (aw (slots.zip args) os)):lZ (qh P fn rest slots a) (fun w _ E=>eA P w (bQ E)) args os post:=by
 intro w D E vs hl0 hD ho hv hvs;have hvs':vs=slots.map (fun t=>a.tmps.getD t undef):=by simpa using hvs
 subst hvs';have htm:=Ek (fun t=>a.tmps.getD t undef) slots args hv;have hp:=qM htm tss;rw[hts] at hp;obtain ⟨bs,hbs,hat⟩:=BW (zs:=zs) hp (fun q hq=>by
  obtain ⟨y,h1,h2⟩:=hN q hq;have hob:cX _ w D E q.1 (some (.box y)):=h1▸ho.bz q.1;obtain ⟨b',cs,T,e1,_⟩:=hob;exact ⟨b',by rw[e1,h2]⟩) hl
 rw[hbs] at hd;have hsim:aL ⟨P,w,D,n,bQ E,E,fu,none,some [jo f (bs.map jF)]⟩ (aw (slots.zip args) os) a w D E:=by
  refine ⟨hsz,hd,htm,er.refl _ _,fun _ _ h _=>h,hD,fun m =>?_,ho.cz,fun m e h=>.inr ⟨e,h,.refl e⟩,fun m hm =>?_,fun _ _ h=>h,oE hl0,.refl _ _⟩
  ·have h:=ho.bz m;simp only[aw];cases hx:aH os m with
   |none=>rw[hx] at h;exact h
   |some x=>rw[hx] at h;exact cX.jc h fun e b he hb=>.inr ⟨m,e,he,hb⟩
  ·refine hos m ?_;cases hx:aH os m with
   |none=>have h:=ho.bz m;rw[hx] at h;exact absurd h hm
   |some x=>simp[aC,hx]
 refine wpIn_mono ((hAW w D E _) rest hx a w ⟨D,E,hsim⟩) ?_;rintro e a' w' ⟨A,hq,D',E',hs⟩;have aZ:∀ e w',(∃ v,e=Ending.returned v∧kv w D E post v w')→∃ v D' E' r os',e=.returned v∧post r os'∧aP w' D' E' r v∧iR (fun b=>w.heap.size≤b∨bQ E b) w' D' E' (aH os') ∧
   er (fun b=>w.heap.size≤b∨bQ E b) w w'∧(∀ b o,D b o→D' b o)∧(∀ b o,D' b o→b<w'.heap.size)∧(∀ b o,D' b o→b<w.heap.size→¬ bQ E b→D b o) ∧
   (∀ n e,E n=some e→aC os' n=true→∃ e',E' n=some e'∧e.fo e')∧fM w D w':=fun e w' ⟨v,h1,D',E',r,os',h2⟩=>⟨v,D',E',r,os',h1,h2⟩
 cases e <;>simp only[p8] at hq
 ·obtain ⟨h1,h2⟩:=hq;exact nW aZ _ _ _ (AY (ch:=ch) hrs hat h1 (.inl ⟨rfl,h2,hi⟩) a'.defers a' w' rfl hs)
 ·obtain ⟨rfl,h1,h2⟩:=hq;exact nW aZ _ _ _ (AY hrs hat h1 (.inr ⟨rfl,h2,hc⟩) a'.defers a' w' rfl hs)
end
def oA:List au→Option (List Nat)
 | []=>some []
 | .t n::l=>(oA l).map (n :: ·)
 |_=>none
theorem El:∀ {l:List au} {ts:List Nat},oA l=some ts→l=ts.map .t
 | [],ts,h=>by simp only[oA,v6] at h;subst h;rfl
 | .t n::l,ts,h=>by
  simp only[oA,t7] at h;obtain ⟨r,h1,rfl⟩:=h;rw[El h1];rfl
 | .c _::_,_,h=>by simp[oA] at h
def uj(P:Program)(n:Nat):Code→Option (bj×FuncId×List Nat×Nat×bj)
 | .seq iq (.seq (.region _ bg false) rest)=>match bg.toList with
  | [o1,o2]=>match kG P n bg o1,o2.op with
   |some ⟨some t5,.mk g caps,none⟩,.defer { callee:=.value (.tmp t),args,.. } =>if t=t5∧args = #[]∧o2.guard=none∧o2.dst=none then (match dN P n iq,dN P n rest,oA caps with
     |some x0,some x,some tss=>some (x0,g,tss,t5,x)
     |_,_,_=>none)
    else none
   |_,_=>none
  |_=>none
 |_=>none
structure Fm (P:Program) (n:Nat) (x:bj) (rs:List bt) (post:b6) (ch:List PanicEntry) (g:FuncId) (tss:List Nat) (t5:Nat) (tsl:List (Nat×I)) (os0:List (Nat×ai)) (ρ:List (Nat×Nat)) (os1:List (Nat×ai)) (slots:List Nat) (cargs:List I) (Ns:List Nat) (zs:List I) (post1:b6):Prop where
 bB:tss.map (b9 tsl)=Ns.map fun N=>.ptr (bo ρ N) []
 Aq:eM ρ os1 os0
 arg:fN false (aw ((t5,.func g (Ns.map fun N=>.ptr (bo ρ N) []))::tsl) (dR (im ρ os1) os0)) ρ os1 (slots.map (b9 ((t5,.func g (Ns.map fun N=>.ptr (bo ρ N) []))::tsl))) cargs
 xy:∀ r os',post1 r os'→dG false ρ os1 os0 r os'
 DT:tss.map (b9 (slots.zip cargs))=Ns.map fun N=>.ptr N []
 len:Ns.length=zs.length
 box:∀ q∈Ns.zip zs,∃ y,aH os1 q.1=some (.box y)∧y.aK=q.2.aK
 lD:∀ m,aC os1 m=true→n≤m∧1000000≤m
 rest:∀ (w:World) (D:aD) (E:aN) (d:Deferred),U ⟨P,w,D,n,bQ E,E,fu,none,some [d]⟩ x (p8 rs post1 ch Ns zs) (aw (slots.zip cargs) os1)
 kD:∀ r os',post1 r os'→∃ osF,r.flat=true∧r.aR (bo ρ)=r∧(∀ m z,aH osF m=some z→aH (cY ρ os'++os0) m=some z∧z.only (aC osF)=true∧z.eh=true)∧post r osF
theorem BX{w:World}{D:aD}{E:aN}{ρ:List (Nat×Nat)} : ∀ {Ns:List Nat} {vs vs':List Value},dY (aP w D E) (Ns.map fun N=>.ptr (bo ρ N) []) vs→dY (aP w D E) (Ns.map fun N=>.ptr (bo ρ N) []) vs'→vs=vs'
 | [],_,_,.nil,.nil=>rfl
 |N::Ns,_,_,.cons h hs,.cons h' hs'=>by
  obtain ⟨b1,sh1,off1,p1,p2,rfl⟩:=kd h;obtain ⟨b2,sh2,off2,q1,q2,rfl⟩:=kd h';rw[p1] at q1;simp only[v6,br.aB.injEq] at q1;obtain ⟨rfl,rfl⟩:=q1;rw[p2] at q2;simp only[v6] at q2;subst q2;rw[BX hs hs']
theorem eL.VV{P:Program}{f:FuncId}{fn:Func}{x0 x:bj}{g:FuncId}{tss:List Nat}{t5:Nat}{rs:List bt}{args:List I}{os:List (Nat×ai)}{post:b6}{ch:List PanicEntry}{zs:List I}(hf:P.funcs[f]?=some fn)(hcall:dO P f=true)(hc:(fn.body.bind (uj P fn.ntmps))=some (x0,g,tss,t5,x))
  (hrs:fO P fn.results.toList=some rs) (hn:args.length≤fn.ntmps) (hn2:fn.ntmps≤1000000) (hos:∀ m,aC os m=true→1000000≤m) (hi:qH P g zs.length) (hca:qC P g ch zs) (hts:tss.contains t5=false)
  (h:I.gu args→∀ (w:World) (D:aD) (E:aN),U ⟨P,w,D,fn.ntmps,bQ E,E,fu,none,some []⟩ x0 (cQ (fun B=>∃ tsl os0 ρ os1 slots cargs Ns post1,B=aw tsl os0∧Fm P fn.ntmps x rs post ch g tss t5 tsl os0 ρ os1 slots cargs Ns zs post1) (fun _ _=>False)) (aw (bD 0 args) os)):eL P f args os post:=by
 obtain ⟨body,hb,hc⟩:=zy3.1 hc;refine ⟨hcall,fun w D E vs hl hD ho hv =>?_⟩;have hlen:=qi hv;have s0:=wB (P:=P) (n:=fn.ntmps) (Y:=fu) hD ho hv (by omega) (fun m hm=>⟨Nat.le_trans hn2 (hos m hm),hos m hm⟩) (oE hl);have hsim:aL (rf P w D fn.ntmps E (some [])) (nj args os) { tmps:=vs.toArray++Array.replicate (fn.ntmps-vs.toArray.size) undef,defers:=[] } w D E :=
  ⟨s0.sz,rfl,s0.dB,s0.df,s0.cI,s0.cL,s0.bz,s0.cz,s0.dy,s0.eF,s0.cw,oE hl,s0.fb⟩
 obtain ⟨RR,hRR⟩:∃ RR:Ending→World→Prop,RR=fun e w'=>∃ v,e=.returned v∧kv w D E post v w':=⟨_,rfl⟩
 refine Calls.mono (R:=RR) ?_ (fun e w' q=>by rw[hRR] at q;obtain ⟨v,he,D',E',r,os',k⟩:=q;exact ⟨v,D',E',r,os',he,k⟩);refine (callsIn_wide (n:=9)).1 (callsIn_of_wp_marks hf hb trivial ?_);unfold uj at hc;split at hc
 case h_2=>cases hc
 rename_i iq id bg rest;split at hc
 case h_2=>cases hc
 rename_i o1 o2 hops;split at hc
 case h_2=>cases hc
 rename_i t5' g' caps t dargs _ hg1 ho2;split at hc
 case isFalse=>cases hc
 rename_i hok;obtain ⟨ht,hda,hgd,hdst⟩:=hok;split at hc
 case h_2=>cases hc
 rename_i y0 y tss' hx0 hx htt;simp only[v6,Prod.mk.injEq] at hc;obtain ⟨e1,e2,e3,e4,e5⟩:=hc;subst e4 ht hda e1 e2 e3 e5;have hcaps:=El htt;subst hcaps;refine wpIn_seq ?_;have hw0:=((h (ot _ _ hv) w D E).sub (ta args os)) iq hx0 _ w ⟨D,E,hsim⟩;refine wpIn_mono hw0 ?_;rintro e a1 w1 ⟨B,hq,D1,E1,hs1⟩;cases e <;>simp only[cQ] at hq
 obtain ⟨tsl,os0,ρ,os1,slots,cargs,Ns,post1,rfl,R⟩:=hq;simp only[Exit.then];refine wpIn_seq (wpIn_region_list ?_);rw[hops];obtain ⟨q1,q2,q3,q4⟩:=nB hg1;simp only at q1 q2;have wn1:∀ a:Act,Region.wanted o1 (yielded bg a.tmps)=true:=fun a=>by
  rcases q4 with ⟨a5,_⟩ | ⟨_,_,_,_,_,a5⟩
  ·simp[Region.wanted,a5]
  ·simp at a5
 have wn2:∀ a:Act,Region.wanted o2 (yielded bg a.tmps)=true:=fun a=>by simp[Region.wanted,hgd]
 simp only[wpListIn,wn1,if_true];have hmk:aT (aw tsl os0) (.mk g' (tss'.map .t))=some (.func g' (Ns.map fun N=>.ptr (bo ρ N) [])):=by
  have e:(tss'.map au.t).map (af (aw tsl os0))=Ns.map fun N=>.ptr (bo ρ N) []:=by
   rw[←R.bB,List.map_map];rfl
  simp only[aT,e];rw[if_pos];simp[I.cv]
 have d1:=(BZ (c:=rf P w D fn.ntmps E (some [])) q1 hmk).does q3;rw[←q2] at d1;refine d1.wp q1 ⟨D1,E1,hs1⟩ fun a2 w2 hs2 =>?_;obtain ⟨D2,E2,hs2⟩:=hs2;simp only[wn2,if_true];rw[Bf] at hs2
 -- the deferred call
 have hglt:=yT hi.1;have hfv:=hs2.dB t;simp only[aw,b9,if_true] at hfv;obtain ⟨fc,f1,f2⟩:=hfv;simp only[ae] at f2;obtain ⟨fvs,f3,f4⟩:=f2;have hval:a2.tmps.getD t undef=.func (.func g') #[] fvs.toArray:=by
  rw[←lC hglt];simpa[aW,I.isAgg,f3] using f1.symm
 have htl:tss'.map (b9 ((t,.func g' (Ns.map fun N=>.ptr (bo ρ N) []))::tsl))=Ns.map fun N=>.ptr (bo ρ N) []:=by
  rw[←R.bB];refine List.map_congr_left fun k hk =>?_;simp only[b9];rw[if_neg];intro e;have:tss'.contains k=true:=by simpa using hk
  rw[e,hts] at this;cases this
 have hfvs:fvs=tss'.map fun k=>a2.tmps.getD k undef:=by
  refine BX (w:=w2) (D:=D2) (E:=E2) (ρ:=ρ) (oo f4) ?_;have:=qM (f:=b9 ((t,.func g' (Ns.map fun N=>.ptr (bo ρ N) []))::tsl)) (g:=fun k=>a2.tmps.getD k undef) (fun k=>hs2.dB k) tss'
  rwa [htl] at this
 have hdf:a2.defers=[]:=hs2.ec;obtain ⟨a3,ha3⟩:∃ a3:Act,a3 = { a2 with defers:=[jo g' (tss'.map fun k=>a2.tmps.getD k undef)] } :=⟨_,rfl⟩
 have hrun:(o2.semAt Fence.wide.round a2.eval).run P w2=.ok (.defer (jo g' (tss'.map fun k=>a2.tmps.getD k undef))) w2:=by
  show (execOp a2.eval o2).run P w2=_
  have he:a2.eval (.tmp t)=.func (.func g') #[] fvs.toArray:=hval;simp[execOp,ho2,resolve,he,Deferred.ofValue,jo,hfvs]
 refine ⟨fun _ _=>trivial,?_⟩;rw[hrun,Oper.uponIn_defer,hdf,hdst];simp only[Exit.then];have hput:({ tmps:=a2.tmps,defers:=[jo g' (tss'.map fun k=>a2.tmps.getD k undef)] } : Act).put none undef=a3:=by rw[ha3];rfl
 rw[hput]
 -- the rest
 have hand:=WW (P:=P) (n:=fn.ntmps) (fn:=fn) (f:=g') (Ns:=Ns) (zs:=zs) (ch:=ch) (slots:=slots) (a:=a3) (args:=cargs) (os:=os1) (tss:=tss') hrs hx (by rw[ha3];exact hs2.sz) (by rw[ha3]) R.lD R.DT R.len R.box hi hca R.rest;have hs3:aL (rf P w D fn.ntmps E (some [jo g' (tss'.map fun k=>a2.tmps.getD k undef)])) (aw ((t,.func g' (Ns.map fun N=>.ptr (bo ρ N) []))::tsl) os0) a3 w2 D2 E2:=by
  rw[ha3];exact ⟨hs2.sz,rfl,hs2.dB,hs2.df,hs2.cI,hs2.cL,hs2.bz,hs2.cz,hs2.dy,hs2.eF,hs2.cw,oE hl,hs2.fb⟩
 have hall:∀ l:List Nat,dY (aP w2 D2 E2) (l.map (b9 ((t,.func g' (Ns.map fun N=>.ptr (bo ρ N) []))::tsl))) (l.map fun k=>a3.tmps.getD k undef):=fun l=>qM (fun k=>hs3.dB k) l;have hus:=hand.use hs3 false (fun h hr=>h.mono hr) ⟨(fun h=>by cases h),fun _=>hs3.nV⟩ R.Aq R.arg R.xy (hall slots);refine qh.mono hus ?_ (by simp);rintro e w' ⟨v,r,os',D4,E4,rfl,hp,hs4,hv4,_⟩;rw[hRR];obtain ⟨osF,g1,g2,g3,g4⟩:=R.kD r os' hp;rw[g2] at hv4;exact ⟨v,rfl,hs4.UG g3 g1 hv4 g4⟩
end Go.Abs
namespace Go.Abs
open Go Go.RowKit
open Enc (enc)
def kz(w:World):aD:=fun b _=>b<w.heap.size
structure nu (P:Program) (t:TypeId) (α:Type) [Enc α]:Prop where
 cells:P.cellsOf t=Enc.sz α
 pX:0<Enc.sz α
 mH:∀ {H:Type} {enc0:TypeId×Value→H} {w:World} {fuel:Nat} {cs:List Value} {x:DataW H×List MemPlace},DataW.trod enc0 P w 0 (fun _=>true) true fuel t cs=some x→∃ a:α,ae w (kz w) cu (enc a) cs
theorem Wc{P:Program}{t:TypeId}(ht:P.underlying t=some (.int .i64))(hc:P.cellsOf t=1):nu P t Int :=
 ⟨hc,by decide,fun h=>by
  obtain ⟨n,rfl,_,hw⟩:=DataW.trod_int ht h;refine ⟨n,?_⟩;rw[rn,ae];simp only[Lit.wf,Z0,decide_eq_true_eq] at hw;exact ⟨rfl,hw.1,hw.2⟩⟩
theorem yX{α:Type}[Enc α]{w:World}{D:aD}(c:Nat):∀ (n:Nat) (cs:List Value),cs.length=n*c→(∀ i,i<n→∃ a:α,ae w D cu (enc a) ((cs.drop (i*c)).take c))→∃ l:List α,l.length=n∧az w D cu (l.map enc) cs
 |0,cs,hl,_=>⟨[],rfl,by simp only[Nat.zero_mul,List.length_eq_zero_iff] at hl;subst hl;simp[az]⟩
 |n+1,cs,hl,h=>by
  obtain ⟨a,ha⟩:=h 0 (by omega);simp only[Nat.zero_mul,List.drop_zero] at ha;obtain ⟨l,h1,h2⟩:=yX c n (cs.drop c) (by rw[List.length_drop,hl,Nat.succ_mul];omega) (fun i hi=>by
   obtain ⟨b,hb⟩:=h (i+1) (by omega);refine ⟨b,?_⟩;rw[List.drop_drop]
   rwa [Nat.succ_mul,Nat.add_comm] at hb)
  refine ⟨a::l,by simp[h1],?_⟩;simp only[Z4,az];exact ⟨cs.take c,cs.drop c,(zy4 c cs).symm,ha,h2⟩
theorem XQ{H:Type}{enc0:TypeId×Value→H}{P:Program}{w:World}{dC:Nat}{spare:Nat→Bool}{held:Bool}{fuel n:Nat}{t e:TypeId}{cs:List Value}{x:DataW H×List MemPlace}(ht:P.underlying t=some (.array n e))(h:DataW.trod enc0 P w dC spare held fuel t cs=some x) :
  ∃ (xs:List (DataW H×List MemPlace)) (m:Nat),cs.length=P.cellsOf t∧xs.length=n∧∀ (i:Nat),i<n→DataW.trod enc0 P w dC spare held m e ((cs.drop (i*P.cellsOf e)).take (P.cellsOf e))=xs[i]?:=by
 cases fuel with
 |zero=>simp[DataW.trod] at h
 |succ m =>
  unfold DataW.trod at h;rw[ht] at h;split at h <;>simp_all
  obtain ⟨hl,xs,hp,hd⟩:=h;exact ⟨xs,by simpa using mapM_some_length hp,m,fun i hi=>mapM_some_get hp i i (by simp[hi])⟩
theorem BK{P:Program}{t e:TypeId}{n:Nat}{α:Type}[Enc α](ht:P.underlying t=some (.array n e))(he:nu P e α)(hc:P.cellsOf t=n*Enc.sz α)(hn:0<n):nu P t (dQ n α) :=
 ⟨hc,Nat.mul_pos hn he.pX,fun {H enc0 w fuel cs x} h=>by
  obtain ⟨xs,m,hl,hx,hp⟩:=XQ ht h;obtain ⟨l,h1,h2⟩:=yX (α:=α) (w:=w) (D:=kz w) (Enc.sz α) n cs (by rw[hl,hc]) (fun i hi=>by
   have h3:=hp i hi;rw[he.cells,Y4 (by omega)] at h3;exact he.mH h3)
  refine ⟨⟨l,h1⟩,?_⟩
  show ae w (kz w) cu (.agg (l.map enc)) cs
  simp only[ae];exact h2⟩
theorem Fv(a:Addr)(i j:Nat):(a.add i).add j=a.add (i+j):=by
 unfold Addr.add;by_cases hi:i=0 <;>by_cases hj:j=0 <;>simp[hi,hj,Nat.add_assoc]
end Go.Abs
