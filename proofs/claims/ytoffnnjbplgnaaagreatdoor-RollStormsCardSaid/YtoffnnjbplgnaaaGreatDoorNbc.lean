/-
  A part of the proof that the law RollStorms returns true for every input; five variables of Go's library start as the text lays them (the card ties them); conditions: none beyond the statement's own. (part 3 of 6)
-/
import Derived.Test.YtoffnnjbplgnaaaGreatDoorChecked
import Derived.KernelRfl
import Derived.RangeFuncIn
import Derived.Laws.Externs
import Derived.RecoverIn
import Derived.Test.YtoffnnjbplgnaaaGreatDoorNbb
set_option linter.unusedSimpArgs false
set_option linter.unusedVariables false
set_option maxHeartbeats 16000000
set_option maxRecDepth 100000
namespace Go.Abs
open Go Go.RowKit
def cj(ts:List (Nat×I)):List (Nat×I)→Prop
 | []=>True
 |(k,v)::r=>b8 ts k=v∧cj ts r
def ct(os:List (Nat×ai)):List (Nat×ai)→Prop
 | []=>True
 |(k,v)::r=>aJ os k=some v∧ct os r
def cq(p:Nat→Bool):List (Nat×I)→Prop
 | []=>True
 |(_,v)::r=>v.only p=true∧cq p r
theorem wK{ts:List (Nat×I)} : ∀ {ts':List (Nat×I)},cj ts ts'→∀ k,b8 ts' k=.cX∨b8 ts' k=b8 ts k
 | [],_,k=>.inl rfl
 |(j,v)::r,h,k=>by
  simp only[cj] at h;simp only[b8];split
  ·rename_i hk;subst hk;exact .inr h.1.symm
  ·exact wK h.2 k
theorem Ep{os:List (Nat×ai)} : ∀ {os':List (Nat×ai)},ct os os'→∀ k,aJ os' k=none∨aJ os' k=aJ os k
 | [],_,k=>.inl rfl
 |(j,v)::r,h,k=>by
  simp only[ct] at h;simp only[aJ];split
  ·rename_i hk;subst hk;exact .inr h.1.symm
  ·exact Ep h.2 k
theorem BQ{p:Nat→Bool} : ∀ {ts:List (Nat×I)},cq p ts→∀ k,(b8 ts k).only p=true
 | [],_,k=>by simp[b8,I.only]
 |(j,v)::r,h,k=>by
  simp only[cq] at h;simp only[b8];split
  ·exact h.1
  ·exact BQ h.2 k
theorem BP{p:Nat→Bool} : ∀ {os:List (Nat×ai)},bU p os→∀ k x,aJ os k=some x→x.only p=true
 | [],_,k,x,hx=>by simp[aJ] at hx
 |(j,v)::r,h,k,x,hx=>by
  simp only[bU] at h;simp only[aJ] at hx;split at hx
  ·simp only[v6] at hx;subst hx;exact h.1
  ·exact BP h.2 k x hx
theorem bw.cN{ts ts':List (Nat×I)}{os os':List (Nat×ai)}(h1:cj ts ts')(h2:ct os os')(h3:cq (aH os') ts')(h4:bU (aH os') os'):bw (ay ts os) (ay ts' os'):=by
 rintro c a w ⟨D,E,hs⟩;have hp:∀ n,aH os' n=true→(if aH os' n then E n else none)=E n:=fun n hn=>by simp[hn]
 refine ⟨D,fun n=>if aH os' n then E n else none,hs.sz,hs.ee,fun t =>?_,hs.di,hs.cJ,hs.cM,fun n =>?_,fun n m e e' b h1 h2 h3 h4 =>?_,fun n e hn =>?_,hs.eE,hs.cu,hs.eH,hs.eY⟩
 ·have:=wK h1 t;rcases this with h | h
  ·simp only[ay];rw[h];simp[aQ]
  ·refine aQ.dB (p:=aH os') hp (BQ h3 t) ?_;have:=hs.dz t;simp only[ay] at *;rw[h];exact this
 ·have ho:=hs.bx n;simp only[ay] at *;rcases Ep h2 n with h | h
  ·rw[h];simp[c6,aH,h]
  ·rw[h];by_cases hin:aJ os n=none
   ·rw[hin];simp[c6,aH,h,hin]
   ·have ar:(if aH os' n then E n else none)=E n:=hp n (by simp[aH,h];cases hh:aJ os n <;>simp_all);cases hx:aJ os n with
    |none=>exact absurd hx hin
    |some x =>
     have hon:=BP h4 n x (h.trans hx);rw[hx] at ho;cases x with
     |box x =>
      obtain ⟨b,cs,T,k1,k2,k3,k4,k5⟩:=ho;exact ⟨b,cs,T,ar.trans k1,k2,k3,ae.dB hp _ _ (by simpa[ai.only] using hon) k4,k5⟩
     |bF T sz es =>
      obtain ⟨aC,k1,k2,k3⟩:=ho;refine ⟨aC,ar.trans k1,k2,?_⟩;cases aC with
      |none=>exact k3
      |some bc =>
       obtain ⟨b,cap⟩:=bc;obtain ⟨cs,pre,rest,q1,q2,q3,q4,q5⟩:=k3;exact ⟨cs,pre,rest,q1,q2,q3,aB.dB hp _ _ (by simpa[ai.only] using hon) q4,q5⟩
     |dK T xs =>
      obtain ⟨aC,k1,k2,k3⟩:=ho;exact ⟨aC,ar.trans k1,k2,k3⟩
     |df x =>
      obtain ⟨b,k1,k2⟩:=ho;exact ⟨b,ar.trans k1,k2⟩
     |bZ ks vs =>
      obtain ⟨b,es,ck,k1,k2,k3,k4,k5,k6,k7⟩:=ho;simp only[ai.only,Z0] at hon;exact ⟨b,es,ck,ar.trans k1,k2,k3,k4,al.dB hp _ _ hon.1 k5,al.dB hp _ _ hon.2 k6,k7⟩
     |it ks vs left cur =>
      obtain ⟨r,b,es,ck,dp,se,la,k1,k2,k3,k4,k5,k6,k7⟩:=ho;simp only[ai.only,Z0] at hon;exact ⟨r,b,es,ck,dp,se,la,ar.trans k1,k2,k3,k4,al.dB hp _ _ hon.1 k5,al.dB hp _ _ hon.2 k6,k7⟩
 ·refine hs.cv n m e e' b ?_ ?_ h3 h4
  ·split at h1
   ·exact h1
   ·cases h1
  ·split at h2
   ·exact h2
   ·cases h2
 ·by_cases hi:aH os' n=true
  ·simp only[hi,if_true];exact hs.dx n e hn
  ·simp only[hi];exact .inl rfl
def bB:Nat→List I→List (Nat×I)
 |_,[]=>[]
 |k,a::aS9=>(k,a)::bB (k+1) aS9
theorem Bh:∀ (aS9:List I) (k t:Nat),b8 (bB k aS9) t=if t<k then .cX else (aS9[t-k]?).getD .cX
 | [],k,t=>by simp[bB,b8]
 |a::aS9,k,t=>by
  simp only[bB,b8,Bh aS9 (k+1) t];by_cases h:t=k
  ·subst h;simp
  ·rw[if_neg h];by_cases h2:t<k
   ·rw[if_pos (by omega),if_pos h2]
   ·rw[if_neg (by omega),if_neg h2,show t-k=(t-(k+1))+1 from by omega];simp
theorem tj(args:List I)(os:List (Nat×ai)):bw (nq args os) (ay (bB 0 args) os):=by
 rintro c a w ⟨D,E,hs⟩;refine ⟨D,E,hs.sz,hs.ee,fun t =>?_,hs.di,hs.cJ,hs.cM,hs.bx,hs.cv,hs.dx,hs.eE,hs.cu,hs.eH,hs.eY⟩;have:=hs.dz t;simp only[ay,Bh,nq,Nat.not_lt_zero,if_false,Nat.sub_zero] at *;cases h:args[t]? with
 |none=>simp[aQ]
 |some x=>simpa[zz6,h] using this
theorem YS(args:List I):bw (np args) (ay (bB 0 args) []):=tj args []
theorem vt(ts:List (Nat×I))(os:List (Nat×ai))(d:Nat)(v:I):(ay ts os).put d v=ay ((d,v)::ts) os:=rfl
theorem Bn(ts:List (Nat×I))(os:List (Nat×ai))(d:Nat)(v:I):(ay ts os).aN (some d) v=ay ((d,v)::ts) os:=rfl
theorem Wf(A:ab)(v:I):A.aN none v=A:=rfl
theorem si(ts:List (Nat×I))(os:List (Nat×ai))(d:Nat)(x:ai):(ay ts os).aP d x=ay ts ((d,x)::os):=rfl
theorem Wg(ts:List (Nat×I))(os:List (Nat×ai))(k:Nat):(ay ts os).t k=b8 ts k:=rfl
theorem We(ts:List (Nat×I))(os:List (Nat×ai))(k:Nat):(ay ts os).o k=aJ os k:=rfl
theorem cg(j:Nat)(v:I)(r:List (Nat×I))(k:Nat):b8 ((j,v)::r) k=if k=j then v else b8 r k:=rfl
theorem dT(j:Nat)(v:ai)(r:List (Nat×ai))(k:Nat):aJ ((j,v)::r) k=if k=j then some v else aJ r k:=rfl
theorem V5(k:Nat):aJ [] k=none:=rfl
theorem LZ(A:ab)(k:Nat):af A (.t k)=A.t k:=rfl
theorem LY(A:ab)(x:I):af A (.c x)=x:=rfl
noncomputable def cC(d:Option Nat)(rest:List av)(A:ab)(v:I):bW:=aq rest (A.aN d v)
theorem VF(d:Option Nat)(rest:List av)(A:ab)(v:I):cC d rest A v=aq rest (A.aN d v):=rfl
theorem GN(v:I)(k:I→bW):b7 (some v) k=k v:=rfl
theorem F3(A:ab):aq [] A=.done A:=rfl
noncomputable def bn(A:ab)(d:Option Nat)(op:br)(rest:List av):bW:=aV A d op rest (aq rest)
noncomputable def fW(x:I)(b:Bool)(d:Option Nat)(op:br)(rest:List av)(A:ab):bW :=
 match x with
 | .bool b'=>if b'=b then bn A d op rest else aq rest (A.aN d .undef)
 | .undef=>aq rest (A.aN d .undef)
 |_=>.fail
theorem aY.guard{P:Program}{Y:Value→List I→List (Nat×ai)→bY→Prop}{dr:Bool}{K:ab→Prop}{x b:Bool}{d:Option Nat}{op:br}{rest:List av}{A:ab}(h1:x=b→aY P Y dr K (bn A d op rest))(h2:x = !b→aY P Y dr K (aq rest (A.aN d .undef))):aY P Y dr K (fW (.bool x) b d op rest A):=by
 unfold fW;by_cases h:x=b
 ·simp only[if_pos h];exact h1 h
 ·simp only[if_neg h];exact h2 (by cases x <;>cases b <;>simp_all)
def I.db:I→Option (List I)
 | .agg fs=>some fs
 |_=>none
def mu(p:List Nat):Option I→Option I
 |some f=>f.at p
 |none=>none
def jB(i:Nat)(p:List Nat):Option (List I)→Option I
 |some fs=>mu p fs[i]?
 |none=>none
theorem nG(c:I):c.at []=some c:=by cases c <;>rfl
theorem Gk(c:I)(i:Nat)(p:List Nat):c.at (i::p)=jB i p c.db:=by
 cases c <;>first | rfl | (rename_i fs;simp only[I.at,jB,I.db,mu])
def oM(fs:List I)(i:Nat)(p:List Nat)(v:I):Option I→I
 |some f=>.agg (fs.set i (f.du p v))
 |none=>.agg fs
def nh(c:I)(i:Nat)(p:List Nat)(v:I):Option (List I)→I
 |some fs=>oM fs i p v fs[i]?
 |none=>c
theorem fo(c v:I):c.du [] v=v:=by cases c <;>rfl
theorem ta(c:I)(i:Nat)(p:List Nat)(v:I):c.du (i::p) v=nh c i p v c.db:=by
 cases c <;>first | rfl | (rename_i fs;simp only[I.du,nh,I.db];cases fs[i]? <;>rfl)
def dA(p:List Nat):Option ai→Option I
 |some (.box c)=>c.at p
 |_=>none
def ft(A:ab):I→Option I
 | .ref x=>some x
 | .ptr n p=>dA p (A.o n)
 |_=>none
theorem jG(A:ab)(x:I):bR A x=ft A x:=by
 cases x <;>first | rfl | (rename_i n p;simp only[bR,ft];cases A.o n with | none=>rfl | some y=>cases y <;>rfl)
def lW(s:Option Nat)(x:I):Option I:=if bV s x=true then some x else none
def fB(s:Option Nat):Option I→Option I
 |some x=>lW s x
 |none=>none
open Classical in
noncomputable def fL(fs:List I)(f off:Nat)(y:I):Option I:=if f<fs.length∧I.sizes (fs.take f)=off then some y else none
noncomputable def pD(n:Nat)(p:List Nat)(f off:Nat):Option (List I)→Option I
 |some fs=>fL fs f off (.ptr n (p++[f]))
 |none=>none
noncomputable def pC(fs:List I)(f off:Nat):Option I→Option I
 |some v=>fL fs f off (.ref v)
 |none=>none
noncomputable def rD(f off:Nat):Option (List I)→Option I
 |some fs=>pC fs f off fs[f]?
 |none=>none
def eg:Option I→Option (List I)
 |some x=>x.db
 |none=>none
noncomputable def lM(A:ab)(f off:Nat):I→Option I
 | .ref c=>rD f off c.db
 | .ptr n p=>pD n p f off (eg (dA p (A.o n)))
 |_=>none
theorem XO(A:ab)(f off:Nat)(x:aw):aU A (.fa f off x)=lM A f off (af A x):=by
 simp only[aU];generalize af A x=y;cases y with
 |ref c =>
  cases c <;>simp only[lM,I.db,rD]
  rename_i fs;cases h:fs[f]? with
  |none=>simp[pC]
  |some v =>
   have hl:f<fs.length:=(Z6.1 h).1;simp only[pC,fL,hl,true_and]

 |ptr n p =>
  simp only[lM,jG,ft];cases dA p (A.o n) with
  |none=>simp[eg,pD]
  |some c =>
   cases c <;>simp only[eg,I.db,pD]
   simp only[fL]

 |_=>simp only[lM]
noncomputable def rG(f off:Nat)(s:Option Nat):Option (List I)→Option I
 |some fs=>match fs[f]? with
  |some v=>(fL fs f off v).bind (lW s)
  |none=>none
 |none=>none
theorem XP(A:ab)(f off:Nat)(s:Option Nat)(x:aw):aU A (.fl f off s x)=rG f off s (af A x).db:=by
 simp only[aU];generalize af A x=y;cases y <;>simp only[rG,I.db]
 rename_i fs;cases h:fs[f]? with
 |none=>rfl
 |some v =>
  have hl:f<fs.length:=(Z6.1 h).1;simp only[fL,hl,true_and];by_cases h1:I.sizes (fs.take f)=off <;>by_cases h2:bV s v=true <;>simp[h1,h2,lW]
open Classical in
noncomputable def gV(k:Int)(n:Nat)(y:Option I):Option I:=if 0≤k∧k<n then y else none
noncomputable def iv(n esz:Nat)(fs:List I)(y:Option I):Option I:=if gp n esz fs=true then y else none
noncomputable def oa(n esz:Nat)(k:Int):Option (List I)→Option I
 |some fs=>iv n esz fs ((fs[k.toNat]?).map .ref)
 |none=>none
noncomputable def n9(n esz m:Nat)(p:List Nat)(k:Int):Option (List I)→Option I
 |some fs=>iv n esz fs (some (.ptr m (p++[k.toNat])))
 |none=>none
noncomputable def jK(A:ab)(n esz:Nat)(k:Int):I→Option I
 | .ref c=>gV k n (oa n esz k c.db)
 | .ptr m p=>gV k n (n9 n esz m p k (eg (dA p (A.o m))))
 |_=>none
noncomputable def pK(A:ab)(n esz:Nat)(x:I):I→Option I
 | .int _ k=>jK A n esz k x
 |_=>none
theorem XQ(A:ab)(n esz:Nat)(x i:aw):aU A (.ia n esz x i)=pK A n esz (af A x) (af A i):=by
 simp only[aU];generalize af A x=y;generalize af A i=z;cases z <;>simp only[pK]
 rename_i kk k;cases y with
 |ref c =>
  simp only[jK,gV];split
  ·cases c <;>simp only[I.db,oa,iv]
  ·rfl
 |ptr m p =>
  simp only[jK,gV,jG,ft];split
  ·cases dA p (A.o m) with
   |none=>simp[eg,n9]
   |some c=>cases c <;>simp only[eg,I.db,n9,iv]
  ·rfl
 |_=>simp only[jK];split <;>rfl
open Classical in
noncomputable def mC(m:Nat)(p:List Nat)(sz lo l esz:Nat)(k:Int):Option (List I)→Option I
 |some _=>if sz=esz∧0≤k∧k<l then some (.ptr m (p++[lo+k.toNat])) else none
 |none=>none
open Classical in
noncomputable def jk(A:ab)(esz:Nat)(k:Int):I→Option I
 | .slice sz es=>if sz=esz∧0≤k∧k<es.length then (es[k.toNat]?).map .ref else none
 | .own m l=>match A.o m with
  |some (.bF _ sz es)=>if l=es.length∧sz=esz∧0≤k∧k<es.length then (es[k.toNat]?).map .ref else none
  |_=>none
 | .view m p sz lo l=>mC m p sz lo l esz k (eg (dA p (A.o m)))
 |_=>none
noncomputable def pO(A:ab)(esz:Nat)(x:I):I→Option I
 | .int _ k=>jk A esz k x
 |_=>none
theorem XR(A:ab)(esz:Nat)(x i:aw):aU A (.is esz x i)=pO A esz (af A x) (af A i):=by
 simp only[aU];generalize af A x=y;generalize af A i=z;cases z <;>simp only[pO]
 cases y <;>simp only[jk]
 ·split <;>simp_all
 ·rename_i m p sz lo l;simp only[jG,ft];cases dA p (A.o m) with
  |none=>rfl
  |some c=>cases c <;>simp only[eg,I.db,mC]
noncomputable def mD(n esz:Nat)(s:Option Nat)(k:Int):Option (List I)→Option I
 |some fs=>gV k n (iv n esz fs (fB s fs[k.toNat]?))
 |none=>none
noncomputable def pR(n esz:Nat)(s:Option Nat)(x:I):I→Option I
 | .int _ k=>mD n esz s k x.db
 |_=>none
theorem XS(A:ab)(n esz:Nat)(s:Option Nat)(x i:aw):aU A (.ix n esz s x i)=pR n esz s (af A x) (af A i):=by
 simp only[aU];generalize af A x=y;generalize af A i=z;cases z <;>simp only[pR]
 rename_i kk k;cases y <;>simp only[I.db,mD]
 case agg fs =>
  simp only[gV,iv];split
  ·split
   ·cases fs[k.toNat]? <;>rfl
   ·rfl
  ·rfl
 all_goals (split <;>rfl)
def jM(A:ab):I→Option I
 | .slice _ es=>some (.int .i64 es.length)
 | .nils _=>some (.int .i64 0)
 | .c0 _=>some (.int .i64 0)
 | .own m l=>match A.o m with | some (.bF _ _ es)=>if l=es.length then some (.int .i64 es.length) else none | _=>none
 | .view _ _ _ _ k=>some (.int .i64 k)
 |_=>none
theorem XU(A:ab)(x:aw):aU A (.len x)=jM A (af A x):=by
 simp only[aU];generalize af A x=y;cases y <;>rfl
open Classical in
noncomputable def qI(n esz:Nat)(fs:List I)(y:I):Option I:=if gp n esz fs=true∧n≤maxLen∧n≠0 then some y else none
noncomputable def qJ(n esz m:Nat)(p:List Nat):Option (List I)→Option I
 |some fs=>qI n esz fs (.view m p esz 0 n)
 |none=>none
noncomputable def ED(n esz:Nat):Option (List I)→Option I
 |some fs=>qI n esz fs (.slice esz fs)
 |none=>none
noncomputable def nu(A:ab)(n esz:Nat):I→Option I
 | .ptr m p=>qJ n esz m p (eg (dA p (A.o m)))
 | .ref c=>ED n esz c.db
 |_=>none
theorem XV(A:ab)(n esz:Nat)(x:aw):aU A (.va n esz x)=nu A n esz (af A x):=by
 simp only[aU];generalize af A x=y;cases y with
 |ptr m p =>
  simp only[nu,jG,ft];cases dA p (A.o m) with
  |none=>simp[eg,qJ]
  |some c=>cases c <;>simp only[eg,I.db,qJ,qI] <;>(split <;>simp_all)
 |ref c=>cases c <;>simp only[nu,I.db,ED,qI] <;>(split <;>simp_all)
 |_=>simp only[nu]
theorem XT(A:ab)(s:Option Nat)(x:aw):aU A (.ld s x)=fB s (ft A (af A x)):=by
 simp only[aU,jG];cases ft A (af A x) <;>simp only[fB,lW]
noncomputable def qi(A:ab)(d:Option Nat)(a b:aw)(rest:List av):I→bW
 | .bool t=>aq rest (A.aN d (if t then af A a else af A b))
 |_=>.fail
noncomputable def qH(op:UnOp)(x:I):Option I:=match op,x with
  | .not,.bool b=>some (.bool !b)
  | .neg,.int k n=>some (.int k (k.wrap (0-n)))
  | .xor,.int k n=>some (.int k (nM k n))
  |_,_=>none
def uH(i:Nat):I→Option I
 | .tuple fs=>fs[i]?
 |_=>none
def um(k:IntKind):I→Option I
 | .int _ n=>some (.int k (k.wrap n))
 |_=>none
noncomputable def tO(A:ab)(d:Nat)(z:I)(rest:List av):Option ai→bW
 |none=>aq rest ((A.aP d (.box z)).put d (.ptr d []))
 |some _=>.fail
noncomputable def rh(A:ab)(d:Nat)(z:I)(rest:List av)(v:Bool):bW:=if v=true then aq rest ((A.aP d (.box z)).put d (.ptr d [])) else .fail
noncomputable def rf(A:ab)(d:Nat)(z:I)(rest:List av):Option ai→bW
 |none=>rh A d z rest z.cn
 |some _=>.fail
open Classical in
noncomputable def ev(A:ab)(s:Option Nat)(n:Nat)(p:List Nat)(b v:I)(rest:List av):Option I→bW
 |some old=>if vK s v old then aq rest (A.aP n (.box (b.du p v))) else .fail
 |none=>.fail
noncomputable def th(A:ab)(s:Option Nat)(n:Nat)(p:List Nat)(v:I)(rest:List av):Option ai→bW
 |some (.box b)=>ev A s n p b v rest (b.at p)
 |_=>.fail
noncomputable def tg(A:ab)(s:Option Nat)(v:I)(rest:List av):I→bW
 | .ptr n p=>th A s n p v rest (A.o n)
 |_=>.fail
noncomputable def pq(A:ab)(d:Option Nat)(args:List I)(rest:List av):I→bW
 | .func f caps=>.call (ka f) (gE f args caps) (bI true A (gE f args caps)) (bI false A (gE f args caps)) d rest A
 | .raw v=>.kN v args d rest A
 |_=>.fail
section
variable (d:Option Nat) (rest:List av) (A:ab)
theorem FO(op:br):aq (⟨d,op,none⟩::rest) A=bn A d op rest:=rfl
theorem FP(op:br)(t:Nat)(b:Bool):aq (⟨d,op,some (t,b)⟩::rest) A=fW (A.t t) b d op rest A:=rfl
theorem Uy(op:br):fW (.bool true) true d op rest A=bn A d op rest:=by simp[fW]
theorem Uv(op:br):fW (.bool false) false d op rest A=bn A d op rest:=by simp[fW]
theorem Ux(op:br):fW (.bool true) false d op rest A=aq rest (A.aN d .undef):=by simp[fW]
theorem Uw(op:br):fW (.bool false) true d op rest A=aq rest (A.aN d .undef):=by simp[fW]
theorem Uz(op:br)(b:Bool):fW .undef b d op rest A=aq rest (A.aN d .undef):=rfl
theorem WV(x:aw):bn A d (.mv x) rest=aq rest (A.aN d (af A x)):=rfl
theorem WZ(c a b:aw):bn A d (.pick c a b) rest=qi A d a b rest (af A c):=by
 simp only[bn,aV,aU];cases af A c <;>simp only[b7,qi]
theorem Wu(op:BinOp)(x y:aw):bn A d (.bin op x y) rest=b7 (bJ op (af A x) (af A y)) (cC d rest A):=rfl
theorem WE(ty:bX)(neg:Bool)(x y:aw):bn A d (.eqv ty neg x y) rest=b7 ((bT ty (af A x) (af A y)).map fun b=>.bool (if neg then !b else b)) (cC d rest A):=rfl
theorem W9(op:UnOp)(x:aw):bn A d (.un op x) rest=b7 (qH op (af A x)) (cC d rest A):=rfl
theorem WC(k:IntKind)(x:aw):bn A d (.conv k x) rest=b7 (um k (af A x)) (cC d rest A):=by
 simp only[bn,aV,aU];cases af A x <;>rfl
theorem WM(s:Option Nat)(x:aw):bn A d (.ld s x) rest=b7 (fB s (ft A (af A x))) (cC d rest A):=by rw[←XT];rfl
theorem WH(f off:Nat)(x:aw):bn A d (.fa f off x) rest=b7 (lM A f off (af A x)) (cC d rest A):=by rw[←XO];rfl
theorem WI(f off:Nat)(s:Option Nat)(x:aw):bn A d (.fl f off s x) rest=b7 (rG f off s (af A x).db) (cC d rest A):=by rw[←XP];rfl
theorem WJ(n esz:Nat)(x i:aw):bn A d (.ia n esz x i) rest=b7 (pK A n esz (af A x) (af A i)) (cC d rest A):=by rw[←XQ];rfl
theorem WK(esz:Nat)(x i:aw):bn A d (.is esz x i) rest=b7 (pO A esz (af A x) (af A i)) (cC d rest A):=by rw[←XR];rfl
theorem WL(n esz:Nat)(s:Option Nat)(x i:aw):bn A d (.ix n esz s x i) rest=b7 (pR n esz s (af A x) (af A i)) (cC d rest A):=by rw[←XS];rfl
theorem WN(x:aw):bn A d (.len x) rest=b7 (jM A (af A x)) (cC d rest A):=by rw[←XU];rfl
theorem Xa(n esz:Nat)(x:aw):bn A d (.va n esz x) rest=b7 (nu A n esz (af A x)) (cC d rest A):=by rw[←XV];rfl
theorem Wv(zs:List I)(ps:List (Nat×aw)):bn A d (.bld zs ps) rest=b7 ((fp zs (ps.map fun p=>(p.1,af A p.2))).map .agg) (cC d rest A):=rfl
theorem WG(x:aw)(i:Nat):bn A d (.ext x i) rest=b7 (uH i (af A x)) (cC d rest A):=by
 simp only[bn,aV,aU];cases af A x <;>rfl
theorem WR(f:FuncId)(caps:List aw):bn A d (.mk f caps) rest=b7 (if ((caps.map (af A)).all fun y=>y.cn)=true then some (.func f (caps.map (af A))) else none) (cC d rest A):=rfl
theorem Wr(d:Nat)(z:I):bn A (some d) (.alloc z) rest=tO A d z rest (A.o d):=by
 simp only[bn,aV];cases A.o d <;>rfl
theorem Ww(d:Nat)(x:aw):bn A (some d) (.box x) rest=rf A d (af A x) rest (A.o d):=by
 simp only[bn,aV];cases A.o d <;>simp only[rf,rh]
theorem W8(s:Option Nat)(x v:aw):bn A none (.aR s x v) rest=tg A s (af A v) rest (af A x):=by
 simp only[bn,aV];cases af A x <;>simp only[tg]
 rename_i n p;cases A.o n with
 |none=>rfl
 |some y =>
  cases y <;>simp only[th]
  rename_i b;cases b.at p <;>simp only[ev]
theorem Wy(f:FuncId)(args:List aw):bn A d (.call f args) rest=.call f (args.map (af A)) (bI true A (args.map (af A))) (bI false A (args.map (af A))) d rest A:=rfl
theorem Wz(x:aw)(args:List aw):bn A d (.eV x args) rest=pq A d (args.map (af A)) rest (af A x):=by
 simp only[bn,aV];cases af A x <;>rfl
end
end Go.Abs
namespace Go.Abs
open Go Go.RowKit
mutual
/-- Closed,and as a result is told: no nil slice but as the empty one. -/
def I.done:I→Bool
 | .agg fs=>I.iO fs
 | .slice _ es=>I.b9 es
 | .ref x=>x.bu
 | .func f caps=>decide (f<1000000)&&I.iO caps
 | .iface _ v=>v.bu
 | .cZ ks vs=>I.b9 ks&&I.b9 vs
 | .bool _ | .int _ _ | .ah _ | .nilp | .dc | .cQ | .any | .raw _=>true
 |_=>false
def I.iO:List I→Bool
 | []=>true
 |x::xs=>x.done&&I.iO xs
end
mutual
theorem uw:∀ x:I,x.done=true→x.bu=true
 | .agg fs,h=>by simp only[I.done,I.bu] at *;exact ux fs h
 | .slice _ es,h=>by simpa only[I.done,I.bu] using h
 | .ref x,h=>by simpa only[I.done,I.bu] using h
 | .func _ caps,h=>by simp only[I.done,I.bu,Z0] at *;exact ux caps h.2
 | .iface _ v,h=>by simpa only[I.done,I.bu] using h
 | .bool _,_ | .int _ _,_ | .ah _,_ | .nilp,_ | .dc,_ | .cQ,_ | .any,_ | .raw _,_=>by simp[I.bu]
 | .cZ _ _,h=>by simpa only[I.done,I.bu] using h
 | .nils _,h | .c0 _,h | .ptr _ _,h | .own _ _,h | .view _ _ _ _ _,h | .mref _,h | .cU _,h | .undef,h | .cX,h | .tuple _,h=>by simp[I.done] at h
theorem ux:∀ xs:List I,I.iO xs=true→I.b9 xs=true
 | [],_=>rfl
 |x::xs,h=>by
  simp only[I.iO,I.b9,Z0] at *;exact ⟨uw x h.1,ux xs h.2⟩
end
mutual
theorem z7(aG:Bool)(A:ab):∀ x:I,x.done=true→ba aG A x=some x
 | .agg fs,h=>by simp only[I.done,ba] at *;rw[uS aG A fs h];rfl
 | .slice _ es,h=>by simp only[I.done] at h;simp[ba,h]
 | .ref x,h=>by simp only[I.done] at h;simp[ba,h]
 | .func _ caps,h=>by simp only[I.done,ba,Z0,decide_eq_true_eq] at *;rw[if_pos h.1,uS aG A caps h.2];rfl
 | .iface _ v,h=>by simp only[I.done] at h;simp[ba,h]
 | .bool _,_ | .int _ _,_ | .ah _,_ | .nilp,_ | .dc,_ | .cQ,_ | .any,_ | .raw _,_=>by simp[ba]
 | .cZ _ _,h=>by simp only[I.done] at h;simp[ba,h]
 | .nils _,h | .c0 _,h | .ptr _ _,h | .own _ _,h | .view _ _ _ _ _,h | .mref _,h | .cU _,h | .undef,h | .cX,h | .tuple _,h=>by simp[I.done] at h
theorem uS(aG:Bool)(A:ab):∀ xs:List I,I.iO xs=true→bI aG A xs=some xs
 | [],_=>by simp[bI]
 |x::xs,h=>by
  simp only[I.iO,Z0] at h;simp only[bI,z7 aG A x h.1,uS aG A xs h.2]
end
theorem LF{x:I}(h:x.done=true):x.cn=true:=by cases x <;>simp_all[I.done,I.cn]
class Enc (α:Type) where
 enc:α→I
 sz:Nat
 aK:bN
 gq:Bool
 done:∀ x,(enc x).done=true
 size:∀ x,(enc x).size=sz
 iE:∀ x,(enc x).aK=aK
 agg:∀ x,(enc x).isAgg=gq
open Enc (enc)
instance:Enc Int where
 enc n:=.int .i64 n
 sz:=1
 aK:=.one
 gq:=false
 done _:=rfl
 size _:=by simp[I.size]
 iE _:=by simp[I.aK]
 agg _:=rfl
instance:Enc Bool where
 enc b:=.bool b
 sz:=1
 aK:=.one
 gq:=false
 done _:=rfl
 size _:=by simp[I.size]
 iE _:=by simp[I.aK]
 agg _:=rfl
theorem pt{α:Type}[Enc α](l:List α):I.b9 (l.map enc)=true:=by
 induction l with
 |nil=>rfl
 |cons x l ih=>simp only[Z4,I.b9,uw _ (Enc.done x),ih,Bool.and_self]
theorem LG{α:Type}[Enc α](l:List α):I.iO (l.map enc)=true:=by
 induction l with
 |nil=>rfl
 |cons x l ih=>simp only[Z4,I.iO,Enc.done x,ih,Bool.and_self]
theorem YI{α:Type}[Enc α](l:List α):I.sizes (l.map enc)=l.length*Enc.sz α:=by
 rw[I.gi (sz:=Enc.sz α) _ (by simp only[zy1];rintro x ⟨y,_,rfl⟩;exact Enc.size y)];simp
theorem wz{α:Type}[Enc α](l:List α):I.cL (l.map enc)=List.replicate l.length (Enc.aK α):=by
 induction l with
 |nil=>rfl
 |cons x l ih=>simp only[Z4,I.cL,Enc.iE x,ih,zz5,List.replicate_succ]
instance {α:Type} [Enc α]:Enc (List α) where
 enc l:=.slice (Enc.sz α) (l.map enc)
 sz:=1
 aK:=.one
 gq:=false
 done l:=by simp only[I.done];exact pt l
 size _:=by simp[I.size]
 iE _:=by simp[I.aK]
 agg _:=rfl
structure dW (n:Nat) (α:Type) where
 l:List α
 h:l.length=n
instance {n:Nat} {α:Type} [Enc α]:Enc (dW n α) where
 enc x:=.agg (x.l.map enc)
 sz:=n*Enc.sz α
 aK:=.eI (List.replicate n (Enc.aK α))
 gq:=true
 done x:=by simp only[I.done];exact LG x.l
 size x:=by simp only[I.size,YI,x.h]
 iE x:=by simp only[I.aK,wz,x.h]
 agg _:=rfl
section
variable {α:Type} [Enc α]
theorem jg(aG:Bool)(A:ab)(x:α):ba aG A (enc x)=some (enc x):=z7 aG A _ (Enc.done x)
theorem j8(x:α):(enc x).bu=true:=uw _ (Enc.done x)
theorem bK(p:Nat→Bool)(x:α):(enc x).only p=true:=lX p _ (j8 x)
theorem fh(x:α):(enc x).cn=true:=LF (Enc.done x)
theorem LO(x:α):bV none (enc x) = !(Enc.gq α):=by simp[bV,Enc.agg]
theorem ir(n:Nat)(x:α):bV (some n) (enc x)=(Enc.gq α&&Enc.sz α==n):=by simp[bV,Enc.agg,Enc.size]
theorem lL(x:α):(enc x).size=Enc.sz α:=Enc.size x
theorem eD(x:α):(enc x).aK=Enc.aK α:=Enc.iE x
theorem rz(n:Int):(enc n:I)=.int .i64 n:=rfl
theorem LL(n:Bool):(enc n:I)=.bool n:=rfl
theorem gT(l:List α):(enc l:I)=.slice (Enc.sz α) (l.map enc):=rfl
theorem LS:Enc.sz (List α)=1:=rfl
theorem uF(n esz:Nat)(l:List α)(h:l.length=n)(h2:Enc.sz α=esz):gp n esz (l.map enc)=true:=by
 simp only[gp,Z2,h,BEq.rfl,Bool.true_and,zy5,zy1];rintro x ⟨y,_,rfl⟩;simp[Enc.size,h2]
theorem FY(l:List α):∀ x∈l.map (enc (α:=α)),x.size=Enc.sz α:=by
 simp only[zy1];rintro x ⟨y,_,rfl⟩;exact Enc.size y
end
theorem dC(n:Int)(h1:-9223372036854775808≤n)(h2:n≤9223372036854775807):IntKind.i64.wrap n=n:=IntWalk.i64_in n ⟨h1,h2⟩
theorem aM.mk{P:Program}{f:FuncId}{fn:Func}{x:bj}{rs:List bq}{args:List I}{r:I}(hf:P.funcs[f]?=some fn)(hcall:dO P f=true)(hc:(fn.body.bind (dN P fn.ntmps))=some x)
  (hrs:fR P fn.results.toList=some rs) (hn:args.length≤fn.ntmps) (h:∀ (w:World) (D:aI) (E:aO),U ⟨P,w,D,fn.ntmps,bS E,E,fy,none,none⟩ x (jV rs r) (ay (bB 0 args) [])):aM P f args r:=by
 obtain ⟨body,hb,hc'⟩:=zx3.1 hc;exact aM.sB hf hb hcall hc' hrs hn (fun w D E=>(h w D E).sub (YS args))
end Go.Abs
namespace Go.Abs.C
open Go Go.Abs
abbrev o(a:Nat)(x:br):av:=⟨some a,x,none⟩
abbrev bz(a:Nat)(x:br)(k:Nat):av:=⟨some a,x,some (k,true)⟩
abbrev on(a:Nat)(x:br)(k:Nat):av:=⟨some a,x,some (k,false)⟩
abbrev p(x:br):av:=⟨none,x,none⟩
abbrev aW(n:Int):aw:=.c (.int .i64 n)
abbrev T:aw:=.c (.bool true)
abbrev bl:aw:=.c (.bool false)
abbrev m(a b:Nat):av:=⟨some a,.mv (.t b),none⟩
abbrev da(a b k:Nat):av:=⟨some a,.mv (.t b),some (k,true)⟩
abbrev fx(a b k:Nat):av:=⟨some a,.mv (.t b),some (k,false)⟩
abbrev bm(a:Nat)(n:Int):av:=⟨some a,.mv (.c (.int .i64 n)),none⟩
abbrev l(a b:Nat):av:=⟨some a,.ld none (.t b),none⟩
abbrev gu(a b k:Nat):av:=⟨some a,.ld none (.t b),some (k,true)⟩
abbrev gr(a b k:Nat):av:=⟨some a,.ld none (.t b),some (k,false)⟩
abbrev ao(a s b:Nat):av:=⟨some a,.ld (some s) (.t b),none⟩
abbrev f(a b c d:Nat):av:=⟨some a,.fa b c (.t d),none⟩
abbrev dR(a b c d k:Nat):av:=⟨some a,.fa b c (.t d),some (k,true)⟩
abbrev fn(a b c d k:Nat):av:=⟨some a,.fa b c (.t d),some (k,false)⟩
abbrev ad(a b:Nat)(n:Int):av:=⟨some a,.bin .add (.t b) (.c (.int .i64 n)),none⟩
abbrev lt(a b c:Nat):av:=⟨some a,.bin .lss (.t b) (.t c),none⟩
abbrev and(a b c:Nat):av:=⟨some a,.pick (.t b) (.t c) (.c (.bool false)),none⟩
abbrev or(a b c:Nat):av:=⟨some a,.pick (.t b) (.c (.bool true)) (.t c),none⟩
abbrev no(a b:Nat):av:=⟨some a,.un .not (.t b),none⟩
abbrev b(a c:Nat):av:=⟨some a,.box (.t c),none⟩
abbrev s(x y:bj):bj:=.seq x y
abbrev r(g:List av):bj:=.bQ none g
abbrev bP(P:Program)(f:Func)(c:bj):Prop:=f.body.bind (dN P f.ntmps)=some c
abbrev bM(P:Program)(f:Func)(r:List bq):Prop:=fR P f.results.toList=some r
abbrev bG(P:Program)(n:FuncId):Prop:=dO P n=true
theorem e{α:Type}{a b:α}(h:a=b):a=b:=h
end Go.Abs.C
namespace Go.Proofs.YtoffnnjbplgnaaaGreatDoor
open Go Go.Abs Go.Abs.C
def RB:=[b 2 0,o 4 (.mv bl)]
def RC:=[o 11 (.call 14 []),m 5 11]
def RD:=[ao 13 4 2,o 14 (.call 18 [.t 13]),m 12 14,o 15 (.ext (.t 12) 0),o 16 (.ext (.t 12) 1),o 6 (.alloc (.agg [.agg [.ah ⟨#[]⟩,.ah ⟨#[]⟩],.agg [.ah ⟨#[]⟩,.ah ⟨#[]⟩]])),p (.aR (some 4) (.t 6) (.t 15)),m 7 16]
def RE:=[ao 18 4 2,o 19 (.call 19 [.t 18]),m 17 19,o 20 (.ext (.t 17) 0),o 21 (.ext (.t 17) 1),o 8 (.alloc (.agg [.agg [.ah ⟨#[]⟩,.ah ⟨#[]⟩],.agg [.ah ⟨#[]⟩,.ah ⟨#[]⟩]])),p (.aR (some 4) (.t 8) (.t 20)),m 9 21]
def RF:=[m 22 7,m 23 9,o 24 (.call 17 [.t 22,.t 23]),m 10 24]
def RG:=[m 25 5,m 26 25,bz 27 (.ld (some 4) (.t 6)) 26,bz 28 (.ld (some 4) (.t 8)) 26,bz 29 (.eqv (.aR [(.aR [.s,.s]),(.aR [.s,.s])]) false (.t 27) (.t 28)) 26,and 30 26 29,m 31 30,da 32 10 31,and 33 31 32,m 34 33,bz 35 (.ld (some 4) (.t 2)) 34,bz 36 (.call 20 [.t 35]) 34,bz 37 (.ld (some 4) (.t 2)) 34,bz 38 (.call 21 [.t 37]) 34,bz 39 (.eqv (.aR [(.aR [.s,.s]),(.aR [.s,.s])]) false (.t 36) (.t 38)) 34,and 40 34 39,m 41 40,bz 42 (.ld (some 4) (.t 2)) 41,da 43 1 41,bz 44 (.call 22 [.t 42,.t 43]) 41,bz 45 (.ld (some 4) (.t 2)) 41,da 46 1 41,bz 47 (.call 23 [.t 45,.t 46]) 41,bz 48 (.eqv (.aR [(.aR [.s,.s]),(.aR [.s,.s])]) false (.t 44) (.t 47)) 41,and 49 41 48,m 50 49,bz 51 (.ld (some 4) (.t 2)) 50,bz 52 (.call 24 [.t 51,T]) 50,bz 53 (.ld (some 4) (.t 2)) 50,bz 54 (.call 25 [.t 53,T]) 50,bz 55 (.eqv (.aR [(.aR [.s,.s]),(.aR [.s,.s])]) false (.t 52) (.t 54)) 50,and 56 50 55,m 57 56,bz 58 (.ld (some 4) (.t 2)) 57,bz 59 (.call 24 [.t 58,bl]) 57,bz 60 (.ld (some 4) (.t 2)) 57,bz 61 (.call 25 [.t 60,bl]) 57,bz 62 (.eqv (.aR [(.aR [.s,.s]),(.aR [.s,.s])]) false (.t 59) (.t 61)) 57,and 63 57 62,m 4 63]
def K8:=some [[],[0],[1],[1],[2,3,1],[1,4],[5,1],[6],[6,7],[8,6],[9],[10,9,9],[9],[12,11,9],[11,13,9],[9,14],[15,13],[16],[16],[17,18,16,16],[16],[16],[20,21,19,16],[19,22,16],[16,23],[24,22],[25],[26,25,25],[25],[28,27,25],[27,29,25],[25,30],[31,29],[32],[33,32,32],[32],[35,34,32],[34,36,32],[32,37],[38,36,0,1,2,3,4,5,6,7,8,9,10,11,12,13,14,15,16,17,18,19,20,21,22,23,24,25,26,27,28,29,30,31,32,33,34,35,36,37,38]]
def c4:bj:=(s (r RB) (s (r RC) (s (r RD) (s (r RE) (s (r RF) (s (.bQ K8 RG) .ret))))))
def CP:List bq:=[.tmp 4]
theorem I1:bP Tryz.prog Tryz.f4 c4:=e (by kernel_rfl)
theorem Ki:bM Tryz.prog Tryz.f4 CP:=e (by kernel_rfl)
theorem HI:bG Tryz.prog 4:=e (by kernel_rfl)
def NR:=[o 0 (.mv bl)]
def NS:=[o 21 (.bld [.int .i64 0,.int .i64 0] [(0,(aW 2))]),o 22 (.bld [.agg [.int .i64 0,.int .i64 0],.int .i64 0,.int .i64 0,.int .i64 0,.agg [.int .i64 0,.int .i64 0],.ah ⟨#[]⟩] [(0,(.t 21)),(1,(aW 5)),(2,(aW 10)),(3,(aW 12)),(5,(.c (.ah ⟨#[97]⟩)))]),o 1 (.alloc (.agg [.agg [.int .i64 0,.int .i64 0],.int .i64 0,.int .i64 0,.int .i64 0,.agg [.int .i64 0,.int .i64 0],.ah ⟨#[]⟩])),p (.aR (some 8) (.t 1) (.t 22))]
def NV:=[ao 24 8 1,o 25 (.call 29 [(aW 1),.t 24]),m 23 25,o 26 (.ext (.t 23) 0),o 27 (.ext (.t 23) 1),o 28 (.ext (.t 23) 2),m 2 26,m 3 27,m 4 28]
def NW:=[m 30 2,o 31 (.call 31 [(aW 1),.t 30]),m 29 31,o 32 (.ext (.t 29) 0),o 33 (.ext (.t 29) 1),o 34 (.ext (.t 29) 2),o 5 (.alloc (.agg [.agg [.int .i64 0,.int .i64 0],.int .i64 0,.int .i64 0,.int .i64 0,.agg [.int .i64 0,.int .i64 0],.ah ⟨#[]⟩])),p (.aR (some 8) (.t 5) (.t 32)),m 6 33,m 7 34]
def NX:=[o 36 (.bld [.agg [.ah ⟨#[]⟩,.ah ⟨#[]⟩],.agg [.ah ⟨#[]⟩,.ah ⟨#[]⟩]] []),ao 37 8 1,o 38 (.call 35 [.t 36,(.c (.nils 8)),.t 37]),m 35 38,o 39 (.ext (.t 35) 0),o 40 (.ext (.t 35) 1),o 41 (.ext (.t 35) 2),o 8 (.alloc (.agg [.agg [.ah ⟨#[]⟩,.ah ⟨#[]⟩],.agg [.ah ⟨#[]⟩,.ah ⟨#[]⟩]])),p (.aR (some 4) (.t 8) (.t 39)),m 9 40,m 10 41]
def NY:=[ao 43 4 8,o 44 (.call 22 [.t 43,(.c (.nils 1))]),o 45 (.call 18 [.t 44]),m 42 45,o 46 (.ext (.t 42) 0),o 47 (.ext (.t 42) 1),o 11 (.alloc (.agg [.agg [.ah ⟨#[]⟩,.ah ⟨#[]⟩],.agg [.ah ⟨#[]⟩,.ah ⟨#[]⟩]])),p (.aR (some 4) (.t 11) (.t 46)),m 12 47]
def NZ:=[ao 49 4 8,f 50 0 0 8,f 51 1 1 50,l 52 51,o 53 (.lenT (.t 52)),o 54 (.bs 3 1 [.t 53,(aW 0),(aW 0)]),o 55 (.call 22 [.t 49,.t 54]),o 56 (.call 18 [.t 55]),m 48 56,o 57 (.ext (.t 48) 0),o 58 (.ext (.t 48) 1),o 13 (.alloc (.agg [.agg [.ah ⟨#[]⟩,.ah ⟨#[]⟩],.agg [.ah ⟨#[]⟩,.ah ⟨#[]⟩]])),p (.aR (some 4) (.t 13) (.t 57)),m 14 58]
def N0:=[ao 60 4 8,f 61 0 0 8,f 62 1 1 61,l 63 62,o 64 (.lenT (.t 63)),o 65 (.bs 3 1 [.t 64,(aW 1),(aW 3)]),o 66 (.call 22 [.t 60,.t 65]),o 67 (.call 18 [.t 66]),m 59 67,o 68 (.ext (.t 59) 0),o 69 (.ext (.t 59) 1),o 15 (.alloc (.agg [.agg [.ah ⟨#[]⟩,.ah ⟨#[]⟩],.agg [.ah ⟨#[]⟩,.ah ⟨#[]⟩]])),p (.aR (some 4) (.t 15) (.t 68)),m 16 69]
def N4:=[ao 71 4 8,o 72 (.call 20 [.t 71]),o 73 (.call 24 [.t 72,bl]),o 74 (.call 18 [.t 73]),m 70 74,o 75 (.ext (.t 70) 0),o 76 (.ext (.t 70) 1),o 17 (.alloc (.agg [.agg [.ah ⟨#[]⟩,.ah ⟨#[]⟩],.agg [.ah ⟨#[]⟩,.ah ⟨#[]⟩]])),p (.aR (some 4) (.t 17) (.t 75)),m 18 76]
def N5:=[m 77 4,o 78 (.bin .eql (.t 77) (aW 0)),m 79 78,da 80 7 79,bz 81 (.bin .eql (.t 80) (aW 0)) 79,and 82 79 81,m 83 82,da 84 10 83,bz 85 (.bin .eql (.t 84) (aW 0)) 83,and 86 83 85,m 87 86,da 88 9 87,bz 89 (.len (.t 88)) 87,bz 90 (.bin .eql (.t 89) (aW 1)) 87,and 91 87 90,m 19 91]
def NT:=[m 92 2,o 93 (.lenT (.t 92)),o 94 (.bin .gtr (.t 93) (aW 18)),m 95 94,da 96 2 95,da 97 2 95,bz 98 (.lenT (.t 97)) 95,bz 99 (.bin .sub (.t 98) (aW 18)) 95,bz 100 (.prim (.ss true false) [.t 96,.t 99]) 95,bz 101 (.bin .eql (.t 100) (.c (.ah ⟨#[50,32,48,32,53,32,49,48,32,49,50,32,48,32,48,32,97,10]⟩))) 95,and 102 95 101,m 20 102]
def NU:=[m 103 19,m 104 103,da 105 20 104,and 106 104 105,m 107 106,bz 108 (.ld (some 8) (.t 5)) 107,bz 109 (.ld (some 8) (.t 1)) 107,bz 110 (.eqv (.aR [(.aR [(.i .i64),(.i .i64)]),(.i .i64),(.i .i64),(.i .i64),(.aR [(.i .i64),(.i .i64)]),.s]) false (.t 108) (.t 109)) 107,and 111 107 110,m 112 111,da 113 6 112,da 114 3 112,bz 115 (.bin .eql (.t 113) (.t 114)) 112,and 116 112 115,m 117 116,dR 118 0 0 8 117,dR 119 1 1 118 117,gu 120 119 117,da 121 2 117,bz 122 (.bin .eql (.t 120) (.t 121)) 117,and 123 117 122,m 124 123,dR 125 1 2 8 124,bz 126 (.ld (some 2) (.t 125)) 124,bz 127 (.bld [.ah ⟨#[]⟩,.ah ⟨#[]⟩] []) 124,bz 128 (.eqv (.aR [.s,.s]) false (.t 126) (.t 127)) 124,and 129 124 128,m 130 129,da 131 12 130,bz 132 (.len (.t 131)) 130,bz 133 (.bin .eql (.t 132) (aW 0)) 130,and 134 130 133,m 135 134,da 136 14 135,bz 137 (.len (.t 136)) 135,bz 138 (.bin .eql (.t 137) (aW 1)) 135,and 139 135 138,m 140 139,da 141 16 140,bz 142 (.len (.t 141)) 140,bz 143 (.bin .eql (.t 142) (aW 0)) 140,and 144 140 143,m 145 144,da 146 18 145,bz 147 (.len (.t 146)) 145,bz 148 (.bin .eql (.t 147) (aW 1)) 145,and 149 145 148,m 150 149,dR 151 0 0 17 150,dR 152 0 0 151 150,gu 153 152 150,da 154 2 150,bz 155 (.bin .eql (.t 153) (.t 154)) 150,and 156 150 155,m 157 156,dR 158 1 2 17 157,dR 159 0 0 158 157,gu 160 159 157,da 161 2 157,bz 162 (.bin .eql (.t 160) (.t 161)) 157,and 163 157 162,m 0 163]
def yh:bj:=(s (r NR) (s (r NS) (s (r NV) (s (r NW) (s (r NX) (s (r NY) (s (r NZ) (s (r N0) (s (r N4) (s (r N5) (s (r NT) (s (r NU) .ret))))))))))))
def Cp:List bq:=[.tmp 0]
theorem Iz:bP Tryz.prog Tryz.f14 yh:=e (by kernel_rfl)
theorem JS:bM Tryz.prog Tryz.f14 Cp:=e (by kernel_rfl)
theorem Hg:bG Tryz.prog 14:=e (by kernel_rfl)
def Og:=[o 2 (.mv (.c (.nils 8))),o 3 (.mv (.c (.ah ⟨#[]⟩)))]
def Oh:=[o 4 (.alloc (.nils 8))]
def Oj:=[o 5 (.alloc (.int .i64 0)),o 6 (.alloc (.int .i64 0)),p (.aR none (.t 5) (aW 1)),p (.aR none (.t 6) (aW 0))]
def Ol:=[m 11 0,o 12 (.call 69 [.t 11])]
def Om:=[m 7 13]
def On:=[l 15 5,m 16 7,o 17 (.call 70 [.t 15,.t 16]),m 14 17,o 18 (.ext (.t 14) 0),o 19 (.ext (.t 14) 1),o 20 (.ext (.t 14) 2),o 8 (.alloc (.agg [.agg [.int .i64 0,.int .i64 0],.int .i64 0,.int .i64 0,.int .i64 0,.agg [.int .i64 0,.int .i64 0],.ah ⟨#[]⟩])),p (.aR (some 8) (.t 8) (.t 18)),m 9 19,m 10 20]
def Oo:=[m 21 10,no 22 21,m 23 22,gr 24 4 23,on 25 (.ld (some 8) (.t 8)) 23,on 26 (.call 71 [.t 24,.t 25]) 23,on 27 (.un .not (.t 26)) 23,or 28 23 27]
def Oq:=[l 29 4,ao 30 8 8,o 31 (.bs 50 8 [.t 30]),o 32 (.dL 50 8 72 (.agg [.agg [.int .i64 0,.int .i64 0],.int .i64 0,.int .i64 0,.int .i64 0,.agg [.int .i64 0,.int .i64 0],.ah ⟨#[]⟩]) (.t 29) (.t 31)),p (.aR none (.t 4) (.t 32))]
def Ot:=[m 33 9,p (.aR none (.t 5) (.t 33))]
def Ou:=[l 34 6,m 35 7,o 36 (.lenT (.t 35)),o 37 (.bin .add (.t 34) (.t 36)),p (.aR none (.t 6) (.t 37))]
def Oi:=[l 38 4,m 39 0,l 40 6,o 41 (.prim (.ss false true) [.t 39,.t 40]),m 2 38,m 3 41]
def KX:=some [[],[],[],[1,2],[0,0],[3,4,0,1,2,3,4]]
def yj:bj:=(s (r Og) (s (r Oh) (s (r Oj) (s (s (r Ol) (.block 0 (.mY (.t 12) [13] (r Om) (.block 1 (s (r On) (s (s (r Oo) (.cond (.t 28) (.exit 0) .skip)) (s (r Oq) (s (r Ot) (r Ou))))))))) (s (.bQ KX Oi) .ret)))))
def Cr:List bq:=[.tmp 2,.tmp 3]
theorem IB:bP Tryz.prog Tryz.f15 yj:=e (by kernel_rfl)
theorem JU:bM Tryz.prog Tryz.f15 Cr:=e (by kernel_rfl)
theorem Hi:bG Tryz.prog 15:=e (by kernel_rfl)
def OS:=[o 2 (.mv (.c (.nils 8))),o 3 (.mv (.c (.ah ⟨#[]⟩)))]
def OT:=[o 4 (.mv (.c (.nils 8)))]
def OZ:=[bm 5 0]
def O0:=[bm 6 1]
def O1:=[m 11 5,m 12 0,o 13 (.lenT (.t 12)),lt 14 11 13]
def O2:=[m 15 5,m 7 15]
def O3:=[m 16 7,m 17 0,o 18 (.lenT (.t 17)),lt 19 16 18,m 20 19,da 21 0 20,da 22 7 20,bz 23 (.prim .dp [.t 21,.t 22]) 20,bz 24 (.bin .neq (.t 23) (.c (.int .u8 10))) 20,and 25 20 24]
def O4:=[m 26 7,ad 27 26 1,m 7 27]
def O5:=[m 28 7,m 29 0,o 30 (.lenT (.t 29)),o 31 (.bin .eql (.t 28) (.t 30))]
def O6:=[m 33 6,m 34 0,m 35 5,m 36 7,ad 37 36 1,o 38 (.prim (.ss true true) [.t 34,.t 35,.t 37]),o 39 (.call 32 [.t 33,.t 38]),m 32 39,o 40 (.ext (.t 32) 0),o 41 (.ext (.t 32) 1),o 42 (.ext (.t 32) 2),o 8 (.alloc (.agg [.agg [.int .i64 0,.int .i64 0],.int .i64 0,.int .i64 0,.int .i64 0,.agg [.int .i64 0,.int .i64 0],.ah ⟨#[]⟩])),p (.aR (some 8) (.t 8) (.t 40)),m 9 41,m 10 42]
def OU:=[m 43 10,o 44 (.bin .neq (.t 43) (aW 0)),m 45 44,fx 46 4 45,on 47 (.ld (some 8) (.t 8)) 45,on 48 (.call 72 [.t 46,.t 47]) 45,on 49 (.un .not (.t 48)) 45,or 50 45 49]
def OV:=[m 51 4,ao 52 8 8,o 53 (.bs 50 8 [.t 52]),o 54 (.dL 50 8 72 (.agg [.agg [.int .i64 0,.int .i64 0],.int .i64 0,.int .i64 0,.int .i64 0,.agg [.int .i64 0,.int .i64 0],.ah ⟨#[]⟩]) (.t 51) (.t 53)),m 4 54]
def OW:=[m 55 9,m 6 55]
def OX:=[m 56 7,ad 57 56 1,m 5 57]
def OY:=[m 58 4,m 59 0,m 60 5,o 61 (.prim (.ss false true) [.t 59,.t 60]),m 2 58,m 3 61]
def KY:=some [[],[],[],[1,2],[0,0],[3,4,0,1,2,3,4]]
def ym:bj:=(s (r OS) (s (r OT) (s (r OZ) (s (r O0) (s (.block 0 (.loop (s (s (r O1) (.cond (.t 14) .skip (.exit 0))) (.block 1 (s (r O2) (s (.block 2 (.loop (s (s (r O3) (.cond (.t 25) .skip (.exit 2))) (.block 3 (r O4))))) (s (s (r O5) (.cond (.t 31) (.exit 0) .skip)) (s (r O6) (s (s (r OU) (.cond (.t 50) (.exit 0) .skip)) (s (r OV) (s (r OW) (r OX)))))))))))) (s (.bQ KY OY) .ret))))))
def Cu:List bq:=[.tmp 2,.tmp 3]
theorem IE:bP Tryz.prog Tryz.f16 ym:=e (by kernel_rfl)
theorem JX:bM Tryz.prog Tryz.f16 Cu:=e (by kernel_rfl)
theorem Hn:bG Tryz.prog 16:=e (by kernel_rfl)
def Pe:=[o 4 (.mv bl)]
def Pf:=[m 7 0,o 8 (.len (.t 7)),m 9 1,o 10 (.len (.t 9)),o 11 (.bin .eql (.t 8) (.t 10)),m 5 11]
def Pg:=[bm 6 0]
def Ph:=[m 12 6,m 13 0,o 14 (.len (.t 13)),lt 15 12 14,m 16 15,da 17 5 16,and 18 16 17]
def Pj:=[m 21 0,m 22 6,o 23 (.is 8 (.t 21) (.t 22)),ao 24 8 23,m 25 1,m 26 6,o 27 (.is 8 (.t 25) (.t 26)),ao 28 8 27,o 29 (.eqv (.aR [(.aR [(.i .i64),(.i .i64)]),(.i .i64),(.i .i64),(.i .i64),(.aR [(.i .i64),(.i .i64)]),.s]) false (.t 24) (.t 28)),m 5 29]
def K0:=some [[],[],[0,1],[2],[],[],[4,5],[6],[3,7],[8,0,1,2,3,4,5,6,7,8]]
def Pk:=[m 19 6,ad 20 19 1,m 6 20]
def Pl:=[m 30 5,m 4 30]
def yq:bj:=(s (r Pe) (s (r Pf) (s (s (r Pg) (.block 0 (.loop (s (s (r Ph) (.cond (.t 18) .skip (.exit 0))) (s (.block 1 (.bQ K0 Pj)) (r Pk)))))) (s (r Pl) .ret))))
def Cx:List bq:=[.tmp 4]
theorem IH:bP Tryz.prog Tryz.f17 yq:=e (by kernel_rfl)
theorem J0:bM Tryz.prog Tryz.f17 Cx:=e (by kernel_rfl)
theorem Hq:bG Tryz.prog 17:=e (by kernel_rfl)
def PU:=[b 1 0,o 2 (.alloc (.agg [.agg [.ah ⟨#[]⟩,.ah ⟨#[]⟩],.agg [.ah ⟨#[]⟩,.ah ⟨#[]⟩]])),o 3 (.mv (.c (.nils 8)))]
def PV:=[f 10 0 0 1,ao 11 2 10,o 12 (.call 73 [.t 11]),o 13 (.call 15 [.t 12]),m 9 13,o 14 (.ext (.t 9) 0),o 15 (.ext (.t 9) 1),m 4 14,m 5 15]
def PW:=[f 17 1 2 1,ao 18 2 17,o 19 (.call 73 [.t 18]),o 20 (.call 15 [.t 19]),m 16 20,o 21 (.ext (.t 16) 0),o 22 (.ext (.t 16) 1),m 6 21,m 7 22]
def PX:=[m 23 6,o 24 (.len (.t 23)),m 25 4,o 26 (.len (.t 25)),o 27 (.bin .gtr (.t 24) (.t 26))]
def PY:=[m 28 6,m 29 7,m 4 28,m 5 29]
def PZ:=[m 30 5,o 31 (.call 74 [.t 30]),o 32 (.bld [.ah ⟨#[]⟩,.ah ⟨#[]⟩] [(0,(.t 31))]),o 8 (.alloc (.agg [.ah ⟨#[]⟩,.ah ⟨#[]⟩])),p (.aR (some 2) (.t 8) (.t 32))]
def P0:=[ao 33 2 8,ao 34 2 8,o 35 (.bld [.agg [.ah ⟨#[]⟩,.ah ⟨#[]⟩],.agg [.ah ⟨#[]⟩,.ah ⟨#[]⟩]] [(0,(.t 33)),(1,(.t 34))]),m 36 4,p (.aR (some 4) (.t 2) (.t 35)),m 3 36]
def yu:bj:=(s (r PU) (s (r PV) (s (s (r PW) (s (r PX) (.cond (.t 27) (r PY) .skip))) (s (r PZ) (s (r P0) .ret)))))
def CA:List bq:=[.cell 2 (some 4),.tmp 3]
theorem IK:bP Tryz.prog Tryz.f18 yu:=e (by kernel_rfl)
theorem J3:bM Tryz.prog Tryz.f18 CA:=e (by kernel_rfl)
theorem Hs:bG Tryz.prog 18:=e (by kernel_rfl)
def P1:=[b 1 0,o 2 (.alloc (.agg [.agg [.ah ⟨#[]⟩,.ah ⟨#[]⟩],.agg [.ah ⟨#[]⟩,.ah ⟨#[]⟩]])),o 3 (.mv (.c (.nils 8)))]
def P2:=[f 10 0 0 1,f 11 0 0 10,l 12 11,f 13 0 0 1,f 14 1 1 13,l 15 14,o 16 (.bin .add (.t 12) (.t 15)),o 17 (.call 16 [.t 16]),m 9 17,o 18 (.ext (.t 9) 0),o 19 (.ext (.t 9) 1),m 4 18,m 5 19]
def P3:=[f 21 1 2 1,f 22 0 0 21,l 23 22,f 24 1 2 1,f 25 1 1 24,l 26 25,o 27 (.bin .add (.t 23) (.t 26)),o 28 (.call 16 [.t 27]),m 20 28,o 29 (.ext (.t 20) 0),o 30 (.ext (.t 20) 1),m 6 29,m 7 30]
def P4:=[m 31 6,o 32 (.len (.t 31)),m 33 4,o 34 (.len (.t 33)),o 35 (.bin .gtr (.t 32) (.t 34))]
def P5:=[m 36 6,m 4 36]
def P6:=[m 37 7,m 5 37]
def P7:=[m 38 5,o 39 (.bld [.ah ⟨#[]⟩,.ah ⟨#[]⟩] [(0,(.t 38))]),o 8 (.alloc (.agg [.ah ⟨#[]⟩,.ah ⟨#[]⟩])),p (.aR (some 2) (.t 8) (.t 39))]
def P8:=[ao 40 2 8,ao 41 2 8,o 42 (.bld [.agg [.ah ⟨#[]⟩,.ah ⟨#[]⟩],.agg [.ah ⟨#[]⟩,.ah ⟨#[]⟩]] [(0,(.t 40)),(1,(.t 41))]),m 43 4,p (.aR (some 4) (.t 2) (.t 42)),m 3 43]
def yx:bj:=(s (r P1) (s (r P2) (s (r P3) (s (s (r P4) (.cond (.t 35) (s (r P5) (r P6)) .skip)) (s (r P7) (s (r P8) .ret))))))
def CC:List bq:=[.cell 2 (some 4),.tmp 3]
theorem IM:bP Tryz.prog Tryz.f19 yx:=e (by kernel_rfl)
theorem J5:bM Tryz.prog Tryz.f19 CC:=e (by kernel_rfl)
theorem Hu:bG Tryz.prog 19:=e (by kernel_rfl)
def P9:=[b 1 0,o 2 (.alloc (.agg [.agg [.ah ⟨#[]⟩,.ah ⟨#[]⟩],.agg [.ah ⟨#[]⟩,.ah ⟨#[]⟩]]))]
def Qa:=[f 4 0 0 1,ao 5 2 4,o 6 (.call 73 [.t 5]),o 7 (.bld [.ah ⟨#[]⟩,.ah ⟨#[]⟩] [(0,(.t 6))]),o 3 (.alloc (.agg [.ah ⟨#[]⟩,.ah ⟨#[]⟩])),p (.aR (some 2) (.t 3) (.t 7))]
def Qb:=[ao 8 2 3,ao 9 2 3,o 10 (.bld [.agg [.ah ⟨#[]⟩,.ah ⟨#[]⟩],.agg [.ah ⟨#[]⟩,.ah ⟨#[]⟩]] [(0,(.t 8)),(1,(.t 9))]),p (.aR (some 4) (.t 2) (.t 10))]
def c20:bj:=(s (r P9) (s (r Qa) (s (r Qb) .ret)))
def CD:List bq:=[.cell 2 (some 4)]
theorem IN:bP Tryz.prog Tryz.f20 c20:=e (by kernel_rfl)
theorem J6:bM Tryz.prog Tryz.f20 CD:=e (by kernel_rfl)
theorem Hv:bG Tryz.prog 20:=e (by kernel_rfl)
def Qc:=[b 1 0,o 2 (.alloc (.agg [.agg [.ah ⟨#[]⟩,.ah ⟨#[]⟩],.agg [.ah ⟨#[]⟩,.ah ⟨#[]⟩]]))]
def Qd:=[f 4 0 0 1,f 5 0 0 4,l 6 5,f 7 0 0 1,f 8 1 1 7,l 9 8,o 10 (.bin .add (.t 6) (.t 9)),o 11 (.bld [.ah ⟨#[]⟩,.ah ⟨#[]⟩] [(0,(.t 10))]),o 3 (.alloc (.agg [.ah ⟨#[]⟩,.ah ⟨#[]⟩])),p (.aR (some 2) (.t 3) (.t 11))]
def Qe:=[ao 12 2 3,ao 13 2 3,o 14 (.bld [.agg [.ah ⟨#[]⟩,.ah ⟨#[]⟩],.agg [.ah ⟨#[]⟩,.ah ⟨#[]⟩]] [(0,(.t 12)),(1,(.t 13))]),p (.aR (some 4) (.t 2) (.t 14))]
def c21:bj:=(s (r Qc) (s (r Qd) (s (r Qe) .ret)))
def CE:List bq:=[.cell 2 (some 4)]
theorem IP:bP Tryz.prog Tryz.f21 c21:=e (by kernel_rfl)
theorem J7:bM Tryz.prog Tryz.f21 CE:=e (by kernel_rfl)
theorem Hw:bG Tryz.prog 21:=e (by kernel_rfl)
def Qf:=[b 2 0,o 4 (.alloc (.agg [.agg [.ah ⟨#[]⟩,.ah ⟨#[]⟩],.agg [.ah ⟨#[]⟩,.ah ⟨#[]⟩]]))]
def Qg:=[f 5 0 0 2,ao 6 2 5,m 7 1,o 8 (.call 75 [.t 6,.t 7,(aW 0)]),f 9 1 2 2,ao 10 2 9,m 11 1,o 12 (.call 75 [.t 10,.t 11,(aW 3)]),o 13 (.bld [.agg [.ah ⟨#[]⟩,.ah ⟨#[]⟩],.agg [.ah ⟨#[]⟩,.ah ⟨#[]⟩]] [(0,(.t 8)),(1,(.t 12))]),p (.aR (some 4) (.t 4) (.t 13))]
def K1:=some [[],[0],[],[1,2],[],[4],[],[5,6,3],[3,7],[8,7,0,1,2,3,4,5,6,7,8]]
def yz:bj:=(s (r Qf) (s (.bQ K1 Qg) .ret))
def CF:List bq:=[.cell 4 (some 4)]
theorem IQ:bP Tryz.prog Tryz.f22 yz:=e (by kernel_rfl)
theorem J8:bM Tryz.prog Tryz.f22 CF:=e (by kernel_rfl)
theorem Hx:bG Tryz.prog 22:=e (by kernel_rfl)
def Qh:=[b 2 0,o 4 (.alloc (.agg [.agg [.ah ⟨#[]⟩,.ah ⟨#[]⟩],.agg [.ah ⟨#[]⟩,.ah ⟨#[]⟩]]))]
def Qi:=[f 7 0 0 2,ao 8 2 7,m 9 1,o 10 (.call 77 [.t 9,(aW 0)]),m 11 1,o 12 (.call 77 [.t 11,(aW 1)]),m 13 1,o 14 (.call 77 [.t 13,(aW 2)]),o 15 (.bld [.int .i64 0,.int .i64 0,.int .i64 0] [(0,(.t 10)),(1,(.t 12)),(2,(.t 14))]),o 16 (.call 76 [.t 8,.t 15]),o 5 (.alloc (.agg [.ah ⟨#[]⟩,.ah ⟨#[]⟩])),p (.aR (some 2) (.t 5) (.t 16))]
def K2:=some [[],[0],[],[2],[],[4,3],[],[6,5],[3,5,7],[1,8,7],[],[10,9,9,0,1,2,3,4,5,6,7,8,9,10]]
def Qj:=[f 17 1 2 2,ao 18 2 17,m 19 1,o 20 (.call 77 [.t 19,(aW 3)]),m 21 1,o 22 (.call 77 [.t 21,(aW 4)]),m 23 1,o 24 (.call 77 [.t 23,(aW 5)]),o 25 (.bld [.int .i64 0,.int .i64 0,.int .i64 0] [(0,(.t 20)),(1,(.t 22)),(2,(.t 24))]),o 26 (.call 76 [.t 18,.t 25]),o 6 (.alloc (.agg [.ah ⟨#[]⟩,.ah ⟨#[]⟩])),p (.aR (some 2) (.t 6) (.t 26))]
def K3:=some [[],[0],[],[2],[],[4,3],[],[6,5],[3,5,7],[1,8,7],[],[10,9,9,0,1,2,3,4,5,6,7,8,9,10]]
def Qk:=[ao 27 2 5,ao 28 2 6,o 29 (.bld [.agg [.ah ⟨#[]⟩,.ah ⟨#[]⟩],.agg [.ah ⟨#[]⟩,.ah ⟨#[]⟩]] [(0,(.t 27)),(1,(.t 28))]),p (.aR (some 4) (.t 4) (.t 29))]
def yA:bj:=(s (r Qh) (s (.bQ K2 Qi) (s (.bQ K3 Qj) (s (r Qk) .ret))))
def CG:List bq:=[.cell 4 (some 4)]
theorem IS:bP Tryz.prog Tryz.f23 yA:=e (by kernel_rfl)
theorem J9:bM Tryz.prog Tryz.f23 CG:=e (by kernel_rfl)
theorem Hy:bG Tryz.prog 23:=e (by kernel_rfl)
def Ql:=[b 2 0,o 4 (.alloc (.agg [.agg [.ah ⟨#[]⟩,.ah ⟨#[]⟩],.agg [.ah ⟨#[]⟩,.ah ⟨#[]⟩]]))]
def Qm:=[m 5 1]
def Qn:=[o 6 (.bld [.ah ⟨#[]⟩,.ah ⟨#[]⟩] []),f 7 1 2 2,p (.aR (some 2) (.t 7) (.t 6))]
def Qo:=[o 8 (.bld [.ah ⟨#[]⟩,.ah ⟨#[]⟩] []),f 9 0 0 2,p (.aR (some 2) (.t 9) (.t 8))]
def Qp:=[ao 10 4 2,p (.aR (some 4) (.t 4) (.t 10))]
def yB:bj:=(s (r Ql) (s (s (r Qm) (.cond (.t 5) (r Qn) (r Qo))) (s (r Qp) .ret)))
def CH:List bq:=[.cell 4 (some 4)]
theorem IT:bP Tryz.prog Tryz.f24 yB:=e (by kernel_rfl)
theorem Ka:bM Tryz.prog Tryz.f24 CH:=e (by kernel_rfl)
theorem Hz:bG Tryz.prog 24:=e (by kernel_rfl)
def Qq:=[b 2 0,o 4 (.alloc (.agg [.agg [.ah ⟨#[]⟩,.ah ⟨#[]⟩],.agg [.ah ⟨#[]⟩,.ah ⟨#[]⟩]]))]
def Qr:=[m 5 1]
def Qs:=[o 6 (.bld [.ah ⟨#[]⟩,.ah ⟨#[]⟩] []),f 7 1 2 2,p (.aR (some 2) (.t 7) (.t 6))]
def Qt:=[o 8 (.bld [.ah ⟨#[]⟩,.ah ⟨#[]⟩] []),f 9 0 0 2,p (.aR (some 2) (.t 9) (.t 8))]
def Qu:=[ao 10 4 2,p (.aR (some 4) (.t 4) (.t 10))]
def yC:bj:=(s (r Qq) (s (s (r Qr) (.cond (.t 5) (r Qs) (r Qt))) (s (r Qu) .ret)))
def CI:List bq:=[.cell 4 (some 4)]
theorem IU:bP Tryz.prog Tryz.f25 yC:=e (by kernel_rfl)
theorem Kb:bM Tryz.prog Tryz.f25 CI:=e (by kernel_rfl)
theorem HA:bG Tryz.prog 25:=e (by kernel_rfl)
def Qv:=[bm 4 0]
def Qw:=[m 5 0,m 6 1,o 7 (.bin .rem (.t 5) (.t 6)),m 8 1,o 9 (.bin .add (.t 7) (.t 8)),m 10 1,o 11 (.bin .rem (.t 9) (.t 10)),m 4 11]
def yD:bj:=(s (r Qv) (s (r Qw) .ret))
def CJ:List bq:=[.tmp 4]
theorem IV:bP Tryz.prog Tryz.f28 yD:=e (by kernel_rfl)
theorem Kc:bM Tryz.prog Tryz.f28 CJ:=e (by kernel_rfl)
theorem HB:bG Tryz.prog 28:=e (by kernel_rfl)
def Qx:=[b 3 1,o 4 (.mv (.c (.ah ⟨#[]⟩))),bm 5 0,bm 6 0]
def Qy:=[m 10 0,o 11 (.call 79 [.t 10]),no 12 11,m 9 12]
def Qz:=[o 4 (.mv (.c (.ah ⟨#[]⟩))),bm 5 0,bm 6 1]
def QA:=[ao 14 8 3,o 15 (.call 80 [.t 14]),no 16 15,m 13 16]
def QB:=[o 4 (.mv (.c (.ah ⟨#[]⟩))),bm 5 0,bm 6 80]
def QC:=[m 18 0,ao 19 8 3,o 20 (.call 81 [.t 18,.t 19]),m 17 20,o 21 (.ext (.t 17) 0),o 22 (.ext (.t 17) 1),m 7 21,m 8 22]
def QD:=[m 23 7,m 24 8,m 4 23,m 5 24,bm 6 0]
def yE:bj:=(s (r Qx) (s (.block 0 (s (r Qy) (.cond (.t 9) (s (r Qz) .ret) (s (r QA) (.cond (.t 13) (s (r QB) .ret) .skip))))) (s (r QC) (s (r QD) .ret))))
def CK:List bq:=[.tmp 4,.tmp 5,.tmp 6]
theorem IW:bP Tryz.prog Tryz.f29 yE:=e (by kernel_rfl)
theorem Kd:bM Tryz.prog Tryz.f29 CK:=e (by kernel_rfl)
theorem HC:bG Tryz.prog 29:=e (by kernel_rfl)
def QE:=[o 4 (.alloc (.agg [.agg [.int .i64 0,.int .i64 0],.int .i64 0,.int .i64 0,.int .i64 0,.agg [.int .i64 0,.int .i64 0],.ah ⟨#[]⟩])),bm 5 0,bm 6 0]
def QF:=[m 10 0,o 11 (.call 79 [.t 10]),no 12 11]
def QG:=[o 13 (.bld [.agg [.int .i64 0,.int .i64 0],.int .i64 0,.int .i64 0,.int .i64 0,.agg [.int .i64 0,.int .i64 0],.ah ⟨#[]⟩] []),p (.aR (some 8) (.t 4) (.t 13)),bm 5 0,bm 6 1]
def QH:=[m 15 0,m 16 1,o 17 (.call 70 [.t 15,.t 16]),m 14 17,o 18 (.ext (.t 14) 0),o 19 (.ext (.t 14) 1),o 20 (.ext (.t 14) 2),o 7 (.alloc (.agg [.agg [.int .i64 0,.int .i64 0],.int .i64 0,.int .i64 0,.int .i64 0,.agg [.int .i64 0,.int .i64 0],.ah ⟨#[]⟩])),p (.aR (some 8) (.t 7) (.t 18)),m 8 19,m 9 20]
def QI:=[m 21 9,no 22 21]
def QJ:=[o 23 (.bld [.agg [.int .i64 0,.int .i64 0],.int .i64 0,.int .i64 0,.int .i64 0,.agg [.int .i64 0,.int .i64 0],.ah ⟨#[]⟩] []),p (.aR (some 8) (.t 4) (.t 23)),bm 5 0,bm 6 87]
def QK:=[ao 24 8 7,m 25 8,p (.aR (some 8) (.t 4) (.t 24)),m 5 25,bm 6 0]
def yF:bj:=(s (r QE) (s (s (r QF) (.cond (.t 12) (s (r QG) .ret) .skip)) (s (r QH) (s (s (r QI) (.cond (.t 22) (s (r QJ) .ret) .skip)) (s (r QK) .ret)))))
def CL:List bq:=[.cell 4 (some 8),.tmp 5,.tmp 6]
theorem IX:bP Tryz.prog Tryz.f31 yF:=e (by kernel_rfl)
theorem Ke:bM Tryz.prog Tryz.f31 CL:=e (by kernel_rfl)
theorem HD:bG Tryz.prog 31:=e (by kernel_rfl)
def QL:=[o 4 (.alloc (.agg [.agg [.int .i64 0,.int .i64 0],.int .i64 0,.int .i64 0,.int .i64 0,.agg [.int .i64 0,.int .i64 0],.ah ⟨#[]⟩])),bm 5 0,bm 6 0]
def QM:=[m 16 0,o 17 (.call 82 [.t 16,(aW 0),(aW 1000002)]),no 18 17]
def QY:=[o 19 (.bld [.agg [.int .i64 0,.int .i64 0],.int .i64 0,.int .i64 0,.int .i64 0,.agg [.int .i64 0,.int .i64 0],.ah ⟨#[]⟩] []),p (.aR (some 8) (.t 4) (.t 19)),bm 5 0,bm 6 1]
def Q1:=[o 7 (.alloc (.agg [.int .i64 0,.int .i64 0,.int .i64 0,.int .i64 0,.int .i64 0,.int .i64 0,.int .i64 0,.int .i64 0]))]
def Q2:=[bm 8 0]
def Q3:=[bm 9 0]
def Q4:=[m 20 9,o 21 (.bin .lss (.t 20) (aW 8))]
def Q5:=[m 25 1,m 26 8,o 27 (.call 84 [.t 25,.t 26]),m 24 27,o 28 (.ext (.t 24) 0),o 29 (.ext (.t 24) 1),o 30 (.ext (.t 24) 2),m 10 28,m 11 29,m 12 30]
def Q6:=[m 31 12,no 32 31]
def Q7:=[o 33 (.bld [.agg [.int .i64 0,.int .i64 0],.int .i64 0,.int .i64 0,.int .i64 0,.agg [.int .i64 0,.int .i64 0],.ah ⟨#[]⟩] []),p (.aR (some 8) (.t 4) (.t 33)),bm 5 0,bm 6 87]
def QN:=[m 34 9,m 35 10,o 36 (.ia 8 1 (.t 7) (.t 34)),p (.aR none (.t 36) (.t 35))]
def QO:=[m 37 11,m 8 37]
def QP:=[m 22 9,ad 23 22 1,m 9 23]
def QR:=[m 38 1,m 39 1,o 40 (.lenT (.t 39)),o 41 (.bin .sub (.t 40) (aW 1)),o 42 (.prim .dp [.t 38,.t 41]),o 43 (.bin .neq (.t 42) (.c (.int .u8 10))),m 44 43,fx 45 8 44,fx 46 1 44,on 47 (.lenT (.t 46)) 44,on 48 (.bin .sub (.t 47) (aW 1)) 44,on 49 (.bin .gtr (.t 45) (.t 48)) 44,or 50 44 49]
def QS:=[o 51 (.bld [.agg [.int .i64 0,.int .i64 0],.int .i64 0,.int .i64 0,.int .i64 0,.agg [.int .i64 0,.int .i64 0],.ah ⟨#[]⟩] []),p (.aR (some 8) (.t 4) (.t 51)),bm 5 0,bm 6 87]
def QT:=[o 52 (.ia 8 1 (.t 7) (aW 1)),l 53 52,o 54 (.ia 8 1 (.t 7) (aW 2)),l 55 54,o 56 (.bld [.int .i64 0,.int .i64 0] [(0,(.t 53)),(1,(.t 55))]),o 57 (.ia 8 1 (.t 7) (aW 3)),l 58 57,o 59 (.ia 8 1 (.t 7) (aW 4)),l 60 59,o 61 (.ia 8 1 (.t 7) (aW 5)),l 62 61,o 63 (.ia 8 1 (.t 7) (aW 6)),l 64 63,o 65 (.ia 8 1 (.t 7) (aW 7)),l 66 65,o 67 (.bld [.int .i64 0,.int .i64 0] [(0,(.t 64)),(1,(.t 66))]),m 68 1,m 69 8,m 70 1,o 71 (.lenT (.t 70)),o 72 (.bin .sub (.t 71) (aW 1)),o 73 (.prim (.ss true true) [.t 68,.t 69,.t 72]),o 74 (.bld [.agg [.int .i64 0,.int .i64 0],.int .i64 0,.int .i64 0,.int .i64 0,.agg [.int .i64 0,.int .i64 0],.ah ⟨#[]⟩] [(0,(.t 56)),(1,(.t 58)),(2,(.t 60)),(3,(.t 62)),(4,(.t 67)),(5,(.t 73))]),o 13 (.alloc (.agg [.agg [.int .i64 0,.int .i64 0],.int .i64 0,.int .i64 0,.int .i64 0,.agg [.int .i64 0,.int .i64 0],.ah ⟨#[]⟩])),p (.aR (some 8) (.t 13) (.t 74))]
def K4:=some [[],[0],[],[2],[1,3],[],[5],[],[7],[],[9],[],[11],[],[13],[12,14],[],[],[],[18],[19],[16,17,20],[4,6,8,10,15,21],[],[23,22,0,1,2,3,4,5,6,7,8,9,10,11,12,13,14,15,16,17,18,19,20,21,22,23]]
def QU:=[ao 75 8 13,o 76 (.call 34 [.t 75]),o 77 (.bin .neq (.t 76) (aW 0))]
def QV:=[o 78 (.bld [.agg [.int .i64 0,.int .i64 0],.int .i64 0,.int .i64 0,.int .i64 0,.agg [.int .i64 0,.int .i64 0],.ah ⟨#[]⟩] []),p (.aR (some 8) (.t 4) (.t 78)),bm 5 0,bm 6 87]
def QW:=[m 80 0,ao 81 8 13,o 82 (.call 83 [.t 80,.t 81]),m 79 82,o 83 (.ext (.t 79) 0),o 84 (.ext (.t 79) 1),m 14 83,m 15 84]
def QX:=[m 85 14,m 86 1,o 87 (.bin .neq (.t 85) (.t 86))]
def QZ:=[o 88 (.bld [.agg [.int .i64 0,.int .i64 0],.int .i64 0,.int .i64 0,.int .i64 0,.agg [.int .i64 0,.int .i64 0],.ah ⟨#[]⟩] []),p (.aR (some 8) (.t 4) (.t 88)),bm 5 0,bm 6 87]
def Q0:=[ao 89 8 13,m 90 15,p (.aR (some 8) (.t 4) (.t 89)),m 5 90,bm 6 0]
def yG:bj:=(s (r QL) (s (s (r QM) (.cond (.t 18) (s (r QY) .ret) .skip)) (s (r Q1) (s (r Q2) (s (s (r Q3) (.block 0 (.loop (s (s (r Q4) (.cond (.t 21) .skip (.exit 0))) (s (.block 1 (s (r Q5) (s (s (r Q6) (.cond (.t 32) (s (r Q7) .ret) .skip)) (s (r QN) (r QO))))) (r QP)))))) (s (s (r QR) (.cond (.t 50) (s (r QS) .ret) .skip)) (s (.bQ K4 QT) (s (s (r QU) (.cond (.t 77) (s (r QV) .ret) .skip)) (s (r QW) (s (s (r QX) (.cond (.t 87) (s (r QZ) .ret) .skip)) (s (r Q0) .ret)))))))))))
def CM:List bq:=[.cell 4 (some 8),.tmp 5,.tmp 6]
theorem IY:bP Tryz.prog Tryz.f32 yG:=e (by kernel_rfl)
theorem Kf:bM Tryz.prog Tryz.f32 CM:=e (by kernel_rfl)
theorem HE:bG Tryz.prog 32:=e (by kernel_rfl)
def Q8:=[b 1 0,bm 2 0]
def Q9:=[f 3 0 0 1,ao 4 2 3,o 5 (.call 85 [.t 4]),no 6 5,m 7 6,fn 8 1 2 1 7,gr 9 8 7,on 10 (.call 82 [.t 9,(aW 0),(aW 40)]) 7,on 11 (.un .not (.t 10)) 7,or 12 7 11,m 13 12,fn 14 2 3 1 13,gr 15 14 13,on 16 (.call 82 [.t 15,(aW 0),(aW 100000)]) 13,on 17 (.un .not (.t 16)) 13,or 18 13 17,m 19 18,fn 20 3 4 1 19,gr 21 20 19,on 22 (.call 82 [.t 21,(aW 0),(aW 100000)]) 19,on 23 (.un .not (.t 22)) 19,or 24 19 23,m 25 24,fn 26 5 7 1 25,gr 27 26 25,on 28 (.call 86 [.t 27]) 25,on 29 (.un .not (.t 28)) 25,or 30 25 29]
def Ra:=[bm 2 80]
def Rb:=[f 31 1 2 1,l 32 31,o 33 (.bin .eql (.t 32) (aW 0))]
def Rc:=[f 34 2 3 1,l 35 34,o 36 (.bin .neq (.t 35) (aW 0)),m 37 36,fn 38 5 7 1 37,gr 39 38 37,on 40 (.bin .neq (.t 39) (.c (.ah ⟨#[]⟩))) 37,or 41 37 40,m 42 41,fn 43 4 5 1 42,on 44 (.ld (some 2) (.t 43)) 42,on 45 (.call 85 [.t 44]) 42,on 46 (.un .not (.t 45)) 42,or 47 42 46,m 48 47,fn 49 4 5 1 48,fn 50 0 0 49 48,gr 51 50 48,fn 52 0 0 1 48,fn 53 0 0 52 48,gr 54 53 48,on 55 (.bin .neq (.t 51) (.t 54)) 48,or 56 48 55,m 57 56,fn 58 4 5 1 57,fn 59 1 1 58 57,gr 60 59 57,fn 61 0 0 1 57,fn 62 1 1 61 57,gr 63 62 57,on 64 (.bin .geq (.t 60) (.t 63)) 57,or 65 57 64]
def Re:=[bm 2 80]
def Rf:=[bm 2 0]
def Rg:=[f 66 4 5 1,ao 67 2 66,o 68 (.bld [.int .i64 0,.int .i64 0] []),o 69 (.eqv (.aR [(.i .i64),(.i .i64)]) true (.t 67) (.t 68))]
def Rh:=[bm 2 80]
def Ri:=[bm 2 0]
def yH:bj:=(s (r Q8) (s (s (r Q9) (.cond (.t 30) (s (r Ra) .ret) .skip)) (s (s (r Rb) (.cond (.t 33) (s (s (r Rc) (.cond (.t 65) (s (r Re) .ret) .skip)) (s (r Rf) .ret)) .skip)) (s (s (r Rg) (.cond (.t 69) (s (r Rh) .ret) .skip)) (s (r Ri) .ret)))))
def CN:List bq:=[.tmp 2]
theorem IZ:bP Tryz.prog Tryz.f34 yH:=e (by kernel_rfl)
theorem Kg:bM Tryz.prog Tryz.f34 CN:=e (by kernel_rfl)
theorem HF:bG Tryz.prog 34:=e (by kernel_rfl)
def Rj:=[b 3 0,b 5 2,o 6 (.alloc (.agg [.agg [.ah ⟨#[]⟩,.ah ⟨#[]⟩],.agg [.ah ⟨#[]⟩,.ah ⟨#[]⟩]])),o 7 (.mv (.c (.nils 8))),bm 8 0]
def Rk:=[ao 9 4 3,m 10 1,o 11 (.call 87 [.t 9,.t 10]),no 12 11]
def Rl:=[o 13 (.bld [.agg [.ah ⟨#[]⟩,.ah ⟨#[]⟩],.agg [.ah ⟨#[]⟩,.ah ⟨#[]⟩]] []),p (.aR (some 4) (.t 6) (.t 13)),o 7 (.mv (.c (.nils 8))),bm 8 84]
def Rm:=[ao 14 4 3,m 15 1,ao 16 8 5,o 17 (.call 88 [.t 14,.t 15,.t 16]),o 18 (.ext (.t 17) 0),o 19 (.ext (.t 17) 1),o 20 (.ext (.t 17) 2),p (.aR (some 4) (.t 6) (.t 18)),m 7 19,m 8 20]
def yI:bj:=(s (r Rj) (s (s (r Rk) (.cond (.t 12) (s (r Rl) .ret) .skip)) (s (r Rm) .ret)))
def CO:List bq:=[.cell 6 (some 4),.tmp 7,.tmp 8]
theorem I0:bP Tryz.prog Tryz.f35 yI:=e (by kernel_rfl)
theorem Kh:bM Tryz.prog Tryz.f35 CO:=e (by kernel_rfl)
theorem HG:bG Tryz.prog 35:=e (by kernel_rfl)
def Rn:=[b 2 0,b 3 1,o 4 (.alloc (.agg [.nils 8])),bm 5 0]
def Ro:=[ao 9 1 2,o 10 (.call 92 [.t 9]),no 11 10,m 8 11]
def Rt:=[o 12 (.bld [.nils 8] []),p (.aR (some 1) (.t 4) (.t 12)),bm 5 81]
def Ru:=[ao 14 8 3,o 15 (.call 80 [.t 14]),no 16 15,m 13 16]
def Rv:=[o 17 (.bld [.nils 8] []),p (.aR (some 1) (.t 4) (.t 17)),bm 5 80]
def Rw:=[ao 19 1 2,f 20 0 0 3,ao 21 2 20,o 22 (.call 94 [.t 19,.t 21]),m 18 22,o 23 (.ext (.t 18) 0),o 24 (.ext (.t 18) 1),m 6 23,m 7 24]
def Rx:=[m 26 7,m 27 26,dR 28 0 0 2 27,gu 29 28 27,da 30 6 27,bz 31 (.is 8 (.t 29) (.t 30)) 27,bz 32 (.ld (some 8) (.t 31)) 27,bz 33 (.ld (some 8) (.t 3)) 27,bz 34 (.eqv (.aR [(.aR [(.i .i64),(.i .i64)]),(.i .i64),(.i .i64),(.i .i64),(.aR [(.i .i64),(.i .i64)]),.s]) false (.t 32) (.t 33)) 27,and 35 27 34,m 25 35]
def K7:=some [[],[0],[1],[2,1],[1],[3,4,1],[5,1],[1],[6,7,1],[1,8],[9,1]]
def Ry:=[f 36 0 0 2,l 37 36,o 38 (.call 93 [.t 37]),o 39 (.bld [.nils 8] [(0,(.t 38))]),p (.aR (some 1) (.t 4) (.t 39)),bm 5 0]
def Rz:=[m 41 7,m 40 41]
def RA:=[o 42 (.bld [.nils 8] []),p (.aR (some 1) (.t 4) (.t 42)),bm 5 82]
def Rp:=[f 44 0 0 2,l 45 44,o 46 (.call 100 [.t 45]),f 47 0 0 3,f 48 0 0 47,l 49 48,o 50 (.ix 6 1 none (.t 46) (.t 49)),f 51 0 0 3,f 52 1 1 51,l 53 52,lt 54 50 53,m 43 54]
def K5:=some [[],[0],[1],[],[3],[4],[2,5],[],[7],[8],[6,9],[10,2]]
def Rq:=[o 55 (.bld [.nils 8] []),p (.aR (some 1) (.t 4) (.t 55)),bm 5 83]
def Rr:=[f 57 0 0 2,l 58 57,o 59 (.len (.t 58)),o 60 (.bin .eql (.t 59) (aW 60)),m 56 60]
def Rs:=[o 61 (.bld [.nils 8] []),p (.aR (some 1) (.t 4) (.t 61)),bm 5 2]
def uU:=[f 62 0 0 2,l 63 62,o 64 (.call 93 [.t 63]),m 65 6,ao 66 8 3,o 67 (.bs 50 8 [.t 66]),o 68 (.call 101 [.t 64,.t 65,.t 67]),o 69 (.bld [.nils 8] [(0,(.t 68))]),p (.aR (some 1) (.t 4) (.t 69)),bm 5 0]
def K6:=some [[],[0],[1],[],[],[4],[2,3,5,2],[6],[7,6,0,1,2,3,4,5,6,7],[8,0,1,2,3,4,5,6,7,8]]
def yJ:bj:=(s (r Rn) (s (.block 0 (s (r Ro) (.cond (.t 8) (s (r Rt) .ret) (s (r Ru) (.cond (.t 13) (s (r Rv) .ret) .skip))))) (s (r Rw) (s (.block 1 (s (.bQ K7 Rx) (.cond (.t 25) (s (r Ry) .ret) (s (r Rz) (.cond (.t 40) (s (r RA) .ret) (s (.bQ K5 Rp) (.cond (.t 43) (s (r Rq) .ret) (s (r Rr) (.cond (.t 56) (s (r Rs) .ret) .skip))))))))) (s (.bQ K6 uU) .ret)))))
def CQ:List bq:=[.cell 4 (some 1),.tmp 5]
theorem I2:bP Tryz.prog Tryz.f44 yJ:=e (by kernel_rfl)
theorem Kj:bM Tryz.prog Tryz.f44 CQ:=e (by kernel_rfl)
theorem HJ:bG Tryz.prog 44:=e (by kernel_rfl)
def RH:=[b 1 0,o 2 (.mv (.c (.dc)))]
def RI:=[o 3 (.mk 122 [.t 1]),m 2 3]
def yK:bj:=(s (r RH) (s (r RI) .ret))
def CR:List bq:=[.tmp 2]
theorem I3:bP Tryz.prog Tryz.f69 yK:=e (by kernel_rfl)
theorem Kk:bM Tryz.prog Tryz.f69 CR:=e (by kernel_rfl)
theorem HK:bG Tryz.prog 69:=e (by kernel_rfl)
def As:=[o 4 (.alloc (.agg [.agg [.int .i64 0,.int .i64 0],.int .i64 0,.int .i64 0,.int .i64 0,.agg [.int .i64 0,.int .i64 0],.ah ⟨#[]⟩])),o 5 (.alloc (.int .i64 0)),o 6 (.alloc (.bool false))]
def RJ:=[m 15 1,o 16 (.call 125 [.t 15,(.c (.ah ⟨#[10]⟩))]),m 14 16,o 17 (.ext (.t 14) 0),o 18 (.ext (.t 14) 1),m 7 17,m 8 18]
def RQ:=[m 19 8,no 20 19]
def Aw:=[o 21 (.bld [] []),o 22 (.prim (.lT 176) [.t 21]),p (.prim .kl [.t 22])]
def RS:=[bm 9 0]
def RT:=[o 10 (.alloc (.agg [.int .i64 0,.int .i64 0,.int .i64 0,.int .i64 0,.int .i64 0,.int .i64 0,.int .i64 0]))]
def Ax:=[m 24 7,o 25 (.call 126 [.t 24]),m 23 25,o 26 (.ext (.t 23) 0),o 27 (.ext (.t 23) 1),m 9 26,m 7 27]
def RU:=[bm 28 0]
def RV:=[o 29 (.bin .lss (.t 28) (aW 7))]
def RW:=[m 30 28,m 11 30]
def Au:=[m 32 11,m 33 7,o 34 (.call 126 [.t 33]),m 31 34,o 35 (.ext (.t 31) 0),o 36 (.ext (.t 31) 1),o 37 (.ia 7 1 (.t 10) (.t 32)),p (.aR none (.t 37) (.t 35)),m 7 36]
def RL:=[ad 38 28 1,m 28 38]
def RM:=[o 39 (.ia 7 1 (.t 10) (aW 0)),l 40 39,o 41 (.ia 7 1 (.t 10) (aW 1)),l 42 41,o 43 (.bld [.int .i64 0,.int .i64 0] [(0,(.t 40)),(1,(.t 42))]),o 44 (.ia 7 1 (.t 10) (aW 2)),l 45 44,o 46 (.ia 7 1 (.t 10) (aW 3)),l 47 46,o 48 (.ia 7 1 (.t 10) (aW 4)),l 49 48,o 50 (.ia 7 1 (.t 10) (aW 5)),l 51 50,o 52 (.ia 7 1 (.t 10) (aW 6)),l 53 52,o 54 (.bld [.int .i64 0,.int .i64 0] [(0,(.t 51)),(1,(.t 53))]),m 55 7,o 56 (.bld [.agg [.int .i64 0,.int .i64 0],.int .i64 0,.int .i64 0,.int .i64 0,.agg [.int .i64 0,.int .i64 0],.ah ⟨#[]⟩] [(0,(.t 43)),(1,(.t 45)),(2,(.t 47)),(3,(.t 49)),(4,(.t 54)),(5,(.t 55))]),p (.aR (some 8) (.t 4) (.t 56))]
def RN:=[ao 57 8 4,o 58 (.call 80 [.t 57]),no 59 58]
def Av:=[o 60 (.bld [] []),o 61 (.prim (.lT 176) [.t 60]),p (.prim .kl [.t 61])]
def RO:=[m 63 0,ao 64 8 4,o 65 (.call 81 [.t 63,.t 64]),m 62 65,o 66 (.ext (.t 62) 0),o 67 (.ext (.t 62) 1),m 12 66,p (.aR none (.t 5) (.t 67))]
def RP:=[m 68 12,m 69 1,o 70 (.bin .neq (.t 68) (.t 69)),m 71 70,fx 72 9 71,gr 73 5 71,on 74 (.bin .neq (.t 72) (.t 73)) 71,or 75 71 74]
def uV:=[o 76 (.bld [] []),o 77 (.prim (.lT 176) [.t 76]),p (.prim .kl [.t 77])]
def uW:=[ao 78 8 4,l 79 5,p (.aR (some 8) (.t 4) (.t 78)),p (.aR none (.t 5) (.t 79)),p (.aR none (.t 6) T)]
def K9:=some [[],[],[0,0],[1,2,0,1,2],[3,0,1,2,3]] -- DRAW BAD
def sN:List bq:=[.cell 4 (some 8),.cell 5 none,.cell 6 none]
theorem Kl:bM Tryz.prog Tryz.f70 sN:=e (by kernel_rfl)
theorem HL:bG Tryz.prog 70:=e (by kernel_rfl)
def RX:=[b 3 1,o 4 (.mv bl)]
def RY:=[m 5 0,o 6 (.len (.t 5)),o 7 (.bin .lss (.t 6) (aW 60)),m 8 7,da 9 0 8,bz 10 (.call 100 [.t 9]) 8,dR 11 0 0 3 8,dR 12 0 0 11 8,gu 13 12 8,bz 14 (.ix 6 1 none (.t 10) (.t 13)) 8,dR 15 0 0 3 8,dR 16 1 1 15 8,gu 17 16 8,bz 18 (.bin .eql (.t 14) (.t 17)) 8,and 19 8 18,m 4 19]
def La:=some [[],[0],[1],[2],[3],[4,3,3],[3],[6,3],[7,3],[5,8,3],[3],[10,3],[11,3],[9,12,3],[3,13],[14,5,0,1,2,3,4,5,6,7,8,9,10,11,12,13,14]]
def yL:bj:=(s (r RX) (s (.bQ La RY) .ret))
def CS:List bq:=[.tmp 4]
theorem I4:bP Tryz.prog Tryz.f71 yL:=e (by kernel_rfl)
theorem Km:bM Tryz.prog Tryz.f71 CS:=e (by kernel_rfl)
theorem HM:bG Tryz.prog 71:=e (by kernel_rfl)
def RZ:=[b 3 1,o 4 (.mv bl)]
def R0:=[ao 5 8 3,o 6 (.call 34 [.t 5]),o 7 (.bin .eql (.t 6) (aW 0)),m 8 7,da 9 0 8,bz 10 (.len (.t 9)) 8,bz 11 (.bin .lss (.t 10) (aW 60)) 8,and 12 8 11,m 13 12,dR 14 0 0 3 13,dR 15 1 1 14 13,gu 16 15 13,da 17 0 13,bz 18 (.call 102 [.t 17]) 13,dR 19 0 0 3 13,dR 20 0 0 19 13,gu 21 20 13,bz 22 (.ix 6 1 none (.t 18) (.t 21)) 13,bz 23 (.bin .eql (.t 16) (.t 22)) 13,and 24 13 23,m 4 24]
def Lb:=some [[],[0],[1],[2,1],[3],[4,3],[5,3],[3,6],[7,3],[8],[9,8],[10,8],[8],[12,8,8],[8],[14,8],[15,8],[13,16,8],[11,17,8],[8,18],[19,13,0,1,2,3,4,5,6,7,8,9,10,11,12,13,14,15,16,17,18,19]]
def yM:bj:=(s (r RZ) (s (.bQ Lb R0) .ret))
def CT:List bq:=[.tmp 4]
theorem I5:bP Tryz.prog Tryz.f72 yM:=e (by kernel_rfl)
theorem Kn:bM Tryz.prog Tryz.f72 CT:=e (by kernel_rfl)
theorem HN:bG Tryz.prog 72:=e (by kernel_rfl)
def R1:=[b 1 0,o 2 (.mv (.c (.ah ⟨#[]⟩)))]
def R2:=[f 3 0 0 1,l 4 3,f 5 1 1 1,l 6 5,o 7 (.bin .add (.t 4) (.t 6)),m 2 7]
def yN:bj:=(s (r R1) (s (r R2) .ret))
def CU:List bq:=[.tmp 2]
theorem I6:bP Tryz.prog Tryz.f73 yN:=e (by kernel_rfl)
theorem Ko:bM Tryz.prog Tryz.f73 CU:=e (by kernel_rfl)
theorem HO:bG Tryz.prog 73:=e (by kernel_rfl)
def R3:=[o 2 (.mv (.c (.ah ⟨#[]⟩)))]
def R4:=[m 3 0,o 4 (.call 127 [.t 3]),m 2 4]
def yO:bj:=(s (r R3) (s (r R4) .ret))
def CV:List bq:=[.tmp 2]
theorem I7:bP Tryz.prog Tryz.f74 yO:=e (by kernel_rfl)
theorem Kp:bM Tryz.prog Tryz.f74 CV:=e (by kernel_rfl)
theorem HP:bG Tryz.prog 74:=e (by kernel_rfl)
def R5:=[b 3 0,o 6 (.alloc (.agg [.ah ⟨#[]⟩,.ah ⟨#[]⟩]))]
def kU:=[f 9 1 1 3,l 10 9,m 11 1,m 12 2,f 13 1 1 3,l 14 13,o 15 (.lenT (.t 14)),ad 16 15 1,o 17 (.call 121 [.t 11,.t 12,.t 16]),o 18 (.prim (.ss false true) [.t 10,.t 17]),o 19 (.dU (.t 18)),m 7 19]
def Lc:=some [[],[0],[],[],[],[4],[5],[6],[2,3,7],[1,8],[9],[10,8,0,1,2,3,4,5,6,7,8,9,10]]
def R6:=[m 20 1,m 21 2,ad 22 21 1,o 23 (.call 121 [.t 20,.t 22,(aW 2)]),o 24 (.bin .eql (.t 23) (aW 1)),m 25 24,da 26 7 25,bz 27 (.len (.t 26)) 25,bz 28 (.bin .gtr (.t 27) (aW 0)) 25,and 29 25 28]
def R7:=[m 30 7,m 31 1,m 32 2,ad 33 32 2,m 34 7,o 35 (.len (.t 34)),o 36 (.call 121 [.t 31,.t 33,.t 35]),o 37 (.is 1 (.t 30) (.t 36)),p (.aR none (.t 37) (.c (.int .u8 63)))]
def R8:=[f 38 0 0 3,l 39 38,o 40 (.lenT (.t 39)),m 41 7,o 42 (.len (.t 41)),o 43 (.bin .add (.t 40) (.t 42)),o 44 (.jq 5 1 (.int .u8 0) (.t 43)),m 8 44]
def R9:=[m 45 8,f 46 0 0 3,l 47 46,o 48 (.fS 1 (.t 45) (.t 47))]
def Sa:=[m 49 8,f 50 0 0 3,l 51 50,o 52 (.lenT (.t 51)),o 53 (.sl 1 (.t 49) (some (.t 52)) none none),m 54 7,o 55 (.fS 1 (.t 53) (.t 54))]
def Sb:=[m 56 8,o 57 (.b2s (.t 56)),o 58 (.bld [.ah ⟨#[]⟩,.ah ⟨#[]⟩] [(0,(.t 57))]),p (.aR (some 2) (.t 6) (.t 58))]
def c75:bj:=(s (r R5) (s (.bQ Lc kU) (s (s (r R6) (.cond (.t 29) (r R7) .skip)) (s (r R8) (s (r R9) (s (r Sa) (s (r Sb) .ret)))))))
def CW:List bq:=[.cell 6 (some 2)]
theorem I8:bP Tryz.prog Tryz.f75 c75:=e (by kernel_rfl)
theorem Kq:bM Tryz.prog Tryz.f75 CW:=e (by kernel_rfl)
theorem HQ:bG Tryz.prog 75:=e (by kernel_rfl)
def Sc:=[b 2 0,b 3 1,o 4 (.alloc (.agg [.ah ⟨#[]⟩,.ah ⟨#[]⟩]))]
def kV:=[f 6 1 1 2,l 7 6,o 8 (.ia 3 1 (.t 3) (aW 0)),l 9 8,f 10 1 1 2,l 11 10,o 12 (.lenT (.t 11)),ad 13 12 1,o 14 (.call 28 [.t 9,.t 13]),o 15 (.prim (.ss false true) [.t 7,.t 14]),o 16 (.dU (.t 15)),m 5 16]
def Ld:=some [[],[0],[],[2],[],[4],[5],[6],[3,7],[1,8],[9],[10,8,0,1,2,3,4,5,6,7,8,9,10]]
def Sd:=[o 17 (.ia 3 1 (.t 3) (aW 1)),l 18 17,o 19 (.call 28 [.t 18,(aW 2)]),o 20 (.bin .eql (.t 19) (aW 1)),m 21 20,da 22 5 21,bz 23 (.len (.t 22)) 21,bz 24 (.bin .gtr (.t 23) (aW 0)) 21,and 25 21 24]
def Se:=[m 26 5,o 27 (.ia 3 1 (.t 3) (aW 2)),l 28 27,m 29 5,o 30 (.len (.t 29)),o 31 (.call 28 [.t 28,.t 30]),o 32 (.is 1 (.t 26) (.t 31)),p (.aR none (.t 32) (.c (.int .u8 63)))]
def Sf:=[f 33 0 0 2,l 34 33,m 35 5,o 36 (.b2s (.t 35)),o 37 (.bin .add (.t 34) (.t 36)),o 38 (.bld [.ah ⟨#[]⟩,.ah ⟨#[]⟩] [(0,(.t 37))]),p (.aR (some 2) (.t 4) (.t 38))]
def c76:bj:=(s (r Sc) (s (.bQ Ld kV) (s (s (r Sd) (.cond (.t 25) (r Se) .skip)) (s (r Sf) .ret))))
def CX:List bq:=[.cell 4 (some 2)]
theorem I9:bP Tryz.prog Tryz.f76 c76:=e (by kernel_rfl)
theorem Kr:bM Tryz.prog Tryz.f76 CX:=e (by kernel_rfl)
theorem HR:bG Tryz.prog 76:=e (by kernel_rfl)
def Sg:=[bm 4 0]
def Sh:=[m 5 0,o 6 (.len (.t 5)),o 7 (.bin .eql (.t 6) (aW 0))]
def Si:=[bm 4 0]
def Sj:=[m 8 0,m 9 1,m 10 0,o 11 (.len (.t 10)),o 12 (.bin .rem (.t 9) (.t 11)),o 13 (.is 1 (.t 8) (.t 12)),l 14 13,m 4 14]
def yP:bj:=(s (r Sg) (s (s (r Sh) (.cond (.t 7) (s (r Si) .ret) .skip)) (s (r Sj) .ret)))
def CY:List bq:=[.tmp 4]
theorem Ja:bP Tryz.prog Tryz.f77 yP:=e (by kernel_rfl)
theorem Ks:bM Tryz.prog Tryz.f77 CY:=e (by kernel_rfl)
theorem HS:bG Tryz.prog 77:=e (by kernel_rfl)
def Sk:=[o 2 (.mv bl)]
def Sl:=[m 3 0,o 4 (.call 128 [.t 3,(aW 0),(aW 1000002)]),m 2 4]
def yQ:bj:=(s (r Sk) (s (r Sl) .ret))
def CZ:List bq:=[.tmp 2]
theorem Jb:bP Tryz.prog Tryz.f79 yQ:=e (by kernel_rfl)
theorem Kt:bM Tryz.prog Tryz.f79 CZ:=e (by kernel_rfl)
theorem HT:bG Tryz.prog 79:=e (by kernel_rfl)
def Sm:=[b 1 0,o 2 (.mv bl)]
def Sn:=[f 3 0 0 1,ao 4 2 3,o 5 (.call 129 [.t 4]),no 6 5,m 7 6,fn 8 1 2 1 7,gr 9 8 7,on 10 (.call 128 [.t 9,(aW 0),(aW 40)]) 7,on 11 (.un .not (.t 10)) 7,or 12 7 11,m 13 12,fn 14 2 3 1 13,gr 15 14 13,on 16 (.call 105 [.t 15]) 13,on 17 (.un .not (.t 16)) 13,or 18 13 17,m 19 18,fn 20 3 4 1 19,gr 21 20 19,on 22 (.call 105 [.t 21]) 19,on 23 (.un .not (.t 22)) 19,or 24 19 23,m 25 24,fn 26 5 7 1 25,gr 27 26 25,on 28 (.call 130 [.t 27]) 25,on 29 (.un .not (.t 28)) 25,or 30 25 29]
def Sp:=[o 2 (.mv bl)]
def Sq:=[f 31 1 2 1,l 32 31,o 33 (.bin .eql (.t 32) (aW 0))]
def Sr:=[f 34 2 3 1,l 35 34,o 36 (.bin .eql (.t 35) (aW 0)),m 37 36,dR 38 5 7 1 37,gu 39 38 37,bz 40 (.bin .eql (.t 39) (.c (.ah ⟨#[]⟩))) 37,and 41 37 40,m 42 41,dR 43 4 5 1 42,bz 44 (.ld (some 2) (.t 43)) 42,bz 45 (.call 129 [.t 44]) 42,and 46 42 45,m 47 46,dR 48 4 5 1 47,dR 49 0 0 48 47,gu 50 49 47,dR 51 0 0 1 47,dR 52 0 0 51 47,gu 53 52 47,bz 54 (.bin .eql (.t 50) (.t 53)) 47,and 55 47 54,m 56 55,dR 57 4 5 1 56,dR 58 1 1 57 56,gu 59 58 56,dR 60 0 0 1 56,dR 61 1 1 60 56,gu 62 61 56,bz 63 (.bin .lss (.t 59) (.t 62)) 56,and 64 56 63,m 2 64]
def St:=[f 65 4 5 1,ao 66 2 65,o 67 (.bld [.int .i64 0,.int .i64 0] []),o 68 (.eqv (.aR [(.i .i64),(.i .i64)]) false (.t 66) (.t 67)),m 2 68]
def c80:bj:=(s (r Sm) (s (s (r Sn) (.cond (.t 30) (s (r Sp) .ret) .skip)) (s (s (r Sq) (.cond (.t 33) (s (r Sr) .ret) .skip)) (s (r St) .ret))))
def C0:List bq:=[.tmp 2]
theorem Jc:bP Tryz.prog Tryz.f80 c80:=e (by kernel_rfl)
theorem Ku:bM Tryz.prog Tryz.f80 C0:=e (by kernel_rfl)
theorem HU:bG Tryz.prog 80:=e (by kernel_rfl)
def Su:=[b 3 1,o 4 (.mv (.c (.ah ⟨#[]⟩))),bm 5 0]
def Sv:=[ao 9 8 3,o 10 (.call 131 [.t 9]),m 6 10]
def Sw:=[m 11 6,o 12 (.dU (.t 11)),o 13 (.len (.t 12)),bm 14 0]
def Sx:=[lt 15 14 13]
def Sy:=[o 16 (.is 1 (.t 12) (.t 14)),l 17 16,m 8 17]
def Sz:=[m 18 0,o 19 (.bin .mul (aW 257) (.t 18)),m 20 8,o 21 (.conv .i64 (.t 20)),o 22 (.bin .add (.t 19) (.t 21)),ad 23 22 1,o 24 (.bin .rem (.t 23) (aW 1000003)),m 0 24]
def SA:=[ad 25 14 1,m 14 25]
def SB:=[m 26 0,o 27 (.call 132 [.t 26]),o 28 (.bin .add (.t 27) (.c (.ah ⟨#[32]⟩))),m 29 6,o 30 (.bin .add (.t 28) (.t 29)),o 31 (.bin .add (.t 30) (.c (.ah ⟨#[10]⟩))),m 32 0,m 4 31,m 5 32]
def yR:bj:=(s (r Su) (s (r Sv) (s (s (r Sw) (.block 0 (.loop (s (r Sx) (s (.cond (.t 15) .skip (.exit 0)) (s (.block 1 (s (r Sy) (r Sz))) (r SA))))))) (s (r SB) .ret))))
def C1:List bq:=[.tmp 4,.tmp 5]
theorem Jd:bP Tryz.prog Tryz.f81 yR:=e (by kernel_rfl)
theorem Kv:bM Tryz.prog Tryz.f81 C1:=e (by kernel_rfl)
theorem HV:bG Tryz.prog 81:=e (by kernel_rfl)
def SC:=[o 6 (.mv bl)]
def SD:=[m 7 0,m 8 1,o 9 (.bin .geq (.t 7) (.t 8)),m 10 9,da 11 0 10,da 12 2 10,bz 13 (.bin .leq (.t 11) (.t 12)) 10,and 14 10 13,m 6 14]
def yS:bj:=(s (r SC) (s (r SD) .ret))
def C2:List bq:=[.tmp 6]
theorem Je:bP Tryz.prog Tryz.f82 yS:=e (by kernel_rfl)
theorem Kx:bM Tryz.prog Tryz.f82 C2:=e (by kernel_rfl)
theorem HW:bG Tryz.prog 82:=e (by kernel_rfl)
def SE:=[b 3 1,o 4 (.mv (.c (.ah ⟨#[]⟩))),bm 5 0]
def SF:=[ao 8 8 3,o 9 (.call 133 [.t 8]),m 6 9]
def SG:=[bm 7 0]
def SH:=[m 10 7,m 11 6,o 12 (.lenT (.t 11)),lt 13 10 12]
def SI:=[m 16 0,o 17 (.bin .mul (aW 257) (.t 16)),m 18 6,m 19 7,o 20 (.prim .dp [.t 18,.t 19]),o 21 (.conv .i64 (.t 20)),o 22 (.bin .add (.t 17) (.t 21)),ad 23 22 1,o 24 (.bin .rem (.t 23) (aW 1000003)),m 0 24]
def SJ:=[m 14 7,ad 15 14 1,m 7 15]
def SK:=[m 25 0,o 26 (.call 134 [.t 25]),o 27 (.bin .add (.t 26) (.c (.ah ⟨#[32]⟩))),m 28 6,o 29 (.bin .add (.t 27) (.t 28)),o 30 (.bin .add (.t 29) (.c (.ah ⟨#[10]⟩))),m 31 0,m 4 30,m 5 31]
def yT:bj:=(s (r SE) (s (r SF) (s (s (r SG) (.block 0 (.loop (s (s (r SH) (.cond (.t 13) .skip (.exit 0))) (s (.block 1 (r SI)) (r SJ)))))) (s (r SK) .ret))))
def C3:List bq:=[.tmp 4,.tmp 5]
theorem Jf:bP Tryz.prog Tryz.f83 yT:=e (by kernel_rfl)
theorem Ky:bM Tryz.prog Tryz.f83 C3:=e (by kernel_rfl)
theorem HX:bG Tryz.prog 83:=e (by kernel_rfl)
def SL:=[bm 4 0,bm 5 0,o 6 (.mv bl)]
def SM:=[bm 7 0]
def SO:=[m 9 1,m 8 9]
def SP:=[m 10 8,m 11 0,o 12 (.lenT (.t 11)),lt 13 10 12,m 14 13,da 15 8 14,da 16 1 14,bz 17 (.bin .add (.t 16) (aW 9)) 14,bz 18 (.bin .lss (.t 15) (.t 17)) 14,and 19 14 18]
def SQ:=[m 22 0,m 23 8,o 24 (.prim .dp [.t 22,.t 23]),o 25 (.bin .eql (.t 24) (.c (.int .u8 32)))]
def SR:=[m 26 7,m 27 8,ad 28 27 1,m 29 8,m 30 1,o 31 (.bin .gtr (.t 29) (.t 30)),m 4 26,m 5 28,m 6 31]
def SS:=[m 32 0,m 33 8,o 34 (.prim .dp [.t 32,.t 33]),o 35 (.bin .lss (.t 34) (.c (.int .u8 48))),m 36 35,fx 37 0 36,fx 38 8 36,on 39 (.prim .dp [.t 37,.t 38]) 36,on 40 (.bin .gtr (.t 39) (.c (.int .u8 57))) 36,or 41 36 40]
def SU:=[bm 4 0,bm 5 0,o 6 (.mv bl)]
def SV:=[m 42 7,o 43 (.bin .mul (aW 10) (.t 42)),m 44 0,m 45 8,o 46 (.prim .dp [.t 44,.t 45]),o 47 (.bin .sub (.t 46) (.c (.int .u8 48))),o 48 (.conv .i64 (.t 47)),o 49 (.bin .add (.t 43) (.t 48)),m 7 49]
def SX:=[m 20 8,ad 21 20 1,m 8 21]
def SN:=[bm 4 0,bm 5 0,o 6 (.mv bl)]
def yU:bj:=(s (r SL) (s (r SM) (s (s (r SO) (.block 0 (.loop (s (s (r SP) (.cond (.t 19) .skip (.exit 0))) (s (.block 1 (s (s (r SQ) (.cond (.t 25) (s (r SR) .ret) .skip)) (s (s (r SS) (.cond (.t 41) (s (r SU) .ret) .skip)) (r SV)))) (r SX)))))) (s (r SN) .ret))))
def C4:List bq:=[.tmp 4,.tmp 5,.tmp 6]
theorem Jg:bP Tryz.prog Tryz.f84 yU:=e (by kernel_rfl)
theorem Kz:bM Tryz.prog Tryz.f84 C4:=e (by kernel_rfl)
theorem HY:bG Tryz.prog 84:=e (by kernel_rfl)
def SY:=[b 1 0,o 2 (.mv bl)]
def SZ:=[f 3 0 0 1,l 4 3,o 5 (.call 82 [.t 4,(aW 0),(aW 5)]),m 6 5,dR 7 1 1 1 6,gu 8 7 6,bz 9 (.call 82 [.t 8,(aW 0),(aW 9999)]) 6,and 10 6 9,m 2 10]
def c85:bj:=(s (r SY) (s (r SZ) .ret))
def C5:List bq:=[.tmp 2]
theorem Jh:bP Tryz.prog Tryz.f85 c85:=e (by kernel_rfl)
theorem KA:bM Tryz.prog Tryz.f85 C5:=e (by kernel_rfl)
theorem HZ:bG Tryz.prog 85:=e (by kernel_rfl)
def S0:=[o 2 (.mv bl)]
def S1:=[m 4 0,o 5 (.lenT (.t 4)),o 6 (.bin .gtr (.t 5) (aW 160))]
def S2:=[o 2 (.mv bl)]
def S3:=[bm 3 0]
def S4:=[m 7 3,m 8 0,o 9 (.lenT (.t 8)),lt 10 7 9]
def S5:=[m 13 0,m 14 3,o 15 (.prim .dp [.t 13,.t 14]),o 16 (.bin .lss (.t 15) (.c (.int .u8 32))),m 17 16,fx 18 0 17,fx 19 3 17,on 20 (.prim .dp [.t 18,.t 19]) 17,on 21 (.bin .gtr (.t 20) (.c (.int .u8 126))) 17,or 22 17 21,m 23 22,fx 24 0 23,fx 25 3 23,on 26 (.prim .dp [.t 24,.t 25]) 23,on 27 (.bin .eql (.t 26) (.c (.int .u8 63))) 23,or 28 23 27]
def S6:=[o 2 (.mv bl)]
def S7:=[m 11 3,ad 12 11 1,m 3 12]
def S8:=[o 2 (.mv T)]
def yV:bj:=(s (r S0) (s (s (r S1) (.cond (.t 6) (s (r S2) .ret) .skip)) (s (s (r S3) (.block 0 (.loop (s (s (r S4) (.cond (.t 10) .skip (.exit 0))) (s (.block 1 (s (r S5) (.cond (.t 28) (s (r S6) .ret) .skip))) (r S7)))))) (s (r S8) .ret))))
def C6:List bq:=[.tmp 2]
theorem Ji:bP Tryz.prog Tryz.f86 yV:=e (by kernel_rfl)
theorem KB:bM Tryz.prog Tryz.f86 C6:=e (by kernel_rfl)
theorem H0:bG Tryz.prog 86:=e (by kernel_rfl)
def S9:=[b 2 0,o 4 (.mv bl)]
def Ta:=[m 6 1,o 7 (.call 98 [.t 6]),no 8 7,m 9 8,fn 10 0 0 2 9,on 11 (.ld (some 2) (.t 10)) 9,on 12 (.call 73 [.t 11]) 9,fx 13 1 9,on 14 (.call 135 [.t 13]) 9,on 15 (.bin .neq (.t 12) (.t 14)) 9,or 16 9 15]
def Tb:=[o 4 (.mv bl)]
def Tc:=[m 17 1,o 18 (.len (.t 17)),ad 19 18 1,bm 20 0]
def Td:=[lt 21 20 19]
def Te:=[m 22 20,m 5 22]
def Tf:=[f 23 1 2 2,ao 24 2 23,o 25 (.call 73 [.t 24]),m 26 1,m 27 5,o 28 (.sl 8 (.t 26) none (some (.t 27)) none),o 29 (.call 135 [.t 28]),o 30 (.bin .eql (.t 25) (.t 29))]
def Le:=some [[],[0],[1],[],[],[3,4],[5,2],[2,6]]
def Tg:=[o 4 (.mv T)]
def Th:=[ad 31 20 1,m 20 31]
def Ti:=[o 4 (.mv bl)]
def yW:bj:=(s (r S9) (s (s (r Ta) (.cond (.t 16) (s (r Tb) .ret) .skip)) (s (s (r Tc) (.block 0 (.loop (s (r Td) (s (.cond (.t 21) .skip (.exit 0)) (s (.block 1 (s (r Te) (s (.bQ Le Tf) (.cond (.t 30) (s (r Tg) .ret) .skip)))) (r Th))))))) (s (r Ti) .ret))))
def C7:List bq:=[.tmp 4]
theorem Jj:bP Tryz.prog Tryz.f87 yW:=e (by kernel_rfl)
theorem KC:bM Tryz.prog Tryz.f87 C7:=e (by kernel_rfl)
theorem H2:bG Tryz.prog 87:=e (by kernel_rfl)
def Tj:=[b 3 0,b 5 2,o 6 (.alloc (.agg [.agg [.ah ⟨#[]⟩,.ah ⟨#[]⟩],.agg [.ah ⟨#[]⟩,.ah ⟨#[]⟩]])),o 7 (.mv (.c (.nils 8))),bm 8 0]
def Tk:=[m 13 1,ao 14 8 5,o 15 (.call 136 [.t 13,.t 14])]
def uX:=[ao 16 4 3,m 17 1,o 18 (.call 93 [.t 17]),p (.aR (some 4) (.t 6) (.t 16)),m 7 18,bm 8 0]
def Lf:=some [[],[],[1],[0,2,0],[2,3,0,1,2,3],[4,0,1,2,3,4]]
def Tl:=[m 20 1,o 21 (.call 95 [.t 20]),ao 22 8 5,o 23 (.call 44 [.t 21,.t 22]),m 19 23,o 24 (.ext (.t 19) 0),o 25 (.ext (.t 19) 1),o 9 (.alloc (.agg [.nils 8])),p (.aR (some 1) (.t 9) (.t 24)),m 10 25]
def Lg:=some [[],[0],[],[1,2,1],[3],[4],[4],[],[7,5,3,0,1,2,3,4,5,7],[6,8,0,1,2,3,4,5,6,7,8]]
def Tm:=[m 26 10,o 27 (.bin .neq (.t 26) (aW 0))]
def Tn:=[o 28 (.bld [.agg [.ah ⟨#[]⟩,.ah ⟨#[]⟩],.agg [.ah ⟨#[]⟩,.ah ⟨#[]⟩]] []),m 29 10,p (.aR (some 4) (.t 6) (.t 28)),o 7 (.mv (.c (.nils 8))),m 8 29]
def Tp:=[m 31 1,o 32 (.call 137 [.t 31]),ao 33 8 5,o 34 (.call 81 [.t 32,.t 33]),m 30 34,o 35 (.ext (.t 30) 0),o 36 (.ext (.t 30) 1),m 11 35,m 12 36]
def Lh:=some [[],[0],[],[1,2,1],[3],[4],[4],[5,3,0,1,2,3,4,5],[6,7,0,1,2,3,4,5,6,7]]
def Tq:=[f 37 0 0 3,f 38 1 1 37,l 39 38,m 40 11,o 41 (.bin .add (.t 39) (.t 40)),f 42 0 0 3,f 43 1 1 42,p (.aR none (.t 43) (.t 41))]
def uY:=[ao 44 4 3,m 45 1,o 46 (.call 93 [.t 45]),ao 47 8 5,o 48 (.bs 50 8 [.t 47]),o 49 (.dL 50 8 72 (.agg [.agg [.int .i64 0,.int .i64 0],.int .i64 0,.int .i64 0,.int .i64 0,.agg [.int .i64 0,.int .i64 0],.ah ⟨#[]⟩]) (.t 46) (.t 48)),p (.aR (some 4) (.t 6) (.t 44)),m 7 49,bm 8 0]
def Li:=some [[],[],[1],[],[3],[2,4,2],[0,5,0],[5,6,0,1,2,3,4,5,6],[7,0,1,2,3,4,5,6,7]] -- DRAW BAD
def yX:bj:=(s (r Tj) (s (s (r Tk) (.cond (.t 15) (s (.bQ Lf uX) .ret) .skip)) (s (s (.bQ Lg Tl) (s (r Tm) (.cond (.t 27) (s (r Tn) .ret) .skip))) (s (.bQ Lh Tp) (s (r Tq) (s (.bQ Li uY) .ret))))))
def C8:List bq:=[.cell 6 (some 4),.tmp 7,.tmp 8]
theorem Jk:bP Tryz.prog Tryz.f88 yX:=e (by kernel_rfl)
theorem KD:bM Tryz.prog Tryz.f88 C8:=e (by kernel_rfl)
theorem H3:bG Tryz.prog 88:=e (by kernel_rfl)
def Tr:=[o 2 (.mv (.c (.ah ⟨#[]⟩)))]
def Ts:=[o 3 (.mv (.c (.ah ⟨#[]⟩)))]
def Tt:=[bm 4 1]
def Tu:=[bm 5 0]
def Tv:=[m 8 5,m 9 0,o 10 (.len (.t 9)),lt 11 8 10]
def Tw:=[m 15 4,m 16 0,m 17 5,o 18 (.is 8 (.t 16) (.t 17)),ao 19 8 18,o 20 (.call 83 [.t 15,.t 19]),m 14 20,o 21 (.ext (.t 14) 0),o 22 (.ext (.t 14) 1),m 6 21,m 7 22]
def Tx:=[m 23 3,m 24 6,o 25 (.bin .add (.t 23) (.t 24)),m 3 25]
def Ty:=[m 26 7,m 4 26]
def Tz:=[m 12 5,ad 13 12 1,m 5 13]
def TA:=[m 27 3,m 2 27]
def yY:bj:=(s (r Tr) (s (r Ts) (s (r Tt) (s (s (r Tu) (.block 0 (.loop (s (s (r Tv) (.cond (.t 11) .skip (.exit 0))) (s (.block 1 (s (r Tw) (s (r Tx) (r Ty)))) (r Tz)))))) (s (r TA) .ret)))))
def C9:List bq:=[.tmp 2]
theorem Jl:bP Tryz.prog Tryz.f90 yY:=e (by kernel_rfl)
theorem KE:bM Tryz.prog Tryz.f90 C9:=e (by kernel_rfl)
theorem H4:bG Tryz.prog 90:=e (by kernel_rfl)
def TB:=[b 1 0,o 2 (.mv bl)]
def TC:=[f 6 0 0 1,l 7 6,o 8 (.len (.t 7)),bm 9 0]
def TG:=[lt 10 9 8]
def TH:=[m 11 9,o 12 (.is 8 (.t 7) (.t 9)),ao 13 8 12,o 4 (.alloc (.agg [.agg [.int .i64 0,.int .i64 0],.int .i64 0,.int .i64 0,.int .i64 0,.agg [.int .i64 0,.int .i64 0],.ah ⟨#[]⟩])),m 3 11,p (.aR (some 8) (.t 4) (.t 13))]
def TI:=[ao 14 8 4,o 15 (.call 80 [.t 14]),no 16 15]
def TJ:=[o 2 (.mv bl)]
def TK:=[o 17 (.bld [.int .i64 0,.int .i64 0] [(0,(.c (.int .i64 (-1))))]),o 5 (.alloc (.agg [.int .i64 0,.int .i64 0])),p (.aR (some 2) (.t 5) (.t 17))]
def TL:=[m 18 3,o 19 (.bin .gtr (.t 18) (aW 0))]
def TM:=[f 20 0 0 1,l 21 20,m 22 3,o 23 (.bin .sub (.t 22) (aW 1)),o 24 (.is 8 (.t 21) (.t 23)),f 25 0 0 24,ao 26 2 25,p (.aR (some 2) (.t 5) (.t 26))]
def TN:=[f 27 0 0 4,ao 28 2 27,f 29 0 0 5,l 30 29,f 31 1 1 5,l 32 31,ad 33 32 1,o 34 (.bld [.int .i64 0,.int .i64 0] [(0,(.t 30)),(1,(.t 33))]),o 35 (.eqv (.aR [(.i .i64),(.i .i64)]) true (.t 28) (.t 34)),m 36 35,dR 37 0 0 4 36,dR 38 0 0 37 36,gu 39 38 36,dR 40 0 0 5 36,gu 41 40 36,bz 42 (.bin .leq (.t 39) (.t 41)) 36,da 43 42 36,fn 44 0 0 4 43,fn 45 1 1 44 43,gr 46 45 43,on 47 (.bin .neq (.t 46) (aW 0)) 43,bz 48 (.pick (.t 43) T (.t 47)) 36,and 49 36 48]
def TD:=[o 2 (.mv bl)]
def TE:=[ad 50 9 1,m 9 50]
def TF:=[f 51 0 0 1,l 52 51,o 53 (.len (.t 52)),o 54 (.bin .leq (.t 53) (aW 60)),m 2 54]
def yZ:bj:=(s (r TB) (s (s (r TC) (.block 0 (.loop (s (r TG) (s (.cond (.t 10) .skip (.exit 0)) (s (.block 1 (s (r TH) (s (s (r TI) (.cond (.t 16) (s (r TJ) .ret) .skip)) (s (r TK) (s (s (r TL) (.cond (.t 19) (r TM) .skip)) (s (r TN) (.cond (.t 49) (s (r TD) .ret) .skip))))))) (r TE))))))) (s (r TF) .ret)))
def Da:List bq:=[.tmp 2]
theorem Jm:bP Tryz.prog Tryz.f92 yZ:=e (by kernel_rfl)
theorem KF:bM Tryz.prog Tryz.f92 Da:=e (by kernel_rfl)
theorem H5:bG Tryz.prog 92:=e (by kernel_rfl)
def uZ:=[o 2 (.mv (.c (.nils 8)))]
def pI:=[m 3 0,o 4 (.nilS false (.t 3))]
def u1:=[o 2 (.mv (.c (.nils 8)))]
def pJ:=[o 5 (.bs0 8),m 6 0,o 7 (.dL 50 8 72 (.agg [.agg [.int .i64 0,.int .i64 0],.int .i64 0,.int .i64 0,.int .i64 0,.agg [.int .i64 0,.int .i64 0],.ah ⟨#[]⟩]) (.t 5) (.t 6)),m 2 7]
def ud:bj:=(s (r uZ) (s (s (r pI) (.cond (.t 4) (s (r u1) .ret) .skip)) (s (r pJ) .ret)))
def vV:List bq:=[.tmp 2]
theorem zk:bP Tryz.prog Tryz.f93 ud:=e (by kernel_rfl)
theorem zu:bM Tryz.prog Tryz.f93 vV:=e (by kernel_rfl)
theorem zf:bG Tryz.prog 93:=e (by kernel_rfl)
def TO:=[b 2 0,b 3 1,bm 4 0,o 5 (.mv bl)]
def TP:=[f 6 0 0 2,l 7 6,ao 8 2 3,o 9 (.call 138 [.t 7,.t 8,(.c (.func 139 []))]),o 10 (.ext (.t 9) 0),o 11 (.ext (.t 9) 1),m 4 10,m 5 11]
def y5:bj:=(s (r TO) (s (r TP) .ret))
def Db:List bq:=[.tmp 4,.tmp 5]
theorem Jn:bP Tryz.prog Tryz.f94 y5:=e (by kernel_rfl)
theorem KG:bM Tryz.prog Tryz.f94 Db:=e (by kernel_rfl)
theorem H6:bG Tryz.prog 94:=e (by kernel_rfl)
def TQ:=[o 2 (.alloc (.agg [.nils 8]))]
def TR:=[m 4 0,o 5 (.call 93 [.t 4]),m 3 5]
def TS:=[m 6 3,o 7 (.call 141 [.t 6,(.c (.func 142 []))])]
def TT:=[m 8 3,o 9 (.bld [.nils 8] [(0,(.t 8))]),p (.aR (some 1) (.t 2) (.t 9))]
def y7:bj:=(s (r TQ) (s (r TR) (s (r TS) (s (r TT) .ret))))
def Dc:List bq:=[.cell 2 (some 1)]
theorem Jo:bP Tryz.prog Tryz.f95 y7:=e (by kernel_rfl)
theorem KH:bM Tryz.prog Tryz.f95 Dc:=e (by kernel_rfl)
theorem H7:bG Tryz.prog 95:=e (by kernel_rfl)
def TU:=[o 2 (.mv bl)]
def TV:=[m 5 0,o 6 (.len (.t 5)),bm 7 0]
def TW:=[lt 8 7 6]
def TX:=[m 9 7,o 10 (.is 8 (.t 5) (.t 7)),ao 11 8 10,o 4 (.alloc (.agg [.agg [.int .i64 0,.int .i64 0],.int .i64 0,.int .i64 0,.int .i64 0,.agg [.int .i64 0,.int .i64 0],.ah ⟨#[]⟩])),m 3 9,p (.aR (some 8) (.t 4) (.t 11))]
def TY:=[ao 12 8 4,o 13 (.call 80 [.t 12]),no 14 13,m 15 14,fx 16 0 15,fx 17 3 15,on 18 (.sl 8 (.t 16) none (some (.t 17)) none) 15,on 19 (.ld (some 8) (.t 4)) 15,on 20 (.call 71 [.t 18,.t 19]) 15,on 21 (.un .not (.t 20)) 15,or 22 15 21]
def Lj:=some [[],[0],[1],[2,1],[3],[3],[4,5,3],[3],[6,7,3,3],[8,3],[3,9]]
def TZ:=[o 2 (.mv bl)]
def T0:=[ad 23 7 1,m 7 23]
def T6:=[o 2 (.mv T)]
def y8:bj:=(s (r TU) (s (s (r TV) (.block 0 (.loop (s (r TW) (s (.cond (.t 8) .skip (.exit 0)) (s (.block 1 (s (r TX) (s (.bQ Lj TY) (.cond (.t 22) (s (r TZ) .ret) .skip)))) (r T0))))))) (s (r T6) .ret)))
def Dd:List bq:=[.tmp 2]
theorem Jp:bP Tryz.prog Tryz.f98 y8:=e (by kernel_rfl)
theorem KI:bM Tryz.prog Tryz.f98 Dd:=e (by kernel_rfl)
theorem H8:bG Tryz.prog 98:=e (by kernel_rfl)
def Ms:=[o 2 (.alloc (.agg [.int .i64 0,.int .i64 0,.int .i64 0,.int .i64 0,.int .i64 0,.int .i64 0]))]
def Mt:=[o 3 (.alloc (.agg [.int .i64 0,.int .i64 0,.int .i64 0,.int .i64 0,.int .i64 0,.int .i64 0]))]
def Mu:=[m 6 0,o 7 (.len (.t 6)),bm 8 0]
def Mv:=[lt 9 8 7]
def Mw:=[o 10 (.is 8 (.t 6) (.t 8)),ao 11 8 10,o 5 (.alloc (.agg [.agg [.int .i64 0,.int .i64 0],.int .i64 0,.int .i64 0,.int .i64 0,.agg [.int .i64 0,.int .i64 0],.ah ⟨#[]⟩])),p (.aR (some 8) (.t 5) (.t 11))]
def Mx:=[f 12 0 0 5,f 13 0 0 12,l 14 13,o 15 (.ia 6 1 (.t 3) (.t 14)),l 16 15,ad 17 16 1,o 18 (.ia 6 1 (.t 3) (.t 14)),p (.aR none (.t 18) (.t 17))]
def My:=[ad 19 8 1,m 8 19]
def Mz:=[ao 20 6 3,p (.aR (some 6) (.t 2) (.t 20))]
def xU:bj:=(s (r Ms) (s (r Mt) (s (s (r Mu) (.block 0 (.loop (s (r Mv) (s (.cond (.t 9) .skip (.exit 0)) (s (.block 1 (s (r Mw) (r Mx))) (r My))))))) (s (r Mz) .ret))))
def Ca:List bq:=[.cell 2 (some 6)]
theorem Ij:bP Tryz.prog Tryz.f100 xU:=e (by kernel_rfl)
theorem JD:bM Tryz.prog Tryz.f100 Ca:=e (by kernel_rfl)
theorem GX:bG Tryz.prog 100:=e (by kernel_rfl)
def rI:=[o 6 (.mv (.c (.nils 8)))]
def rJ:=[m 10 0,m 11 1,o 12 (.sl 8 (.t 10) (some (.t 11)) none none)]
def rK:=[m 13 2,o 14 (.len (.t 13)),m 7 14]
def rL:=[m 15 7,o 16 (.bin .eql (.t 15) (aW 0))]
def MD:=[m 17 0,m 6 17]
def rM:=[m 18 0,o 19 (.len (.t 18)),m 8 19]
def rN:=[m 20 1,m 21 8,o 22 (.bin .eql (.t 20) (.t 21))]
def pH:=[m 23 0,m 24 2,o 25 (.dL 50 8 72 (.agg [.agg [.int .i64 0,.int .i64 0],.int .i64 0,.int .i64 0,.int .i64 0,.agg [.int .i64 0,.int .i64 0],.ah ⟨#[]⟩]) (.t 23) (.t 24)),m 6 25]
def Aq:=[m 26 8,m 27 7,o 28 (.bin .add (.t 26) (.t 27)),m 29 0,o 30 (.cap (.t 29)),o 31 (.bin .gtr (.t 28) (.t 30))]
def Ar:=[m 32 0,m 33 1,o 34 (.sl 8 (.t 32) none (some (.t 33)) none),m 35 8,m 36 7,o 37 (.bin .add (.t 35) (.t 36)),m 38 1,o 39 (.bin .sub (.t 37) (.t 38)),o 40 (.jA 50 8 72 (.agg [.agg [.int .i64 0,.int .i64 0],.int .i64 0,.int .i64 0,.int .i64 0,.agg [.int .i64 0,.int .i64 0],.ah ⟨#[]⟩]) (.t 34) (.t 39)),m 9 40]
def Ai:=[m 41 9,m 42 1,o 43 (.sl 8 (.t 41) (some (.t 42)) none none),m 44 2,o 45 (.fS 8 (.t 43) (.t 44))]
def Aj:=[m 46 9,m 47 1,m 48 7,o 49 (.bin .add (.t 47) (.t 48)),o 50 (.sl 8 (.t 46) (some (.t 49)) none none),m 51 0,m 52 1,o 53 (.sl 8 (.t 51) (some (.t 52)) none none),o 54 (.fS 8 (.t 50) (.t 53))]
def KP:=some [[],[],[],[1,2],[0,3],[],[],[5,6],[4,7]]
def Ak:=[m 55 9,m 6 55]
def Al:=[m 56 0,m 57 8,m 58 7,o 59 (.bin .add (.t 57) (.t 58)),o 60 (.sl 8 (.t 56) none (some (.t 59)) none),m 0 60]
def Am:=[m 61 2,m 62 0,m 63 1,m 64 7,o 65 (.bin .add (.t 63) (.t 64)),o 66 (.sl 8 (.t 62) (some (.t 65)) none none),o 67 (.gA 143 [.t 61,.t 66]),no 68 67]
def An:=[m 69 0,m 70 1,m 71 7,o 72 (.bin .add (.t 70) (.t 71)),o 73 (.sl 8 (.t 69) (some (.t 72)) none none),m 74 0,m 75 1,o 76 (.sl 8 (.t 74) (some (.t 75)) none none),o 77 (.fS 8 (.t 73) (.t 76))]
def KQ:=some [[],[],[],[1,2],[0,3],[],[],[5,6],[4,7]]
def Ao:=[m 78 0,m 79 1,o 80 (.sl 8 (.t 78) (some (.t 79)) none none),m 81 2,o 82 (.fS 8 (.t 80) (.t 81))]
def Ap:=[m 83 0,m 6 83]
def MA:=[m 84 0,m 85 8,o 86 (.sl 8 (.t 84) (some (.t 85)) none none),m 87 2,o 88 (.fS 8 (.t 86) (.t 87))]
def MB:=[m 89 0,m 90 1,o 91 (.sl 8 (.t 89) (some (.t 90)) none none),m 92 7,o 93 (.call 144 [.t 91,.t 92])]
def MC:=[m 94 0,m 6 94]
def ri:bj:=(s (r rI) (s (r rJ) (s (r rK) (s (s (r rL) (.cond (.t 16) (s (r MD) .ret) .skip)) (s (r rM) (s (s (r rN) (.cond (.t 22) (s (r pH) .ret) .skip)) (s (s (r Aq) (.cond (.t 31) (s (r Ar) (s (r Ai) (s (.bQ KP Aj) (s (r Ak) .ret)))) .skip)) (s (r Al) (s (s (r Am) (.cond (.t 68) (s (.bQ KQ An) (s (r Ao) (s (r Ap) .ret))) .skip)) (s (r MA) (s (r MB) (s (r MC) .ret))))))))))))
def sL:List bq:=[.tmp 6]
theorem ug:bP Tryz.prog Tryz.f101 ri:=e (by kernel_rfl)
theorem uo:bM Tryz.prog Tryz.f101 sL:=e (by kernel_rfl)
theorem ue:bG Tryz.prog 101:=e (by kernel_rfl)
def ME:=[o 2 (.alloc (.agg [.int .i64 0,.int .i64 0,.int .i64 0,.int .i64 0,.int .i64 0,.int .i64 0]))]
def MF:=[o 3 (.alloc (.agg [.int .i64 0,.int .i64 0,.int .i64 0,.int .i64 0,.int .i64 0,.int .i64 0]))]
def MG:=[bm 4 0]
def MH:=[m 5 4,m 6 0,o 7 (.len (.t 6)),lt 8 5 7]
def MI:=[m 11 0,m 12 4,o 13 (.is 8 (.t 11) (.t 12)),f 14 0 0 13,f 15 0 0 14,l 16 15,o 17 (.ia 6 1 (.t 3) (.t 16)),l 18 17,ad 19 18 1,o 20 (.ia 6 1 (.t 3) (.t 16)),p (.aR none (.t 20) (.t 19))]
def MJ:=[m 9 4,ad 10 9 1,m 4 10]
def MK:=[ao 21 6 3,p (.aR (some 6) (.t 2) (.t 21))]
def xV:bj:=(s (r ME) (s (r MF) (s (s (r MG) (.block 0 (.loop (s (s (r MH) (.cond (.t 8) .skip (.exit 0))) (s (.block 1 (r MI)) (r MJ)))))) (s (r MK) .ret))))
def Cb:List bq:=[.cell 2 (some 6)]
theorem Ik:bP Tryz.prog Tryz.f102 xV:=e (by kernel_rfl)
theorem JE:bM Tryz.prog Tryz.f102 Cb:=e (by kernel_rfl)
theorem GY:bG Tryz.prog 102:=e (by kernel_rfl)
def ML:=[o 2 (.mv bl)]
def MN:=[m 3 0,o 4 (.call 128 [.t 3,(aW 0),(aW 100000)]),m 2 4]
def xW:bj:=(s (r ML) (s (r MN) .ret))
def Cc:List bq:=[.tmp 2]
theorem Il:bP Tryz.prog Tryz.f105 xW:=e (by kernel_rfl)
theorem JF:bM Tryz.prog Tryz.f105 Cc:=e (by kernel_rfl)
theorem GZ:bG Tryz.prog 105:=e (by kernel_rfl)
def MO:=[bm 6 0]
def MP:=[m 7 0,o 8 (.len (.t 7)),o 9 (.bin .eql (.t 8) (aW 0))]
def MQ:=[bm 6 0]
def MR:=[m 10 0,m 11 1,m 12 0,o 13 (.len (.t 12)),o 14 (.bin .rem (.t 11) (.t 13)),o 15 (.is 1 (.t 10) (.t 14)),l 16 15,m 17 2,o 18 (.bin .rem (.t 16) (.t 17)),m 19 2,o 20 (.bin .add (.t 18) (.t 19)),m 21 2,o 22 (.bin .rem (.t 20) (.t 21)),m 6 22]
def xX:bj:=(s (r MO) (s (s (r MP) (.cond (.t 9) (s (r MQ) .ret) .skip)) (s (r MR) .ret)))
def Cd:List bq:=[.tmp 6]
theorem Im:bP Tryz.prog Tryz.f121 xX:=e (by kernel_rfl)
theorem JG:bM Tryz.prog Tryz.f121 Cd:=e (by kernel_rfl)
theorem G0:bG Tryz.prog 121:=e (by kernel_rfl)
def MS:=[l 4 1,o 5 (.bin .neq (.t 4) (.c (.ah ⟨#[]⟩)))]
def MT:=[l 6 1,o 7 (.call 123 [.t 6,(.c (.int .u8 10))]),m 3 7]
def MU:=[m 8 3,o 9 (.bin .lss (.t 8) (aW 0)),m 10 9,fx 11 0 10,gr 12 1 10,fx 13 3 10,on 14 (.bin .add (.t 13) (aW 1)) 10,on 15 (.prim (.ss false true) [.t 12,.t 14]) 10,on 16 (.eV (.t 11) [.t 15]) 10,on 17 (.un .not (.t 16)) 10,or 18 10 17]
def MV:=[l 19 1,m 20 3,ad 21 20 1,o 22 (.prim (.ss true false) [.t 19,.t 21]),p (.aR none (.t 1) (.t 22))]
def xY:bj:=(.block 0 (.loop (s (s (r MS) (.cond (.t 5) .skip (.exit 0))) (.block 1 (s (r MT) (s (s (r MU) (.cond (.t 18) .ret .skip)) (r MV)))))))
def Ce:List bq:=[]
theorem Io:bP Tryz.prog Tryz.f122 xY:=e (by kernel_rfl)
theorem JH:bM Tryz.prog Tryz.f122 Ce:=e (by kernel_rfl)
theorem zb:bG Tryz.prog 122:=e (by kernel_rfl)
theorem G1:bG Tryz.prog 123:=e (by kernel_rfl)
theorem zc:bG Tryz.prog 124:=e (by kernel_rfl)
theorem G2:bG Tryz.prog 125:=e (by kernel_rfl)
def MW:=[bm 2 0,o 3 (.mv (.c (.ah ⟨#[]⟩)))]
def MX:=[m 10 0,o 11 (.call 154 [.t 10,(.c (.ah ⟨#[32]⟩))]),m 9 11,o 12 (.ext (.t 9) 0),o 13 (.ext (.t 9) 1),o 14 (.ext (.t 9) 2),m 4 12,m 5 13,m 6 14]
def MY:=[m 16 4,o 17 (.call 155 [.t 16]),m 15 17,o 18 (.ext (.t 15) 0),o 19 (.ext (.t 15) 1),m 7 18,m 8 19]
def MZ:=[m 20 6,no 21 20,m 22 21,fx 23 8 22,on 24 (.prim (.mI true) [.t 23]) 22,or 25 22 24]
def rO:=[o 26 (.bld [] []),o 27 (.prim (.lT 176) [.t 26]),p (.prim .kl [.t 27])]
def M0:=[m 28 7,m 29 5,m 2 28,m 3 29]
def uc:bj:=(s (r MW) (s (r MX) (s (r MY) (s (s (r MZ) (.cond (.t 25) (r rO) .skip)) (s (r M0) .ret)))))
def Cf:List bq:=[.tmp 2,.tmp 3]
theorem zj:bP Tryz.prog Tryz.f126 uc:=e (by kernel_rfl)
theorem JI:bM Tryz.prog Tryz.f126 Cf:=e (by kernel_rfl)
theorem zd:bG Tryz.prog 126:=e (by kernel_rfl)
theorem G3:bG Tryz.prog 127:=e (by kernel_rfl)
def M2:=[o 6 (.mv bl)]
def M3:=[m 7 1,m 8 0,o 9 (.bin .leq (.t 7) (.t 8)),m 10 9,da 11 0 10,da 12 2 10,bz 13 (.bin .leq (.t 11) (.t 12)) 10,and 14 10 13,m 6 14]
def xZ:bj:=(s (r M2) (s (r M3) .ret))
def Cg:List bq:=[.tmp 6]
theorem Ip:bP Tryz.prog Tryz.f128 xZ:=e (by kernel_rfl)
theorem JJ:bM Tryz.prog Tryz.f128 Cg:=e (by kernel_rfl)
theorem G4:bG Tryz.prog 128:=e (by kernel_rfl)
def M4:=[b 1 0,o 2 (.mv bl)]
def M5:=[f 3 0 0 1,l 4 3,o 5 (.call 128 [.t 4,(aW 0),(aW 5)]),m 6 5,dR 7 1 1 1 6,gu 8 7 6,bz 9 (.call 128 [.t 8,(aW 0),(aW 9999)]) 6,and 10 6 9,m 2 10]
def x8:bj:=(s (r M4) (s (r M5) .ret))
def Ch:List bq:=[.tmp 2]
theorem Iq:bP Tryz.prog Tryz.f129 x8:=e (by kernel_rfl)
theorem JK:bM Tryz.prog Tryz.f129 Ch:=e (by kernel_rfl)
theorem G5:bG Tryz.prog 129:=e (by kernel_rfl)
def M6:=[o 2 (.mv bl)]
def M7:=[m 5 0,o 6 (.lenT (.t 5)),o 7 (.bin .gtr (.t 6) (aW 160))]
def M8:=[o 2 (.mv bl)]
def M9:=[m 8 0,o 9 (.dU (.t 8)),o 10 (.len (.t 9)),bm 11 0]
def Na:=[lt 12 11 10]
def Nb:=[o 13 (.is 1 (.t 9) (.t 11)),l 14 13,m 4 14]
def Nc:=[m 15 4,o 16 (.bin .lss (.t 15) (.c (.int .u8 32))),m 17 16,fx 18 4 17,on 19 (.bin .gtr (.t 18) (.c (.int .u8 126))) 17,or 20 17 19,m 21 20,fx 22 4 21,on 23 (.bin .eql (.t 22) (.c (.int .u8 63))) 21,or 24 21 23]
def Nd:=[o 2 (.mv bl)]
def Nf:=[ad 25 11 1,m 11 25]
def Ng:=[o 2 (.mv T)]
def x9:bj:=(s (r M6) (s (s (r M7) (.cond (.t 7) (s (r M8) .ret) .skip)) (s (s (r M9) (.block 0 (.loop (s (r Na) (s (.cond (.t 12) .skip (.exit 0)) (s (.block 1 (s (r Nb) (s (r Nc) (.cond (.t 24) (s (r Nd) .ret) .skip)))) (r Nf))))))) (s (r Ng) .ret))))
def Ci:List bq:=[.tmp 2]
theorem Ir:bP Tryz.prog Tryz.f130 x9:=e (by kernel_rfl)
theorem JL:bM Tryz.prog Tryz.f130 Ci:=e (by kernel_rfl)
theorem G6:bG Tryz.prog 130:=e (by kernel_rfl)
theorem G7:bG Tryz.prog 131:=e (by kernel_rfl)
theorem G8:bG Tryz.prog 132:=e (by kernel_rfl)
def Nh:=[b 1 0,o 2 (.mv (.c (.ah ⟨#[]⟩)))]
def Ni:=[f 4 0 0 1,f 5 0 0 4,l 6 5,o 7 (.call 134 [.t 6]),o 8 (.bin .add (.t 7) (.c (.ah ⟨#[32]⟩))),f 9 0 0 1,f 10 1 1 9,l 11 10,o 12 (.call 134 [.t 11]),o 13 (.bin .add (.t 8) (.t 12)),o 14 (.bin .add (.t 13) (.c (.ah ⟨#[32]⟩))),f 15 1 2 1,l 16 15,o 17 (.call 134 [.t 16]),o 18 (.bin .add (.t 14) (.t 17)),o 19 (.bin .add (.t 18) (.c (.ah ⟨#[32]⟩))),f 20 2 3 1,l 21 20,o 22 (.call 134 [.t 21]),o 23 (.bin .add (.t 19) (.t 22)),o 24 (.bin .add (.t 23) (.c (.ah ⟨#[32]⟩))),f 25 3 4 1,l 26 25,o 27 (.call 134 [.t 26]),o 28 (.bin .add (.t 24) (.t 27)),o 29 (.bin .add (.t 28) (.c (.ah ⟨#[32]⟩))),m 3 29]
def KR:=some [[],[0],[1],[2],[3],[],[5],[6],[7,3],[4,8],[9],[],[11],[12,8],[10,13],[14],[],[16],[17,13],[15,18],[19],[],[21],[22,18],[20,23],[24],[25,23,0,1,2,3,4,5,6,7,8,9,10,11,12,13,14,15,16,17,18,19,20,21,22,23,24,25]]
def Nj:=[m 30 3,f 31 4 5 1,f 32 0 0 31,l 33 32,o 34 (.call 134 [.t 33]),o 35 (.bin .add (.t 30) (.t 34)),o 36 (.bin .add (.t 35) (.c (.ah ⟨#[32]⟩))),f 37 4 5 1,f 38 1 1 37,l 39 38,o 40 (.call 134 [.t 39]),o 41 (.bin .add (.t 36) (.t 40)),o 42 (.bin .add (.t 41) (.c (.ah ⟨#[32]⟩))),f 43 5 7 1,l 44 43,o 45 (.bin .add (.t 42) (.t 44)),m 2 45]
def KS:=some [[],[],[1],[2],[3],[0,4],[5],[],[7],[8],[9,4],[6,10],[11],[],[13],[12,14],[15,10,0,1,2,3,4,5,6,7,8,9,10,11,12,13,14,15]]
def ya:bj:=(s (r Nh) (s (.bQ KR Ni) (s (.bQ KS Nj) .ret)))
def Cj:List bq:=[.tmp 2]
theorem Is:bP Tryz.prog Tryz.f133 ya:=e (by kernel_rfl)
theorem JM:bM Tryz.prog Tryz.f133 Cj:=e (by kernel_rfl)
theorem G9:bG Tryz.prog 133:=e (by kernel_rfl)
def Nk:=[o 2 (.mv (.c (.ah ⟨#[]⟩)))]
def Nl:=[m 4 0,o 5 (.bin .rem (.t 4) (aW 10)),o 6 (.bin .add (aW 48) (.t 5)),o 7 (.conv .u8 (.t 6)),o 8 (.bs 5 1 [.t 7]),o 9 (.b2s (.t 8)),m 3 9]
def Nn:=[m 10 0,o 11 (.bin .geq (.t 10) (aW 10))]
def Np:=[m 12 0,o 13 (.bin .quo (.t 12) (aW 10)),m 0 13]
def Nq:=[m 14 0,o 15 (.bin .rem (.t 14) (aW 10)),o 16 (.bin .add (aW 48) (.t 15)),o 17 (.conv .u8 (.t 16)),o 18 (.bs 5 1 [.t 17]),o 19 (.b2s (.t 18)),m 20 3,o 21 (.bin .add (.t 19) (.t 20)),m 3 21]
def Nr:=[m 22 3,m 2 22]
def yb:bj:=(s (r Nk) (s (r Nl) (s (.block 0 (.loop (s (s (r Nn) (.cond (.t 11) .skip (.exit 0))) (.block 1 (s (r Np) (r Nq)))))) (s (r Nr) .ret))))
def Ck:List bq:=[.tmp 2]
theorem It:bP Tryz.prog Tryz.f134 yb:=e (by kernel_rfl)
theorem JN:bM Tryz.prog Tryz.f134 Ck:=e (by kernel_rfl)
theorem Ha:bG Tryz.prog 134:=e (by kernel_rfl)
theorem Hb:bG Tryz.prog 135:=e (by kernel_rfl)
def Nt:=[b 3 1,o 4 (.mv bl)]
def Nu:=[m 5 0,ao 6 8 3,o 7 (.call 159 [.t 5,.t 6]),o 8 (.bin .geq (.t 7) (aW 0)),m 4 8]
def yc:bj:=(s (r Nt) (s (r Nu) .ret))
def Cl:List bq:=[.tmp 4]
theorem Iu:bP Tryz.prog Tryz.f136 yc:=e (by kernel_rfl)
theorem JO:bM Tryz.prog Tryz.f136 Cl:=e (by kernel_rfl)
theorem Hc:bG Tryz.prog 136:=e (by kernel_rfl)
def Nv:=[bm 2 0]
def Nw:=[bm 3 1]
def Nx:=[m 6 0,o 7 (.len (.t 6)),bm 8 0]
def Ny:=[lt 9 8 7]
def Nz:=[o 10 (.is 8 (.t 6) (.t 8)),ao 11 8 10,o 5 (.alloc (.agg [.agg [.int .i64 0,.int .i64 0],.int .i64 0,.int .i64 0,.int .i64 0,.agg [.int .i64 0,.int .i64 0],.ah ⟨#[]⟩])),p (.aR (some 8) (.t 5) (.t 11))]
def NA:=[m 13 3,ao 14 8 5,o 15 (.call 81 [.t 13,.t 14]),m 12 15,o 16 (.ext (.t 12) 0),o 17 (.ext (.t 12) 1),m 3 17]
def NB:=[ad 18 8 1,m 8 18]
def NC:=[m 19 3,m 2 19]
def yd:bj:=(s (r Nv) (s (r Nw) (s (s (r Nx) (.block 0 (.loop (s (r Ny) (s (.cond (.t 9) .skip (.exit 0)) (s (.block 1 (s (r Nz) (r NA))) (r NB))))))) (s (r NC) .ret))))
def Cm:List bq:=[.tmp 2]
theorem Iv:bP Tryz.prog Tryz.f137 yd:=e (by kernel_rfl)
theorem JP:bM Tryz.prog Tryz.f137 Cm:=e (by kernel_rfl)
theorem Hd:bG Tryz.prog 137:=e (by kernel_rfl)
def ND:=[b 4 1,bm 6 0,o 7 (.mv bl)]
def NF:=[m 12 0,o 13 (.len (.t 12)),m 8 13]
def NG:=[m 14 8,bm 9 0,m 10 14]
def NH:=[m 15 9,m 16 10,lt 17 15 16]
def NI:=[m 18 9,m 19 10,o 20 (.bin .add (.t 18) (.t 19)),o 21 (.conv .u64 (.t 20)),o 22 (.bin .shr (.t 21) (.c (.int .u64 1))),o 23 (.conv .i64 (.t 22)),m 11 23]
def NJ:=[m 24 2,m 25 0,m 26 11,o 27 (.is 8 (.t 25) (.t 26)),ao 28 8 27,ao 29 2 4,o 30 (.eV (.t 24) [.t 28,.t 29]),o 31 (.bin .lss (.t 30) (aW 0))]
def KT:=some [[],[],[],[1,2],[3],[],[0,4,5],[6]]
def NK:=[m 32 11,ad 33 32 1,m 9 33]
def NL:=[m 34 11,m 10 34]
def NM:=[m 35 9,m 36 9,m 37 8,lt 38 36 37,m 39 38,da 40 2 39,da 41 0 39,da 42 9 39,bz 43 (.is 8 (.t 41) (.t 42)) 39,bz 44 (.ld (some 8) (.t 43)) 39,bz 45 (.ld (some 2) (.t 4)) 39,bz 46 (.eV (.t 40) [.t 44,.t 45]) 39,bz 47 (.bin .eql (.t 46) (aW 0)) 39,and 48 39 47,m 6 35,m 7 48]
def KU:=some [[],[],[],[1,2],[3],[4],[4],[4],[6,7,4],[8,4],[4],[5,9,10,4,4],[11,4],[4,12],[0,11,0],[13,14,0,1,2,3,4,5,6,7,8,9,10,11,12,13,14]]
def yf:bj:=(s (r ND) (s (r NF) (s (r NG) (s (.block 0 (.loop (s (s (r NH) (.cond (.t 17) .skip (.exit 0))) (.block 1 (s (r NI) (s (.bQ KT NJ) (.cond (.t 31) (r NK) (r NL)))))))) (s (.bQ KU NM) .ret)))))
def Cn:List bq:=[.tmp 6,.tmp 7]
theorem Iw:bP Tryz.prog Tryz.f138 yf:=e (by kernel_rfl)
theorem JQ:bM Tryz.prog Tryz.f138 Cn:=e (by kernel_rfl)
theorem He:bG Tryz.prog 138:=e (by kernel_rfl)
def NN:=[b 2 0,b 3 1,bm 4 0]
def NO:=[f 5 0 0 2,ao 6 2 5,ao 7 2 3,o 8 (.call 140 [.t 6,.t 7]),m 4 8]
def yg:bj:=(s (r NN) (s (r NO) .ret))
def Co:List bq:=[.tmp 4]
theorem Iy:bP Tryz.prog Tryz.f139 yg:=e (by kernel_rfl)
theorem JR:bM Tryz.prog Tryz.f139 Co:=e (by kernel_rfl)
theorem Hf:bG Tryz.prog 139:=e (by kernel_rfl)
def NP:=[b 2 0,b 3 1,bm 4 0]
def NQ:=[f 5 0 0 2,l 6 5,f 7 0 0 3,l 8 7,o 9 (.call 161 [.t 6,.t 8]),f 10 1 1 2,l 11 10,f 12 1 1 3,l 13 12,o 14 (.call 161 [.t 11,.t 13]),o 15 (.bs 3 1 [.t 9,.t 14]),o 16 (.call 160 [.t 15]),m 4 16]
def KV:=some [[],[0],[],[2],[1,3],[],[5],[],[7],[6,8,4],[4,9],[10,9],[11,11,0,1,2,3,4,5,6,7,8,9,10,11]]
def yi:bj:=(s (r NP) (s (.bQ KV NQ) .ret))
def Cq:List bq:=[.tmp 4]
theorem IA:bP Tryz.prog Tryz.f140 yi:=e (by kernel_rfl)
theorem JT:bM Tryz.prog Tryz.f140 Cq:=e (by kernel_rfl)
theorem Hh:bG Tryz.prog 140:=e (by kernel_rfl)
theorem Hj:bG Tryz.prog 152:=e (by kernel_rfl)
def N6:=[o 4 (.mv (.c (.ah ⟨#[]⟩))),o 5 (.mv (.c (.ah ⟨#[]⟩))),o 6 (.mv bl)]
def N7:=[m 7 0,m 8 1,o 9 (.call 170 [.t 7,.t 8]),o 10 (.ext (.t 9) 0),o 11 (.ext (.t 9) 1),o 12 (.ext (.t 9) 2),m 4 10,m 5 11,m 6 12]
def yk:bj:=(s (r N6) (s (r N7) .ret))
def Cs:List bq:=[.tmp 4,.tmp 5,.tmp 6]
theorem IC:bP Tryz.prog Tryz.f154 yk:=e (by kernel_rfl)
theorem JV:bM Tryz.prog Tryz.f154 Cs:=e (by kernel_rfl)
theorem Hk:bG Tryz.prog 154:=e (by kernel_rfl)
theorem Hl:bG Tryz.prog 155:=e (by kernel_rfl)
def N8:=[b 3 1,bm 4 0]
def N9:=[m 6 0,o 7 (.len (.t 6)),bm 8 0]
def Oa:=[lt 9 8 7]
def Ob:=[m 10 8,m 5 10]
def Oc:=[ao 11 8 3,m 12 0,m 13 5,o 14 (.is 8 (.t 12) (.t 13)),ao 15 8 14,o 16 (.eqv (.aR [(.aR [(.i .i64),(.i .i64)]),(.i .i64),(.i .i64),(.i .i64),(.aR [(.i .i64),(.i .i64)]),.s]) false (.t 11) (.t 15))]
def KW:=some [[],[],[],[1,2],[3],[0,4]]
def Od:=[m 17 5,m 4 17]
def Oe:=[ad 18 8 1,m 8 18]
def Of:=[bm 4 (-1)]
def yl:bj:=(s (r N8) (s (s (r N9) (.block 0 (.loop (s (r Oa) (s (.cond (.t 9) .skip (.exit 0)) (s (.block 1 (s (r Ob) (s (.bQ KW Oc) (.cond (.t 16) (s (r Od) .ret) .skip)))) (r Oe))))))) (s (r Of) .ret)))
def Ct:List bq:=[.tmp 4]
theorem ID:bP Tryz.prog Tryz.f159 yl:=e (by kernel_rfl)
theorem JW:bM Tryz.prog Tryz.f159 Ct:=e (by kernel_rfl)
theorem Hm:bG Tryz.prog 159:=e (by kernel_rfl)
def Ov:=[bm 2 0]
def Ow:=[bm 3 0]
def Ox:=[m 6 0,o 7 (.len (.t 6)),bm 8 0]
def Oy:=[lt 9 8 7]
def Oz:=[o 10 (.is 1 (.t 6) (.t 8)),l 11 10,m 5 11]
def OA:=[m 12 5,m 13 3,o 14 (.bin .neq (.t 12) (.t 13))]
def OB:=[m 15 5,m 2 15]
def OC:=[ad 16 8 1,m 8 16]
def OD:=[m 17 3,m 2 17]
def yn:bj:=(s (r Ov) (s (r Ow) (s (s (r Ox) (.block 0 (.loop (s (r Oy) (s (.cond (.t 9) .skip (.exit 0)) (s (.block 1 (s (r Oz) (s (r OA) (.cond (.t 14) (s (r OB) .ret) .skip)))) (r OC))))))) (s (r OD) .ret))))
def Cv:List bq:=[.tmp 2]
theorem IF:bP Tryz.prog Tryz.f160 yn:=e (by kernel_rfl)
theorem JY:bM Tryz.prog Tryz.f160 Cv:=e (by kernel_rfl)
theorem Ho:bG Tryz.prog 160:=e (by kernel_rfl)
def OE:=[bm 4 0]
def OF:=[m 7 0,o 8 (.call 175 [.t 7]),m 5 8]
def OK:=[m 9 1,o 10 (.call 175 [.t 9]),m 6 10]
def OL:=[m 11 5]
def OM:=[m 12 6]
def ON:=[bm 4 0]
def OO:=[bm 4 (-1)]
def OP:=[m 13 6]
def OQ:=[bm 4 1]
def OR:=[m 14 0,m 15 1,lt 16 14 15]
def OG:=[bm 4 (-1)]
def OH:=[m 17 0,m 18 1,o 19 (.bin .gtr (.t 17) (.t 18))]
def OI:=[bm 4 1]
def OJ:=[bm 4 0]
def yp:bj:=(s (r OE) (s (r OF) (s (r OK) (s (s (r OL) (.cond (.t 11) (s (s (r OM) (.cond (.t 12) (s (r ON) .ret) .skip)) (s (r OO) .ret)) .skip)) (s (s (r OP) (.cond (.t 13) (s (r OQ) .ret) .skip)) (s (s (r OR) (.cond (.t 16) (s (r OG) .ret) .skip)) (s (s (r OH) (.cond (.t 19) (s (r OI) .ret) .skip)) (s (r OJ) .ret))))))))
def Cw:List bq:=[.tmp 4]
theorem IG:bP Tryz.prog Tryz.f161 yp:=e (by kernel_rfl)
theorem JZ:bM Tryz.prog Tryz.f161 Cw:=e (by kernel_rfl)
theorem Hp:bG Tryz.prog 161:=e (by kernel_rfl)
def O7:=[o 4 (.mv (.c (.ah ⟨#[]⟩))),o 5 (.mv (.c (.ah ⟨#[]⟩))),o 6 (.mv bl)]
def O8:=[m 8 0,m 9 1,o 10 (.call 188 [.t 8,.t 9]),m 7 10]
def O9:=[m 11 7,o 12 (.bin .geq (.t 11) (aW 0))]
def Pa:=[m 13 0,m 14 7,o 15 (.prim (.ss false true) [.t 13,.t 14]),m 16 0,m 17 7,m 18 1,o 19 (.lenT (.t 18)),o 20 (.bin .add (.t 17) (.t 19)),o 21 (.prim (.ss true false) [.t 16,.t 20]),m 4 15,m 5 21,o 6 (.mv T)]
def KZ:=some [[],[],[0,1],[],[],[],[5],[4,6],[3,7],[2,0,1,2],[8,9,0,1,2,3,4,5,6,7,8,9],[10,0,1,2,3,4,5,6,7,8,9,10]]
def Pb:=[m 22 0,m 4 22,o 5 (.mv (.c (.ah ⟨#[]⟩))),o 6 (.mv bl)]
def yr:bj:=(s (r O7) (s (s (r O8) (s (r O9) (.cond (.t 12) (s (.bQ KZ Pa) .ret) .skip))) (s (r Pb) .ret)))
def Cy:List bq:=[.tmp 4,.tmp 5,.tmp 6]
theorem II:bP Tryz.prog Tryz.f170 yr:=e (by kernel_rfl)
theorem J1:bM Tryz.prog Tryz.f170 Cy:=e (by kernel_rfl)
theorem ze:bG Tryz.prog 170:=e (by kernel_rfl)
def Pc:=[o 2 (.mv bl)]
def Pd:=[m 3 0,m 4 0,o 5 (.bin .neq (.t 3) (.t 4)),m 2 5]
def c175:bj:=(s (r Pc) (s (r Pd) .ret))
def Cz:List bq:=[.tmp 2]
theorem IJ:bP Tryz.prog Tryz.f175 c175:=e (by kernel_rfl)
theorem J2:bM Tryz.prog Tryz.f175 Cz:=e (by kernel_rfl)
theorem Hr:bG Tryz.prog 175:=e (by kernel_rfl)
def Pm:=[bm 4 0]
def Pn:=[m 14 1,o 15 (.lenT (.t 14)),m 5 15]
def Py:=[m 17 5,o 18 (.bin .eql (.t 17) (aW 0)),m 19 18,fx 20 1 19,fx 21 0 19,on 22 (.bin .eql (.t 20) (.t 21)) 19,or 23 19 22,m 16 23]
def PJ:=[bm 4 0]
def PN:=[m 25 5,o 26 (.bin .eql (.t 25) (aW 1)),m 24 26]
def PO:=[m 27 0,m 28 1,o 29 (.prim .dp [.t 28,(aW 0)]),o 30 (.call 152 [.t 27,.t 29]),m 4 30]
def PQ:=[m 32 5,m 33 0,o 34 (.lenT (.t 33)),o 35 (.bin .geq (.t 32) (.t 34)),m 31 35]
def PR:=[bm 4 (-1)]
def PS:=[m 45 0,m 46 1,o 47 (.gA 204 [.t 45,.t 46]),m 4 47]
def PT:=[m 48 1,o 49 (.prim .dp [.t 48,(aW 0)]),m 6 49]
def Po:=[m 50 1,o 51 (.prim .dp [.t 50,(aW 1)]),m 7 51]
def Pp:=[bm 8 0]
def Pq:=[m 52 0,o 53 (.lenT (.t 52)),m 54 5,o 55 (.bin .sub (.t 53) (.t 54)),ad 56 55 1,m 9 56]
def Pr:=[bm 10 0]
def Ps:=[m 57 8,m 58 9,lt 59 57 58]
def Pt:=[m 60 0,m 61 8,o 62 (.prim .dp [.t 60,.t 61]),m 63 6,o 64 (.bin .neq (.t 62) (.t 63))]
def Pu:=[m 65 0,m 66 8,ad 67 66 1,m 68 9,o 69 (.prim (.ss true true) [.t 65,.t 67,.t 68]),m 70 6,o 71 (.call 152 [.t 69,.t 70]),m 11 71]
def Pv:=[m 72 11,o 73 (.bin .lss (.t 72) (aW 0))]
def Pw:=[bm 4 (-1)]
def Px:=[m 74 8,m 75 11,ad 76 75 1,o 77 (.bin .add (.t 74) (.t 76)),m 8 77]
def Pz:=[m 78 0,m 79 8,ad 80 79 1,o 81 (.prim .dp [.t 78,.t 80]),m 82 7,o 83 (.bin .eql (.t 81) (.t 82)),m 84 83,da 85 0 84,da 86 8 84,da 87 8 84,da 88 5 84,bz 89 (.bin .add (.t 87) (.t 88)) 84,bz 90 (.prim (.ss true true) [.t 85,.t 86,.t 89]) 84,da 91 1 84,bz 92 (.bin .eql (.t 90) (.t 91)) 84,and 93 84 92]
def PA:=[m 94 8,m 4 94]
def PB:=[m 95 8,ad 96 95 1,m 8 96]
def PC:=[m 97 10,ad 98 97 1,m 10 98]
def PD:=[m 108 0,m 109 8,o 110 (.prim (.ss true false) [.t 108,.t 109]),m 111 1,o 112 (.gA 204 [.t 110,.t 111]),m 12 112]
def PE:=[m 113 12,o 114 (.bin .geq (.t 113) (aW 0))]
def PF:=[m 115 12,m 116 8,o 117 (.bin .add (.t 115) (.t 116)),m 4 117]
def PG:=[bm 4 (-1)]
def PH:=[m 133 0,m 134 8,o 135 (.prim (.ss true false) [.t 133,.t 134]),m 136 1,o 137 (.call 206 [.t 135,.t 136]),m 13 137]
def PI:=[m 138 13,o 139 (.bin .lss (.t 138) (aW 0))]
def PK:=[bm 4 (-1)]
def PL:=[m 140 8,m 141 13,o 142 (.bin .add (.t 140) (.t 141)),m 4 142]
def PM:=[bm 4 (-1)]
def yw:bj:=(s (r Pm) (s (r Pn) (s (.block 0 (s (r Py) (.cond (.t 16) (s (r PJ) .ret) (s (r PN) (.cond (.t 24) (s (r PO) .ret) (s (r PQ) (.cond (.t 31) (s (r PR) .ret) (s .pj (.cond (.t 36) (s (r PS) .ret) .skip))))))))) (s (r PT) (s (r Po) (s (r Pp) (s (r Pq) (s (r Pr) (s (.block 1 (.loop (s (s (r Ps) (.cond (.t 59) .skip (.exit 1))) (.block 2 (s (s (r Pt) (.cond (.t 64) (s (r Pu) (s (s (r Pv) (.cond (.t 73) (s (r Pw) .ret) .skip)) (r Px))) .skip)) (s (s (r Pz) (.cond (.t 93) (s (r PA) .ret) .skip)) (s (r PB) (s (r PC) (s .pj (.cond (.t 107) (s (r PD) (s (s (r PE) (.cond (.t 114) (s (r PF) .ret) .skip)) (s (r PG) .ret))) (s .pj (.cond (.t 132) (s (r PH) (s (s (r PI) (.cond (.t 139) (s (r PK) .ret) .skip)) (s (r PL) .ret))) .skip)))))))))))) (s (r PM) .ret))))))))))
def CB:List bq:=[.tmp 4]
theorem IL:bP Tryz.prog Tryz.f188 yw:=e (by kernel_rfl)
theorem J4:bM Tryz.prog Tryz.f188 CB:=e (by kernel_rfl)
theorem Ht:bG Tryz.prog 188:=e (by kernel_rfl)
end Go.Proofs.YtoffnnjbplgnaaaGreatDoor
namespace Go.Abs
open Go Go.RowKit
open Enc (enc)
def au(x:I)(p q:Prop):Prop:=match x with
 | .bool t=>(t=true→p)∧(t=false→q)
 |_=>False
theorem U.gG{c:cd}{A:ab}{Q:Exit→ab→Prop}{b:aw}{x y:bj}(h:au (af A b) (U c x Q A) (U c y Q A)):U c (.cond b x y) Q A:=by
 generalize hb:af A b=v at h;unfold au at h;split at h
 ·exact U.cond hb h.1 h.2
 ·exact h.elim
def mX(r:I):Option (List I)→Prop
 |some xs=>jS xs=r
 |none=>False
theorem Yo(rs:List bq)(r:I)(A:ab):jV rs r .ret A=mX r (er A rs):=by
 simp only[jV,mX];cases er A rs <;>simp
theorem Yn(rs:List bq)(r:I)(A:ab):jV rs r .normal A=mX r (er A rs):=by
 simp only[jV,mX];cases er A rs <;>simp
def qw(s:Option Nat)(A:ab):Option I→Option I
 |some x=>if bV s x=true then ba true A x else none
 |none=>none
def kO:Option I→Option (List I)→Option (List I)
 |some x,some xs=>some (x::xs)
 |_,_=>none
theorem Yf(A:ab):er A []=some []:=rfl
theorem Yg(A:ab)(t:Nat)(rs:List bq):er A (.tmp t::rs)=kO (ba true A (A.t t)) (er A rs):=by
 simp only[er,sW];cases ba true A (A.t t) <;>cases er A rs <;>rfl
theorem Ye(A:ab)(a:Nat)(s:Option Nat)(rs:List bq):er A (.cell a s::rs)=kO (qw s A (ft A (A.t a))) (er A rs):=by
 simp only[er,sW,jG];cases ft A (A.t a) with
 |none=>cases er A rs <;>rfl
 |some x =>
  by_cases h:bV s x=true
  ·simp only[qw,if_pos h];cases ba true A x <;>cases er A rs <;>rfl
  ·simp only[qw,if_neg h];cases er A rs <;>rfl
def nU(aG:Bool)(A:ab):Option I→Option I
 |some x=>if x.bu=true then some (.ref x) else (fV A 9 x).map .ref
 |none=>none
theorem uQ(A:ab)(n:Nat)(p:List Nat):ba true A (.ptr n p)=nU true A (dA p (A.o n)):=by
 simp only[ba,jG,ft,if_true,nU];cases dA p (A.o n) <;>rfl
open Classical in
noncomputable def kR(sz lo k:Nat):Option (List I)→Option I
 |some fs=>if I.b9 ((fs.drop lo).take k)=true then some (.slice sz ((fs.drop lo).take k)) else none
 |none=>none
theorem uR(A:ab)(n:Nat)(p:List Nat)(sz lo k:Nat):ba true A (.view n p sz lo k)=kR sz lo k (eg (dA p (A.o n))):=by
 simp only[ba,jG,ft,if_true];cases dA p (A.o n) with
 |none=>rfl
 |some c=>cases c <;>simp only[eg,I.db,kR] <;>(split <;>simp_all)
open Classical in
noncomputable def kb(k:Nat):Option ai→Option I
 |some (.bF _ sz es)=>if k=es.length∧I.b9 es=true then some (.slice sz es) else none
 |_=>none
theorem Mi(aG:Bool)(A:ab)(n k:Nat):ba aG A (.own n k)=kb k (A.o n):=by
 simp only[ba];cases A.o n with
 |none=>rfl
 |some y=>cases y <;>simp only[kb] <;>(split <;>simp_all)
theorem Mc(aG:Bool)(A:ab)(fs:List I):ba aG A (.agg fs)=(bI aG A fs).map .agg:=by simp only[ba]
theorem Me(aG:Bool)(A:ab)(f:FuncId)(fs:List I):ba aG A (.func f fs)=if f<1000000 then (bI aG A fs).map (.func f) else some .any:=by simp only[ba]
theorem Mf(aG:Bool)(A:ab)(k:IntKind)(n:Int):ba aG A (.int k n)=some (.int k n):=by simp only[ba]
theorem Md(aG:Bool)(A:ab)(n:Bool):ba aG A (.bool n)=some (.bool n):=by simp only[ba]
theorem Ml(aG:Bool)(A:ab)(n:ByteArray):ba aG A (.ah n)=some (.ah n):=by simp only[ba]
theorem Mh(aG:Bool)(A:ab)(n:Nat):ba aG A (.nils n)=some (.slice n []):=by simp only[ba]
theorem Mk(aG:Bool)(A:ab)(n:Nat)(es:List I):ba aG A (.slice n es)=if I.b9 es=true then some (.slice n es) else none:=by simp only[ba]
theorem Mj(aG:Bool)(A:ab)(x:I):ba aG A (.ref x)=if x.bu=true then some (.ref x) else none:=by simp only[ba]
theorem Mn(aG:Bool)(A:ab):bI aG A []=some []:=by simp only[bI]
theorem Mm(aG:Bool)(A:ab)(x:I)(xs:List I):bI aG A (x::xs)=kO (ba aG A x) (bI aG A xs):=by
 simp only[bI];cases ba aG A x <;>cases bI aG A xs <;>rfl
theorem Jr(fs:List I):(I.agg fs).bu=I.b9 fs:=by simp only[I.bu]
theorem Jw(n:Nat)(fs:List I):(I.slice n fs).bu=I.b9 fs:=by simp only[I.bu]
theorem Jv(x:I):(I.ref x).bu=x.bu:=by simp only[I.bu]
theorem Ju(k:IntKind)(n:Int):(I.int k n).bu=true:=by simp only[I.bu]
theorem Js(n:Bool):(I.bool n).bu=true:=by simp only[I.bu]
theorem Jx(n:ByteArray):(I.ah n).bu=true:=by simp only[I.bu]
theorem Jt(f:FuncId)(fs:List I):(I.func f fs).bu=I.b9 fs:=by simp only[I.bu]
theorem Jz:I.b9 []=true:=by simp only[I.b9]
theorem Jy(x:I)(xs:List I):I.b9 (x::xs)=(x.bu&&I.b9 xs):=by simp only[I.b9]
theorem Gu(k:IntKind)(a b:Int):bJ .add (.int k a) (.int k b)=some (.int k (k.wrap (a+b))):=by simp[bJ]
theorem GL(k:IntKind)(a b:Int):bJ .sub (.int k a) (.int k b)=some (.int k (k.wrap (a-b))):=by simp[bJ]
theorem GC(k:IntKind)(a b:Int):bJ .mul (.int k a) (.int k b)=some (.int k (k.wrap (a*b))):=by simp[bJ]
theorem GH(k:IntKind)(a b:Int):bJ .quo (.int k a) (.int k b)=if b=0 then none else some (.int k (k.wrap (a.tdiv b))):=by simp[bJ]
theorem GI(k:IntKind)(a b:Int):bJ .rem (.int k a) (.int k b)=if b=0 then none else some (.int k (a.tmod b)):=by simp[bJ]
theorem Gv(k:IntKind)(a b:Int):bJ .and (.int k a) (.int k b)=some (.int k (k.wrap ((BitVec.ofInt k.bits a &&& BitVec.ofInt k.bits b).toNat:Int))):=by simp[bJ]
theorem GG(k:IntKind)(a b:Int):bJ .or (.int k a) (.int k b)=some (.int k (k.wrap ((BitVec.ofInt k.bits a ||| BitVec.ofInt k.bits b).toNat:Int))):=by simp[bJ]
theorem GM(k:IntKind)(a b:Int):bJ .xor (.int k a) (.int k b)=some (.int k (k.wrap ((BitVec.ofInt k.bits a ^^^ BitVec.ofInt k.bits b).toNat:Int))):=by simp[bJ]
theorem Gw(k:IntKind)(a b:Int):bJ .andNot (.int k a) (.int k b)=some (.int k (k.wrap ((BitVec.ofInt k.bits a &&& ~~~ BitVec.ofInt k.bits b).toNat:Int))):=by simp[bJ]
theorem GJ(k k':IntKind)(a b:Int):bJ .shl (.int k a) (.int k' b)=if 0≤b then some (.int k (k.wrap (a*2^(min b.toNat k.bits)))) else none:=by simp[bJ]
theorem GK(k k':IntKind)(a b:Int):bJ .shr (.int k a) (.int k' b)=if 0≤b then some (.int k (a.fdiv (2^(min b.toNat k.bits)))) else none:=by simp[bJ]
theorem Gx(k:IntKind)(a b:Int):bJ .eql (.int k a) (.int k b)=some (.bool (a==b)):=by simp[bJ]
theorem GD(k:IntKind)(a b:Int):bJ .neq (.int k a) (.int k b)=some (.bool (a != b)):=by simp[bJ]
theorem GB(k:IntKind)(a b:Int):bJ .lss (.int k a) (.int k b)=some (.bool (decide (a<b))):=by simp[bJ]
theorem GA(k:IntKind)(a b:Int):bJ .leq (.int k a) (.int k b)=some (.bool (decide (a≤b))):=by simp[bJ]
theorem Gz(k:IntKind)(a b:Int):bJ .gtr (.int k a) (.int k b)=some (.bool (decide (b<a))):=by simp[bJ]
theorem Gy(k:IntKind)(a b:Int):bJ .geq (.int k a) (.int k b)=some (.bool (decide (b≤a))):=by simp[bJ]
theorem xw :
  (∀ ts os d v,(ay ts os).put d v=ay ((d,v)::ts) os)∧(∀ ts os d v,(ay ts os).aN (some d) v=ay ((d,v)::ts) os)∧(∀ (A:ab) v,A.aN none v=A) ∧
  (∀ ts os d x,(ay ts os).aP d x=ay ts ((d,x)::os))∧(∀ ts os k,(ay ts os).t k=b8 ts k)∧(∀ ts os k,(ay ts os).o k=aJ os k) ∧
  (∀ j v r k,b8 ((j,v)::r) k=if k=j then v else b8 r k)∧(∀ j v r k,aJ ((j,v)::r) k=if k=j then some v else aJ r k)∧(∀ k,aJ [] k=none) ∧
  (∀ A k,af A (.t k)=A.t k)∧(∀ A x,af A (.c x)=x)∧(∀ d rest A v,cC d rest A v=aq rest (A.aN d v))∧(∀ v k,b7 (some v) k=k v)∧(∀ A,aq [] A=.done A) :=
 ⟨vt,Bn,Wf,si,Wg,We,cg,dT,V5,LZ,LY,VF,GN,F3⟩
theorem BT :
  (∀ d rest A op,aq (⟨d,op,none⟩::rest) A=bn A d op rest)∧(∀ d rest A op t b,aq (⟨d,op,some (t,b)⟩::rest) A=fW (A.t t) b d op rest A) ∧
  (∀ d rest A op,fW (.bool true) true d op rest A=bn A d op rest)∧(∀ d rest A op,fW (.bool false) false d op rest A=bn A d op rest) ∧
  (∀ d rest A op,fW (.bool true) false d op rest A=aq rest (A.aN d .undef))∧(∀ d rest A op,fW (.bool false) true d op rest A=aq rest (A.aN d .undef))∧(∀ d rest A op b,fW .undef b d op rest A=aq rest (A.aN d .undef)) ∧
  (∀ d rest A x,bn A d (.mv x) rest=aq rest (A.aN d (af A x)))∧(∀ d rest A c a b,bn A d (.pick c a b) rest=qi A d a b rest (af A c)) ∧
  (∀ A d a b rest,qi A d a b rest (.bool true)=aq rest (A.aN d (af A a)))∧(∀ A d a b rest,qi A d a b rest (.bool false)=aq rest (A.aN d (af A b))) ∧
  (∀ d rest A op x y,bn A d (.bin op x y) rest=b7 (bJ op (af A x) (af A y)) (cC d rest A)) ∧
  (∀ d rest A ty neg x y,bn A d (.eqv ty neg x y) rest=b7 ((bT ty (af A x) (af A y)).map fun b=>.bool (if neg then !b else b)) (cC d rest A)) ∧
  (∀ d rest A op x,bn A d (.un op x) rest=b7 (qH op (af A x)) (cC d rest A))∧(∀ b,qH .not (.bool b)=some (.bool !b))∧(∀ k n,qH .neg (.int k n)=some (.int k (k.wrap (0-n))))∧(∀ k n,qH .xor (.int k n)=some (.int k (nM k n))) ∧
  (∀ d rest A k x,bn A d (.conv k x) rest=b7 (um k (af A x)) (cC d rest A))∧(∀ k k' n,um k (.int k' n)=some (.int k (k.wrap n))) ∧
  (∀ d rest A s x,bn A d (.ld s x) rest=b7 (fB s (ft A (af A x))) (cC d rest A))∧(∀ d rest A f off x,bn A d (.fa f off x) rest=b7 (lM A f off (af A x)) (cC d rest A)) ∧
  (∀ d rest A f off s x,bn A d (.fl f off s x) rest=b7 (rG f off s (af A x).db) (cC d rest A))∧(∀ d rest A n esz x i,bn A d (.ia n esz x i) rest=b7 (pK A n esz (af A x) (af A i)) (cC d rest A)) ∧
  (∀ d rest A esz x i,bn A d (.is esz x i) rest=b7 (pO A esz (af A x) (af A i)) (cC d rest A))∧(∀ d rest A n esz s x i,bn A d (.ix n esz s x i) rest=b7 (pR n esz s (af A x) (af A i)) (cC d rest A)) ∧
  (∀ d rest A x,bn A d (.len x) rest=b7 (jM A (af A x)) (cC d rest A))∧(∀ d rest A n esz x,bn A d (.va n esz x) rest=b7 (nu A n esz (af A x)) (cC d rest A)) ∧
  (∀ d rest A zs ps,bn A d (.bld zs ps) rest=b7 ((fp zs (ps.map fun p=>(p.1,af A p.2))).map .agg) (cC d rest A))∧(∀ d rest A x i,bn A d (.ext x i) rest=b7 (uH i (af A x)) (cC d rest A))∧(∀ i fs,uH i (.tuple fs)=fs[i]?) ∧
  (∀ d rest A f caps,bn A d (.mk f caps) rest=b7 (if ((caps.map (af A)).all fun y=>y.cn)=true then some (.func f (caps.map (af A))) else none) (cC d rest A)) ∧
  (∀ rest A d z,bn A (some d) (.alloc z) rest=tO A d z rest (A.o d))∧(∀ A d z rest,tO A d z rest none=aq rest ((A.aP d (.box z)).put d (.ptr d []))) ∧
  (∀ rest A d x,bn A (some d) (.box x) rest=rf A d (af A x) rest (A.o d))∧(∀ A d z rest,rf A d z rest none=rh A d z rest z.cn)∧(∀ A d z rest,rh A d z rest true=aq rest ((A.aP d (.box z)).put d (.ptr d []))) ∧
  (∀ rest A s x v,bn A none (.aR s x v) rest=tg A s (af A v) rest (af A x))∧(∀ A s v rest n p,tg A s v rest (.ptr n p)=th A s n p v rest (A.o n))∧(∀ A s n p v rest b,th A s n p v rest (some (.box b))=ev A s n p b v rest (b.at p)) ∧
  (∀ d rest A f args,bn A d (.call f args) rest=.call f (args.map (af A)) (bI true A (args.map (af A))) (bI false A (args.map (af A))) d rest A) ∧
  (∀ d rest A x args,bn A d (.eV x args) rest=pq A d (args.map (af A)) rest (af A x))∧(∀ A d args rest f caps,pq A d args rest (.func f caps)=if f<1000000 then .call f (args++caps) (bI true A (args++caps)) (bI false A (args++caps)) d rest A else .call (ka f) (caps++args) (bI true A (caps++args)) (bI false A (caps++args)) d rest A) :=
 ⟨FO,FP,Uy,Uv,Ux,Uw,Uz,WV,WZ,fun _ _ _ _ _=>rfl,fun _ _ _ _ _=>rfl,Wu,WE,W9,fun _=>rfl,fun _ _=>rfl,fun _ _=>rfl,WC,fun _ _ _=>rfl,WM,WH,WI,WJ,WK,WL,WN,Xa,Wv,WG,fun _ _=>rfl,WR,
  Wr,fun _ _ _ _=>rfl,Ww,fun _ _ _ _=>rfl,fun _ _ _ _=>rfl,W8,fun _ _ _ _ _ _=>rfl,fun _ _ _ _ _ _ _=>rfl,Wy,Wz,fun A d args rest f caps=>by
   simp only[pq];split
   ·rename_i h;rw[uL h,uK h]
   ·rename_i h;simp only[gE,if_neg h]⟩
theorem fq{A:ab}{s:Option Nat}{n:Nat}{p:List Nat}{b v old:I}{rest:List av}(h1:v.cn=true)(h2:bV s v=true)(h3:v.aK=old.aK):ev A s n p b v rest (some old)=aq rest (A.aP n (.box (b.du p v))):=by
 simp only[ev];rw[if_pos ⟨h1,h2,h3⟩]
theorem EE :
  (∀ A x,ft A (.ref x)=some x)∧(∀ A n p,ft A (.ptr n p)=dA p (A.o n))∧(∀ p c,dA p (some (.box c))=c.at p)∧(∀ c:I,c.at []=some c)∧(∀ (c:I) i p,c.at (i::p)=jB i p c.db) ∧
  (∀ i p fs,jB i p (some fs)=mu p fs[i]?)∧(∀ p f,mu p (some f)=f.at p)∧(∀ c v:I,c.du [] v=v)∧(∀ (c:I) i p v,c.du (i::p) v=nh c i p v c.db)∧(∀ c i p v fs,nh c i p v (some fs)=oM fs i p v fs[i]?) ∧
  (∀ fs i p v f,oM fs i p v (some f)=.agg (fs.set i (f.du p v)))∧(∀ fs,(I.agg fs).db=some fs)∧(∀ x:I,eg (some x)=x.db) ∧
  (∀ s x,fB s (some x)=if bV s x=true then some x else none) ∧
  (∀ A f off c,lM A f off (.ref c)=rD f off c.db)∧(∀ A f off n p,lM A f off (.ptr n p)=pD n p f off (eg (dA p (A.o n))))∧(∀ f off fs,rD f off (some fs)=pC fs f off fs[f]?)∧(∀ fs f off v,pC fs f off (some v)=fL fs f off (.ref v)) ∧
  (∀ n p f off fs,pD n p f off (some fs)=fL fs f off (.ptr n (p++[f])))∧(∀ A n esz x kk k,pK A n esz x (.int kk k)=jK A n esz k x)∧(∀ A n esz k c,jK A n esz k (.ref c)=gV k n (oa n esz k c.db)) ∧
  (∀ A n esz k m p,jK A n esz k (.ptr m p)=gV k n (n9 n esz m p k (eg (dA p (A.o m)))))∧(∀ n esz k fs,oa n esz k (some fs)=iv n esz fs ((fs[k.toNat]?).map .ref))∧(∀ n esz m p k fs,n9 n esz m p k (some fs)=iv n esz fs (some (.ptr m (p++[k.toNat])))) ∧
  (∀ A esz x kk k,pO A esz x (.int kk k)=jk A esz k x)∧(∀ n esz s x kk k,pR n esz s x (.int kk k)=mD n esz s k x.db)∧(∀ n esz s k fs,mD n esz s k (some fs)=gV k n (iv n esz fs (fB s fs[k.toNat]?))) ∧
  (∀ A n esz m p,nu A n esz (.ptr m p)=qJ n esz m p (eg (dA p (A.o m))))∧(∀ n esz m p fs,qJ n esz m p (some fs)=qI n esz fs (.view m p esz 0 n)) ∧
  (∀ A sz es,jM A (.slice sz es)=some (.int .i64 es.length))∧(∀ A n,jM A (.nils n)=some (.int .i64 0))∧(∀ A n,jM A (.c0 n)=some (.int .i64 0)) :=
 ⟨fun _ _=>rfl,fun _ _ _=>rfl,fun _ _=>rfl,nG,Gk,fun _ _ _=>rfl,fun _ _=>rfl,fo,ta,fun _ _ _ _ _=>rfl,fun _ _ _ _ _=>rfl,fun _=>rfl,fun _=>rfl,fun _ _=>rfl,fun _ _ _ _=>rfl,fun _ _ _ _ _=>rfl,fun _ _ _=>rfl,fun _ _ _ _=>rfl,
  fun _ _ _ _ _=>rfl,fun _ _ _ _ _ _=>rfl,fun _ _ _ _ _=>rfl,fun _ _ _ _ _ _=>rfl,fun _ _ _ _=>rfl,fun _ _ _ _ _ _=>rfl,fun _ _ _ _ _=>rfl,fun _ _ _ _ _ _=>rfl,fun _ _ _ _ _=>rfl,fun _ _ _ _ _=>rfl,fun _ _ _ _ _=>rfl,fun _ _ _=>rfl,fun _ _=>rfl,fun _ _=>rfl⟩
theorem zZ :
  (∀ A n p,ba true A (.ptr n p)=nU true A (dA p (A.o n)))∧(∀ A x,nU true A (some x)=if x.bu=true then some (.ref x) else (fV A 9 x).map .ref)∧(∀ A n p sz lo k,ba true A (.view n p sz lo k)=kR sz lo k (eg (dA p (A.o n)))) ∧
  (∀ A n p,ba false A (.ptr n p)=none)∧(∀ A n p sz lo k,ba false A (.view n p sz lo k)=none)∧(∀ x,kO none x=none)∧(∀ x,kO x none=none) ∧
  (∀ aG A n k,ba aG A (.own n k)=kb k (A.o n))∧(∀ aG A fs,ba aG A (.agg fs)=(bI aG A fs).map .agg)∧(∀ aG A f fs,ba aG A (.func f fs)=if f<1000000 then (bI aG A fs).map (.func f) else some .any)∧(∀ aG A k n,ba aG A (.int k n)=some (.int k n))∧(∀ aG A b,ba aG A (.bool b)=some (.bool b)) ∧
  (∀ aG A s,ba aG A (.ah s)=some (.ah s))∧(∀ aG A n,ba aG A (.nils n)=some (.slice n []))∧(∀ aG A n es,ba aG A (.slice n es)=if I.b9 es=true then some (.slice n es) else none)∧(∀ aG A x,ba aG A (.ref x)=if x.bu=true then some (.ref x) else none) ∧
  (∀ aG A,bI aG A []=some [])∧(∀ aG A x xs,bI aG A (x::xs)=kO (ba aG A x) (bI aG A xs))∧(∀ x xs,kO (some x) (some xs)=some (x::xs)) ∧
  (∀ fs,(I.agg fs).bu=I.b9 fs)∧(∀ n fs,(I.slice n fs).bu=I.b9 fs)∧(∀ x,(I.ref x).bu=x.bu)∧(∀ k n,(I.int k n).bu=true)∧(∀ n,(I.bool n).bu=true)∧(∀ n,(I.ah n).bu=true)∧(∀ f fs,(I.func f fs).bu=I.b9 fs) ∧
  I.b9 []=true∧(∀ x xs,I.b9 (x::xs)=(x.bu&&I.b9 xs)) ∧
  (∀ rs r A,jV rs r .ret A=mX r (er A rs))∧(∀ rs r A,jV rs r .normal A=mX r (er A rs))∧(∀ r xs,mX r (some xs)=(jS xs=r))∧(∀ A,er A []=some [])∧(∀ A t rs,er A (.tmp t::rs)=kO (ba true A (A.t t)) (er A rs)) ∧
  (∀ A a s rs,er A (.cell a s::rs)=kO (qw s A (ft A (A.t a))) (er A rs))∧(∀ s A x,qw s A (some x)=if bV s x=true then ba true A x else none)∧(∀ x,jS [x]=x)∧(∀ x y xs,jS (x::y::xs)=.tuple (x::y::xs)) :=
 ⟨uQ,fun _ _=>rfl,uR,fun _ _ _=>rfl,fun _ _ _ _ _ _=>rfl,fun _=>rfl,fun x=>by cases x <;>rfl,Mi,Mc,Me,Mf,Md,Ml,Mh,Mk,Mj,Mn,Mm,fun _ _=>rfl,Jr,Jw,Jv,Ju,Js,Jx,Jt,Jz,Jy,
  Yo,Yn,fun _ _=>rfl,Yf,Yg,Ye,fun _ _ _=>rfl,fun _=>rfl,fun _ _ _=>rfl⟩
theorem xN :
  (∀ k a b,bJ .add (.int k a) (.int k b)=some (.int k (k.wrap (a+b))))∧(∀ k a b,bJ .sub (.int k a) (.int k b)=some (.int k (k.wrap (a-b))))∧(∀ k a b,bJ .mul (.int k a) (.int k b)=some (.int k (k.wrap (a*b)))) ∧
  (∀ k a b,bJ .quo (.int k a) (.int k b)=if b=0 then none else some (.int k (k.wrap (a.tdiv b))))∧(∀ k a b,bJ .rem (.int k a) (.int k b)=if b=0 then none else some (.int k (a.tmod b))) ∧
  (∀ k a b,bJ .and (.int k a) (.int k b)=some (.int k (k.wrap ((BitVec.ofInt k.bits a &&& BitVec.ofInt k.bits b).toNat:Int))))∧(∀ k a b,bJ .or (.int k a) (.int k b)=some (.int k (k.wrap ((BitVec.ofInt k.bits a ||| BitVec.ofInt k.bits b).toNat:Int)))) ∧
  (∀ k a b,bJ .xor (.int k a) (.int k b)=some (.int k (k.wrap ((BitVec.ofInt k.bits a ^^^ BitVec.ofInt k.bits b).toNat:Int))))∧(∀ k a b,bJ .andNot (.int k a) (.int k b)=some (.int k (k.wrap ((BitVec.ofInt k.bits a &&& ~~~ BitVec.ofInt k.bits b).toNat:Int)))) ∧
  (∀ k k' a b,bJ .shl (.int k a) (.int k' b)=if 0≤b then some (.int k (k.wrap (a*2^(min b.toNat k.bits)))) else none)∧(∀ k k' a b,bJ .shr (.int k a) (.int k' b)=if 0≤b then some (.int k (a.fdiv (2^(min b.toNat k.bits)))) else none) ∧
  (∀ k a b,bJ .eql (.int k a) (.int k b)=some (.bool (a==b)))∧(∀ k a b,bJ .neq (.int k a) (.int k b)=some (.bool (a != b)))∧(∀ k a b,bJ .lss (.int k a) (.int k b)=some (.bool (decide (a<b))))∧(∀ k a b,bJ .leq (.int k a) (.int k b)=some (.bool (decide (a≤b)))) ∧
  (∀ k a b,bJ .gtr (.int k a) (.int k b)=some (.bool (decide (b<a))))∧(∀ k a b,bJ .geq (.int k a) (.int k b)=some (.bool (decide (b≤a)))) :=
 ⟨Gu,GL,GC,GH,GI,Gv,GG,GM,Gw,GJ,GK,Gx,GD,GB,GA,Gz,Gy⟩
end Go.Abs
namespace Go.Abs
open Go Go.RowKit
open Enc (enc)
section
variable {α:Type} [Enc α]
theorem VW(A:ab)(l:List α):jM A (enc l)=some (.int .i64 l.length):=by simp[gT,jM]
theorem Vr{A:ab}(esz:Nat){k:Int}{l:List α}(h:0≤k∧k.toNat<l.length)(hs:Enc.sz α=esz):jk A esz k (enc l)=some (.ref (enc l[k.toNat])):=by
 simp only[gT,jk,hs,Z2,true_and];rw[if_pos ⟨h.1,by omega⟩];simp[h.2]
theorem fJ{A:ab}(esz:Nat){k:Nat}{l:List α}(h:k<l.length)(hs:Enc.sz α=esz):jk A esz k (enc l)=some (.ref (enc l[k])):=by
 have:=Vr (A:=A) esz (k:=(k:Int)) (l:=l) ⟨by omega,by simpa using h⟩ hs;simpa using this
theorem dW.lt{α:Type}{n:Nat}(x:dW n α){k:Nat}(h:k<n):k<x.l.length:=by rw[x.h];exact h
theorem Zj{n:Nat}(esz:Nat){k:Int}{x:dW n α}(h:0≤k∧k.toNat<n)(hs:Enc.sz α=esz):gV k n (oa n esz k (some (x.l.map enc)))=some (.ref (enc (x.l[k.toNat]'(x.lt h.2)))):=by
 have hl:=x.lt h.2;simp only[gV,oa,iv,uF n esz x.l x.h hs,if_true];rw[if_pos ⟨h.1,by omega⟩];simp[hl]
theorem oc{n:Nat}(esz:Nat){k:Int}(x:dW n α){y:Option I}(h:0≤k∧k<n)(hs:Enc.sz α=esz):gV k n (iv n esz (x.l.map enc) y)=y:=by
 simp only[gV,iv,uF n esz x.l x.h hs,if_true];rw[if_pos h]
theorem UB{n k:Nat}(x:dW n α)(h:k<n):(x.l.map enc)[k]?=some (enc (x.l[k]'(x.lt h))):=by
 simp[x.lt h]
theorem VB{n:Nat}(esz:Nat){s:Option Nat}{k:Int}{x:dW n α}(h:0≤k∧k.toNat<n)(hs:Enc.sz α=esz):mD n esz s k (some (x.l.map enc))=fB s (some (enc (x.l[k.toNat]'(x.lt h.2)))):=by
 have hl:=x.lt h.2;simp only[mD,gV,iv,uF n esz x.l x.h hs,if_true];rw[if_pos ⟨h.1,by omega⟩];simp[hl]
theorem Gj{n k:Nat}{p:List Nat}{x:dW n α}(h:k<n):jB k p (some (x.l.map enc))=(enc (x.l[k]'(x.lt h))).at p:=by
 have hl:=x.lt h;simp[jB,mu,hl]
theorem Xl(k:IntKind)(n:Int):fB none (some (.int k n))=some (.int k n):=by simp[fB,lW,bV,I.isAgg]
theorem Xj(b:Bool):fB none (some (.bool b))=some (.bool b):=by simp[fB,lW,bV,I.isAgg]
theorem Xm(z:Nat)(es:List I):fB none (some (.slice z es))=some (.slice z es):=by simp[fB,lW,bV,I.isAgg]
theorem Xk(f:FuncId)(es:List I):fB none (some (.func f es))=some (.func f es):=by simp[fB,lW,bV,I.isAgg]
end
mutual
/-- What every value in memory keeps to: whole numbers within their kind,slices no longer than a slice can be. -/
def I.wf:I→Prop
 | .agg fs=>I.fE fs
 | .int k n=>k.min≤n∧n≤k.max
 | .ah s=>s.size≤maxLen
 | .slice _ es=>es.length≤maxLen∧I.fE es
 | .ref c=>c.wf
 | .func _ caps=>I.fE caps
 | .iface _ v=>v.wf
 |_=>True
def I.fE:List I→Prop
 | []=>True
 |x::xs=>x.wf∧I.fE xs
end
mutual
theorem sP{w:World}{D:aI}{E:aO} : ∀ (x:I) (cs:List Value),ae w D E x cs→x.wf
 | .agg fs,cs,h=>by simp only[ae,I.wf] at *;exact vX fs cs h
 | .int k n,cs,h=>by simp only[ae,I.wf] at *;exact h.2
 | .ah s,cs,h=>by simp only[ae,I.wf] at *;exact h.2
 | .slice sz es,cs,h=>by
  simp only[ae,I.wf] at *;obtain ⟨a,cap,_,h1,h2,h3,_⟩:=h;refine ⟨by omega,?_⟩;rcases h3 with rfl | ⟨b,off,cs',_,_,h4⟩
  ·simp[I.fE]
  ·exact vX es cs' h4
 | .ref c,cs,h=>by simp only[ae,I.wf] at *;obtain ⟨b,off,cs',_,_,h⟩:=h;exact sP c cs' h
 | .func f caps,cs,h=>by simp only[ae,I.wf] at *;obtain ⟨vs,_,h⟩:=h;exact oK caps vs h
 | .iface t v,cs,h=>by simp only[ae,I.wf] at *;obtain ⟨u,cs',_,_,h⟩:=h;exact sP v cs' h
 | .bool _,_,_ | .nilp,_,_ | .dc,_,_ | .cQ,_,_ | .any,_,_ | .raw _,_,_ | .nils _,_,_ | .c0 _,_,_ | .ptr _ _,_,_ | .own _ _,_,_ | .view _ _ _ _ _,_,_ | .mref _,_,_ | .cU _,_,_ | .cZ _ _,_,_ | .undef,_,_ | .cX,_,_ | .tuple _,_,_=>by simp[I.wf]
theorem vX{w:World}{D:aI}{E:aO} : ∀ (xs:List I) (cs:List Value),aB w D E xs cs→I.fE xs
 | [],_,_=>by simp[I.fE]
 |x::xs,cs,h=>by
  simp only[aB,I.fE] at *;obtain ⟨c1,c2,_,h1,h2⟩:=h;exact ⟨sP x c1 h1,vX xs c2 h2⟩
theorem oK{w:World}{D:aI}{E:aO} : ∀ (xs:List I) (vs:List Value),al w D E xs vs→I.fE xs
 | [],_,_=>by simp[I.fE]
 |x::xs,vs,h=>by
  simp only[al,I.fE] at *;obtain ⟨v,rest,cs,_,_,h1,h2⟩:=h;exact ⟨sP x cs h1,oK xs rest h2⟩
end
theorem Y7{α:Type}[Enc α](l:List α):I.fE (l.map enc)↔∀ x∈l,(enc x:I).wf:=by
 induction l with
 |nil=>simp[I.fE]
 |cons x l ih=>simp[I.fE,ih]
theorem Y6{α:Type}[Enc α](l:List α):(enc l:I).wf↔l.length≤maxLen∧∀ x∈l,(enc x:I).wf:=by
 simp only[gT,I.wf,Z2,Y7]
theorem Y5(n:Int):(enc n:I).wf↔-9223372036854775808≤n∧n≤9223372036854775807:=by
 change IntKind.i64.min≤n∧n≤IntKind.i64.max↔_
 simp[IntKind.min,IntKind.max,IntKind.bits,IntKind.signed]
theorem aM.wf{P:Program}{f:FuncId}{args:List I}{r:I}(hc:dO P f=true)(h:I.fE args→aM P f args r):aM P f args r :=
 ⟨hc,fun w D vs hl h1 h2=>(h (oK _ _ h2)).2 w D vs hl h1 h2⟩
theorem aM.bL{P:Program}{f:FuncId}{fn:Func}{x:bj}{rs:List bq}{args:List I}{r:I}(hf:P.funcs[f]?=some fn)(hcall:dO P f=true)(hc:(fn.body.bind (dN P fn.ntmps))=some x)
  (hrs:fR P fn.results.toList=some rs) (hn:args.length≤fn.ntmps) (h:I.fE args→∀ (w:World) (D:aI) (E:aO),U ⟨P,w,D,fn.ntmps,bS E,E,fy,none,none⟩ x (jV rs r) (ay (bB 0 args) [])):aM P f args r :=
 aM.wf hcall fun hw=>aM.mk hf hcall hc hrs hn (h hw)
theorem iW{α:Type}[Enc α] :
  (∀ A (l:List α),jM A (enc l)=some (.int .i64 l.length))∧(∀ n (x:dW n α),(enc x).db=some (x.l.map enc)) :=
 ⟨VW,fun _ _=>rfl⟩
theorem jQ:(∀ k n,fB none (some (.int k n))=some (.int k n))∧(∀ b,fB none (some (.bool b))=some (.bool b))∧(∀ z es,fB none (some (.slice z es))=some (.slice z es))∧(∀ f es,fB none (some (.func f es))=some (.func f es)) :=
 ⟨Xl,Xj,Xm,Xk⟩
end Go.Abs
namespace Go.Abs
open Go Go.RowKit
open Enc (enc)
def ot(neg:Bool):I→Option I
 | .nils _=>some (.bool (!neg))
 | .slice _ es=>if es.isEmpty then none else some (.bool neg)
 | .view _ _ _ _ _=>some (.bool neg)
 |_=>none
def lQ:I→Option I
 | .ah s=>some (.int .i64 s.size)
 |_=>none
open Classical in
noncomputable def lz(n:Nat)(p:List Nat)(sz l0 k esz:Nat)(lo hi mx:Option I):Option (List I)→Option I
 |some fs=>if sz=esz then iG n p sz l0 k fs.length lo hi mx else none
 |none=>none
noncomputable def jw(A:ab)(esz:Nat)(lo hi mx:Option I):I→Option I
 | .slice sz es=>if sz=esz then iF sz es lo hi mx else none
 | .nils sz=>if sz=esz then iF sz [] lo hi mx else none
 | .c0 sz=>if sz=esz then iF sz [] lo hi mx else none
 | .view n p sz l0 k=>lz n p sz l0 k esz lo hi mx (eg (dA p (A.o n)))
 |_=>none
open Classical in
noncomputable def gD(esz:Nat):Option (List I)→Option I
 |some es=>if (es.all fun e=>e.size==esz)=true∧I.b9 es=true then some (.slice esz es) else none
 |none=>none
open Classical in
noncomputable def pf(A:ab)(d:Option Nat)(e esz bytes n l T sz':Nat)(es:List I)(rest:List av):I→bW
 | .slice sz ys=>if vI e esz bytes l sz ys T sz' es then aq rest ((A.aP n (.bF e esz (es++ys))).aN d (.own n (es.length+ys.length))) else .fail
 |_=>.fail
open Classical in
noncomputable def tP(A:ab)(d:Option Nat)(e esz bytes:Nat)(z:I)(n l T:Nat)(xs:List Int)(rest:List av):I→bW
 | .slice _ ys=>if vJ e esz bytes l ys T xs z then aq rest ((A.aP n (.dK e (xs++pM ys))).aN d (.own n (xs.length+ys.length))) else .fail
 |_=>.fail
noncomputable def pd(A:ab)(d:Option Nat)(e esz bytes:Nat)(z:I)(n l:Nat)(x:I)(rest:List av):Option ai→bW
 |some (.bF T sz' es)=>pf A d e esz bytes n l T sz' es rest x
 |some (.dK T xs)=>tP A d e esz bytes z n l T xs rest x
 |_=>.fail
noncomputable def eM(A:ab)(d:Option Nat)(e esz bytes:Nat)(z x:I)(rest:List av):I→bW
 | .own n l=>pd A d e esz bytes z n l x rest (A.o n)
 |s=>eb A d esz bytes z s (cR A esz s) (cR A esz x) (aq rest)
section
variable (d:Option Nat) (rest:List av) (A:ab)
noncomputable def ou(neg:Bool)(x:I):Bool→bW
 |true=>.any (fun m=>m<2) (fun m=>aq rest (A.aN d (.bool (m==0))))
 |false=>b7 (ot neg x) (cC d rest A)
theorem WX(neg:Bool)(x:aw):bn A d (.nilS neg x) rest=ou d rest A neg (af A x) (iV (af A x)):=by
 simp only[bn,aV,aU];cases iV (af A x)
 ·simp only[Z8,if_false,ou,ot];cases af A x <;>rfl
 ·rfl
theorem WO(x:aw):bn A d (.lenT x) rest=b7 (lQ (af A x)) (cC d rest A):=by
 simp only[bn,aV,aU];cases af A x <;>rfl
theorem W7(esz:Nat)(x:aw)(lo hi mx:Option aw):bn A d (.sl esz x lo hi mx) rest=b7 (jw A esz (lo.map (af A)) (hi.map (af A)) (mx.map (af A)) (af A x)) (cC d rest A):=by
 simp only[bn,aV,aU];cases af A x <;>try rfl
 rename_i n p sz l0 k;simp only[jw,jG,ft];cases dA p (A.o n) with
 |none=>rfl
 |some c=>cases c <;>simp only[eg,I.db,lz] <;>(first | rfl | (split <;>rfl))
theorem Wx(T esz:Nat)(ps:List aw):bn A d (.bs T esz ps) rest=b7 (gD esz (bI false A (ps.map (af A)))) (cC d rest A):=by
 simp only[bn,aV,aU];cases bI false A (ps.map (af A)) <;>simp only[gD] <;>rfl
theorem Ws(e esz bytes:Nat)(z:I)(s x:aw):bn A d (.dL e esz bytes z s x) rest=eM A d e esz bytes z (af A x) rest (af A s):=by
 simp only[bn,aV];generalize af A s=s';generalize af A x=x';cases s' <;>simp only[eM]
 rename_i n l;cases x' <;>simp only <;>generalize A.o n=z <;>(cases z with
  |none=>rfl
  |some y=>cases y <;>simp only[pd,pf,tP])
end
theorem BU :
  (∀ d rest A neg x,bn A d (.nilS neg x) rest=ou d rest A neg (af A x) (iV (af A x)))∧(∀ d rest A neg x,ou d rest A neg x false=b7 (ot neg x) (cC d rest A))∧(∀ z,iV (.nils z)=false)∧(∀ n p sz lo k,iV (.view n p sz lo k)=false)∧(∀ d rest A x,bn A d (.lenT x) rest=b7 (lQ (af A x)) (cC d rest A)) ∧
  (∀ d rest A esz x lo hi mx,bn A d (.sl esz x lo hi mx) rest=b7 (jw A esz (lo.map (af A)) (hi.map (af A)) (mx.map (af A)) (af A x)) (cC d rest A)) ∧
  (∀ d rest A T esz ps,bn A d (.bs T esz ps) rest=b7 (gD esz (bI false A (ps.map (af A)))) (cC d rest A))∧(∀ d rest A e esz bytes z s x,bn A d (.dL e esz bytes z s x) rest=eM A d e esz bytes z (af A x) rest (af A s)) ∧
  (∀ A d e esz bytes z x rest n l,eM A d e esz bytes z x rest (.own n l)=pd A d e esz bytes z n l x rest (A.o n))∧(∀ A d e esz bytes z n l x rest T sz es,pd A d e esz bytes z n l x rest (some (.bF T sz es))=pf A d e esz bytes n l T sz es rest x)∧(∀ A d e esz bytes z n l x rest T xs,pd A d e esz bytes z n l x rest (some (.dK T xs))=tP A d e esz bytes z n l T xs rest x) ∧
  (∀ neg z,ot neg (.nils z)=some (.bool (!neg))) :=
 ⟨WX,fun _ _ _ _ _=>rfl,fun _=>rfl,fun _ _ _ _ _=>rfl,WO,W7,Wx,Ws,fun _ _ _ _ _ _ _ _ _ _=>rfl,fun _ _ _ _ _ _ _ _ _ _ _ _ _=>rfl,fun _ _ _ _ _ _ _ _ _ _ _ _=>rfl,fun _ _=>rfl⟩
theorem Xq(p:Nat→Bool)(xs ys:List I):I.cH p (xs++ys)=(I.cH p xs&&I.cH p ys):=by
 induction xs with
 |nil=>simp[I.cH]
 |cons x xs ih=>simp[I.cH,ih,Bool.and_assoc]
section
variable {α:Type} [Enc α]
theorem xC{A:ab}{d:Option Nat}(e:Nat)(esz bytes n:Nat){l:Nat}{es ys:List α}{rest:List av}(hl:l=es.length)(hs:Enc.sz α=esz)(hy:ys≠[])(h1:es.length+ys.length≤maxLen)(h2:(es.length+ys.length)*bytes≤140737488355328) :
  pf A d e esz bytes n l e esz (es.map enc) rest (enc ys)=aq rest ((A.aP n (.bF e esz ((es++ys).map enc))).aN d (.own n (es++ys).length)):=by
 simp only[gT,pf];rw[if_pos ⟨by simpa using hl,hs,rfl,rfl,by simpa using hy,by simpa using h1,by simpa using h2⟩];simp
theorem xQ(esz:Nat){ys:List α}(hs:Enc.sz α=esz):gD esz (some (ys.map enc))=some (enc ys):=by
 have h1:((ys.map enc).all fun e:I=>e.size==esz)=true:=by
  simp only[zy5,zy1];rintro x ⟨y,_,rfl⟩;simp[Enc.size,hs]
 simp only[gD,gT];rw[if_pos ⟨h1,pt ys⟩,hs]
theorem po(esz:Nat)(y:α)(hs:Enc.sz α=esz):gD esz (some [enc y])=some (enc [y]):=xQ (ys:=[y]) esz hs
theorem pE(sz:Nat){T k:Nat}{es:List α}(hk:k=es.length)(hs:Enc.sz α=sz):kb k (some (.bF T sz (es.map enc)))=some (enc es):=by
 simp only[kb,Z2];rw[if_pos ⟨hk,pt es⟩,gT,hs]
theorem mM(p:Nat→Bool)(l:List α):I.cH p (l.map enc)=true:=by
 induction l with
 |nil=>rfl
 |cons x l ih=>simp only[Z4,I.cH,bK,ih,Bool.and_self]
end
theorem AQ :
  (∀ n:Int,gD 1 (some [.int .i64 n])=some (enc [n]))∧(∀ (T:Nat) (es:List Int),kb es.length (some (.bF T 1 (es.map enc)))=some (enc es)) :=
 ⟨fun n=>po 1 n rfl,fun _ _=>pE 1 rfl rfl⟩
theorem bw.FT{A:ab}{d n T sz z:Nat}(hd:A.t d=.nils z)(hn:A.o n=none)(hlt:n<1000000):bw A ((A.aP n (.bF T sz [])).put d (.own n 0)):=by
 rintro c a w ⟨D,E,h⟩;have ar:E n=none:=by have:=h.bx n;rw[hn] at this;exact this
 have hl:dj w D E w D (fun m=>if m=n then some (.rw none 0) else E m):=by
  have ez:∀ {m:Nat} {e:bt},E m=some e→(if m=n then some (.rw none 0) else E m)=some e:=fun {m e} he=>by
   have:m≠n:=fun e=>by rw[e,ar] at he;cases he
   rw[if_neg this];exact he
  refine ⟨fun _ _ h=>h,fun _ _ _ _ h=>h,fun m b aK he=>ez he,fun m aC l he =>?_,fun m b he=>ez he,fun m b he=>ez he,fun _ _ _ _ h=>h⟩
  ·have:m≠n:=fun e=>by rw[e,ar] at he;cases he
   exact ⟨aC,l,by simp only[if_neg this];exact he,Z3 _,fun _=>rfl⟩
 refine ⟨D,fun m=>if m=n then some (.rw none 0) else E m,h.sz,h.ee,fun t =>?_,h.di,h.cJ,h.cM,fun m =>?_,fun m m' e e' b h1 h2 h3 h4 =>?_,fun m e hm =>?_,h.eE,h.cu,h.eH,h.eY⟩
 ·simp only[ab.put,ab.aP];by_cases ht:t=d
  ·subst ht;simp only[if_true];have hv:=h.dz t;rw[hd] at hv;obtain ⟨cs,q1,q2⟩:=hv;simp only[ae] at q2;subst q2;refine ⟨[.slice none 0 0],by simpa[aX,I.isAgg] using q1,?_⟩;simp only[ae,if_true];exact ⟨none,0,rfl,Z3 _,⟨_,_,_,rfl⟩,fun _=>trivial⟩
  ·simp only[if_neg ht];exact aQ.later hl (h.dz t)
 ·simp only[ab.put,ab.aP];by_cases hm:m=n
  ·subst hm;simp only[if_true,c6];exact ⟨none,by simp,by simp,trivial⟩
  ·simp only[if_neg hm];exact (h.bx m).later hl (by simp only[if_neg hm]) fun _ _ _ _=>⟨rfl,fun _ ho=>ho⟩
 ·by_cases hm:m=n <;>by_cases hm':m'=n
  ·rw[hm,hm']
  ·simp only[if_pos hm,v6] at h1;subst h1;simp[bt.aC] at h3
  ·simp only[if_pos hm',v6] at h2;subst h2;simp[bt.aC] at h4
  ·simp only[if_neg hm] at h1;simp only[if_neg hm'] at h2;exact h.cv m m' e e' b h1 h2 h3 h4
 ·have hmn:m≠n:=fun e=>by rw[e,h.ji (.inr hlt)] at hm;cases hm
  simp only[if_neg hmn];exact h.dx m e hm
theorem bw.FW{ts:List (Nat×I)}{os:List (Nat×ai)}(d n T sz z:Nat)(hd:b8 ts d=.nils z)(hn:aJ os n=none){B:ab}(h:bw (ay ((d,.own n 0)::ts) ((n,.bF T sz [])::os)) B)(hlt:n<1000000:=by decide):bw (ay ts os) B :=
 ((bw.FT (A:=ay ts os) (T:=T) (sz:=sz) hd hn hlt).trans (by rw[si,vt];exact bw.refl _)).trans h
def dW.g{n:Nat}(x:dW n Int)(k:Nat):Int:=x.l.getD k 0
theorem dW.u3{n k:Nat}(x:dW n Int)(h:k<n):x.l[k]'(x.lt h)=x.g k:=by simp[dW.g,x.lt h]
theorem fQ{n k:Nat}{p:List Nat}(x:dW n Int)(h:k<n):jB k p (some (x.l.map enc))=(I.int .i64 (x.g k)).at p:=by
 rw[Gj h,x.u3 h];rfl
theorem u4{n k:Nat}(x:dW n Int)(h:k<n):(x.l.map (enc (α:=Int)))[k]?=some (I.int .i64 (x.g k)):=by
 rw[UB x h,x.u3 h];rfl
theorem BK:(∀ k n,bV none (.int k n)=true)∧(∀ b,bV none (.bool b)=true)∧(∀ z es,bV none (.slice z es)=true)∧(∀ f es,bV none (.func f es)=true)∧(∀ z,bV none (.nils z)=true)∧(∀ n k,bV none (.own n k)=true) :=
 ⟨fun _ _=>rfl,fun _=>rfl,fun _ _=>rfl,fun _ _=>rfl,fun _=>rfl,fun _ _=>rfl⟩
theorem aZ:(type_of% @xw)∧(type_of% @BT)∧(type_of% @BU)∧(type_of% @AQ)∧(type_of% @BK)∧(type_of% @EE)∧(type_of% @zZ)∧(type_of% @xN)∧(∀ n:Int,(enc n:I)=.int .i64 n)∧(∀ n:Bool,(enc n:I)=.bool n) ∧
  (∀ {α β:Type} (f:α→β) (x:α) (xs:List α),List.map f (x::xs)=f x::List.map f xs)∧(∀ {α β:Type} (f:α→β),List.map f []=[])∧(∀ {α:Type} (xs:List α),[]++xs=xs)∧(∀ n:Nat,(n:Int).toNat=n)∧(∀ {α β:Type} (f:α→β) (x:α),Option.map f (some x)=some (f x)) ∧
  (∀ n:Nat,0≤(n:Int))∧((!true)=false)∧((!false)=true)∧((false=true)=False)∧((true=false)=False) :=
 ⟨@xw,@BT,@BU,@AQ,@BK,@EE,@zZ,@xN,rz,LL,fun _ _ _=>rfl,fun _=>rfl,fun _=>rfl,fun _=>rfl,fun _ _=>rfl,fun n=>Int.natCast_nonneg n,rfl,rfl,by simp,by simp⟩
end Go.Abs
namespace Go.Abs
open Go Go.RowKit
open Enc (enc)
theorem iY.bL{P:Program}{f:FuncId}{fn:Func}{x:bj}{rs:List bq}{Y:Value→List I→List (Nat×ai)→bY→Prop}{args:List I}{os:List (Nat×ai)}{post:bY}(hf:P.funcs[f]?=some fn)(hcall:dO P f=true)(hc:(fn.body.bind (dN P fn.ntmps))=some x)
  (hrs:fR P fn.results.toList=some rs) (hn:args.length≤fn.ntmps) (hn2:fn.ntmps≤1000000) (hos:∀ m,aH os m=true→1000000≤m) (h:I.fE args→∀ (w:World) (D:aI) (E:aO),U ⟨P,w,D,fn.ntmps,bS E,E,Y,none,none⟩ x (mW rs post) (ay (bB 0 args) os)):iY P f Y args os post:=by
 obtain ⟨body,hb,hc'⟩:=zx3.1 hc;refine ⟨hcall,fun w D E vs hy hD ho hv =>?_⟩;exact (iY.sB hf hb hcall hc' hrs hn (fun m hm=>⟨Nat.le_trans hn2 (hos m hm),hos m hm⟩) (fun w D E=>(h (oK _ _ hv) w D E).sub (tj args os))).2 w D E vs hy hD ho hv
theorem eJ.bL{P:Program}{f:FuncId}{fn:Func}{x:bj}{rs:List bq}{args:List I}{os:List (Nat×ai)}{post:bY}(hf:P.funcs[f]?=some fn)(hcall:dO P f=true)(hc:(fn.body.bind (dN P fn.ntmps))=some x)
  (hrs:fR P fn.results.toList=some rs) (hn:args.length≤fn.ntmps) (hn2:fn.ntmps≤1000000) (hos:∀ m,aH os m=true→1000000≤m) (h:I.fE args→∀ (w:World) (D:aI) (E:aO),U ⟨P,w,D,fn.ntmps,bS E,E,fy,none,none⟩ x (mW rs post) (ay (bB 0 args) os)):eJ P f args os post :=
 eJ.Bz (iY.bL hf hcall hc hrs hn hn2 hos h)
theorem u9{A:ab} : ∀ n x,aJ [] n=some x→A.o n=some x∧x.only (aH [])=true∧x.ep=true:=fun n x h=>by simp[aJ] at h
theorem n5{A:ab}{k:Nat}{c:I}(h1:A.o k=some (.box c))(h2:∀ p,c.only p=true):∀ n x,aJ [(k,.box c)] n=some x→A.o n=some x∧x.only (aH [(k,.box c)])=true∧x.ep=true:=fun n x h=>by
 simp only[aJ] at h;split at h
 ·rename_i hn;subst hn;simp only[v6] at h;subst h;exact ⟨h1,h2 _,rfl⟩
 ·cases h
theorem dF.nil{aG:Bool}{ρ:List (Nat×Nat)}{os0:List (Nat×ai)}{r:I}(h1:∀ p,r.only p=true)(h2:aG=true→r.cY=true):dF aG ρ [] os0 r [] :=
 ⟨fun m x h=>by simp[aJ] at h,fun m m' h=>by simp[aH,aJ] at h,fun m h=>by simp[aH,aJ] at h,fun m h=>by simp[aH,aJ] at h,h1 _,h2⟩
theorem gF{k:Nat}{x:ai}{m:Nat} : aH [(k,x)] m=true↔m=k:=by
 simp only[aH,aJ];split <;>simp_all
theorem dF.vC{aG:Bool}{k d:Nat}{os0:List (Nat×ai)}{r c:I}(h1:∀ p,c.only p=true)(h2:aG=true→c.cY=true)(h3:r.only (aH [(k,.box c)])=true)(h4:aG=true→r.cY=true)(h5:aJ os0 d=none)(h6:d<1000000):dF aG [(k,d)] [] os0 r [(k,.box c)]:=by
 refine ⟨fun m x h =>?_,fun m m' h h' _ =>?_,fun m h=>by simp[aH,aJ] at h,fun m h _ =>?_,h3,h4⟩
 ·simp only[aJ] at h;split at h
  ·simp only[v6] at h;subst h;exact ⟨h1 _,rfl,h2⟩
  ·cases h
 ·rw[gF.1 h,gF.1 h']
 ·rw[gF.1 h];simp[bp,h5,h6]
theorem eK.nil{ρ:List (Nat×Nat)}{os0:List (Nat×ai)} : eK ρ [] os0:=⟨fun m x h=>by simp[aJ] at h,fun m m' h=>by simp[aH,aJ] at h⟩
mutual
theorem qo(ρ:Nat→Nat):∀ x:I,x.bu=true→x.aS ρ=x
 | .agg fs,h=>by simp only[I.aS,I.bu] at *;rw[mU ρ fs h]
 | .slice _ es,h=>by simp only[I.aS,I.bu] at *;rw[mU ρ es h]
 | .ref x,h=>by simp only[I.aS,I.bu] at *;rw[qo ρ x h]
 | .func _ caps,h=>by simp only[I.aS,I.bu] at *;rw[mU ρ caps h]
 | .iface _ v,h=>by simp only[I.aS,I.bu] at *;rw[qo ρ v h]
 | .bool _,_ | .int _ _,_ | .ah _,_ | .nilp,_ | .dc,_ | .cQ,_ | .any,_ | .raw _,_ | .nils _,_ | .c0 _,_=>by simp only[I.aS]
 | .cZ ks vs,h=>by simp only[I.aS,I.bu,Z0] at *;rw[mU ρ ks h.1,mU ρ vs h.2]
 | .ptr _ _,h | .own _ _,h | .view _ _ _ _ _,h | .mref _,h | .cU _,h | .undef,h | .cX,h | .tuple _,h=>by simp[I.bu] at h
theorem mU(ρ:Nat→Nat):∀ xs:List I,I.b9 xs=true→I.cW ρ xs=xs
 | [],_=>rfl
 |x::xs,h=>by
  simp only[I.b9,Z0] at h;simp only[I.cW,qo ρ x h.1,mU ρ xs h.2]
end
theorem oF :
  (∀ (k:IntKind) n (ρ:Nat→Nat),(I.int k n).aS ρ=.int k n)∧(∀ (b:Bool) (ρ:Nat→Nat),(I.bool b).aS ρ=.bool b)∧(∀ n p (ρ:Nat→Nat),(I.ptr n p).aS ρ=.ptr (ρ n) p) ∧
  (∀ n p sz lo k (ρ:Nat→Nat),(I.view n p sz lo k).aS ρ=.view (ρ n) p sz lo k)∧(∀ fs (ρ:Nat→Nat),(I.agg fs).aS ρ=.agg (I.cW ρ fs))∧(∀ fs (ρ:Nat→Nat),(I.tuple fs).aS ρ=.tuple (I.cW ρ fs))∧(∀ f fs (ρ:Nat→Nat),(I.func f fs).aS ρ=.func f (I.cW ρ fs)) ∧
  (∀ ρ:Nat→Nat,I.cW ρ []=[])∧(∀ (ρ:Nat→Nat) x xs,I.cW ρ (x::xs)=x.aS ρ::I.cW ρ xs)∧(∀ (ρ:Nat→Nat) (x:I),(ai.box x).aS ρ=.box (x.aS ρ)) ∧
  (∀ (z:Nat) (ρ:Nat→Nat),(I.nils z).aS ρ=.nils z)∧(∀ (z:Nat) (ρ:Nat→Nat),(I.c0 z).aS ρ=.c0 z) ∧
  (∀ n,bp [] n=n)∧(∀ a b r n,bp ((a,b)::r) n=if n=a then b else bp r n)∧(∀ ρ,c7 ρ []=[])∧(∀ ρ k x os,c7 ρ ((k,x)::os)=(bp ρ k,x.aS (bp ρ))::c7 ρ os) :=
 ⟨fun _ _ _=>by simp only[I.aS],fun _ _=>by simp only[I.aS],fun _ _ _=>by simp only[I.aS],fun _ _ _ _ _ _=>by simp only[I.aS],fun _ _=>by simp only[I.aS],fun _ _=>by simp only[I.aS],fun _ _ _=>by simp only[I.aS],
  fun _=>rfl,fun _ _ _=>by simp only[I.cW],fun _ _=>rfl,fun _ _=>by simp only[I.aS],fun _ _=>by simp only[I.aS],fun _=>rfl,fun _ _ _ _=>rfl,fun _=>rfl,fun _ _ _ _=>rfl⟩
section
variable {α:Type} [Enc α]
theorem iP(ρ:Nat→Nat)(x:α):(enc x).aS ρ=enc x:=qo ρ _ (j8 x)
theorem mV(ρ:Nat→Nat)(l:List α):I.cW ρ (l.map enc)=l.map enc:=mU ρ _ (pt l)
theorem ky(A:ab)(esz:Nat)(l:List α)(hs:Enc.sz α=esz):cR A esz (enc l)=some (l.map enc):=by
 simp only[gT,cR,hs,if_true]
theorem tp(l:List α):iV (enc l)=l.isEmpty:=by
 simp only[gT,iV];cases l <;>rfl
theorem Br(neg:Bool)(l:List α)(h:l≠[]):ot neg (enc l)=some (.bool neg):=by
 simp only[gT,ot];cases l with
 |nil=>exact absurd rfl h
 |cons=>rfl
section
variable {P:Program} {Y:Value→List I→List (Nat×ai)→bY→Prop} {K:ab→Prop} {A:ab} {rest:List av} {d:Nat} {e esz bytes:Nat} {q:Nat}
theorem aY.tQ(z:α){l:List α}(hs:Enc.sz α=esz)(hl:l≠[])(hf:A.o d=none)(hb:l.length*bytes≤140737488355328)(hml:l.length≤maxLen)
  (h:∀ m,aY P Y false K (aq rest ((A.aP d (.box (.agg ((l++List.replicate m z).map enc)))).aN (some d) (.view d [] esz 0 l.length)))):aY P Y false K (eM A (some d) e esz bytes (enc z) (enc l) rest (.c0 q)):=by
 have hne:l.map (enc (α:=α))≠[]:=by simpa using hl
 have h1:cR A esz (.c0 q)=some []:=rfl;simp only[eM,h1,ky A esz l hs,eb,if_neg hne,eL,hf,zy6,Z5,Z2,if_pos (y6 hb hml),zy7];refine .any rfl fun m _ =>?_;have:=h m;simp only[zy4,List.map_replicate] at this;exact this
theorem Gc(z:I)(hs:Enc.sz α=esz):eM A (some d) e esz bytes z (enc ([]:List α)) rest (.c0 q)=aq rest (A.aN (some d) (.c0 q)):=by
 have h1:cR A esz (.c0 q)=some []:=rfl;simp only[eM,h1,ky A esz ([]:List α) hs,eb,zz9,if_true]
theorem WB(esz:Nat)(z:I)(x:aw)(rest:List av)(A:ab):bn A none (.je esz z x) rest=nL A esz z (aq rest) (af A x):=rfl
theorem Eb{n:Nat}{p:List Nat}{sz k total i:Nat}(h:i≤total)(h0:0<total):iG n p sz 0 k total none (some (.int .i64 i)) none=some (.view n p sz 0 i):=by
 simp only[iG,gR];rw[if_pos ⟨by omega,by omega,by omega⟩,if_neg (by omega)];simp
theorem mb{n:Nat}{p:List Nat}{sz k total i:Nat}(h:i≤k)(hk:k≤total)(h0:i<total):iG n p sz 0 k total (some (.int .i64 i)) none none=some (.view n p sz i (k-i)):=by
 simp only[iG,gR];rw[if_pos ⟨by omega,by omega,by omega⟩,if_neg (by omega)];simp
theorem Vv{m:Nat}{p:List Nat}{sz lo l j:Nat}{fs:List I}(h:j<l):mC m p sz lo l sz (j:Int) (some fs)=some (.ptr m (p++[lo+j])):=by
 simp only[mC,true_and];rw[if_pos ⟨by omega,by omega⟩];simp
theorem rE{sz k:Nat}{xs:List α}(hs:Enc.sz α=sz):kR sz 0 k (some (xs.map enc))=some (enc (xs.take k)):=by
 have h:((xs.map (enc (α:=α))).drop 0).take k=(xs.take k).map enc:=by rw[List.drop_zero,List.map_take]
 simp only[kR,h];rw[if_pos (pt _),gT,hs]
end
end
theorem mB(A:ab)(esz m:Nat)(p:List Nat)(sz lo l:Nat)(k:Int):jk A esz k (.view m p sz lo l)=mC m p sz lo l esz k (eg (dA p (A.o m))):=rfl
theorem kY(A:ab)(m:Nat)(p:List Nat)(sz lo l:Nat):jM A (.view m p sz lo l)=some (.int .i64 l):=rfl
theorem wA(A:ab)(esz:Nat)(lo hi mx:Option I)(n:Nat)(p:List Nat)(l0 k:Nat):jw A esz lo hi mx (.view n p esz l0 k)=lz n p esz l0 k esz lo hi mx (eg (dA p (A.o n))):=rfl
theorem wB(n:Nat)(p:List Nat)(sz l0 k:Nat)(lo hi mx:Option I)(fs:List I):lz n p sz l0 k sz lo hi mx (some fs)=iG n p sz l0 k fs.length lo hi mx:=by simp[lz]
theorem ij :
  (∀ A esz m p sz lo l k,jk A esz k (.view m p sz lo l)=mC m p sz lo l esz k (eg (dA p (A.o m))))∧(∀ A m p sz lo l,jM A (.view m p sz lo l)=some (.int .i64 l)) ∧
  (∀ A esz lo hi mx n p l0 k,jw A esz lo hi mx (.view n p esz l0 k)=lz n p esz l0 k esz lo hi mx (eg (dA p (A.o n))))∧(∀ n p sz l0 k lo hi mx fs,lz n p sz l0 k sz lo hi mx (some fs)=iG n p sz l0 k fs.length lo hi mx) ∧
  (∀ esz z x rest A,bn A none (.je esz z x) rest=nL A esz z (aq rest) (af A x))∧(∀ rest A d esz,bn A d (.bs0 esz) rest=aq rest (A.aN d (.c0 esz))) :=
 ⟨mB,kY,wA,wB,WB,fun _ _ _ _=>rfl⟩
theorem jU(rs:List bq)(post:bY)(A:ab):mW rs post .ret A=iL rs post A:=rfl
theorem Yl(rs:List bq)(post:bY)(A:ab):mW rs post .normal A=iL rs post A:=rfl
theorem bw.jH{ts:List (Nat×I)}{os0:List (Nat×ai)}(ns:List Nat)(d:Nat){x y:I}(hd:b8 ts d=x)(h:ba true (ay ts (ke ns os0)) x=some y)(ho:bU (fun n => !ns.contains n) (dQ ns os0)) :
  bw (ay ts os0) (ay ((d,y)::jh ns ts) (dQ ns os0)):=by
 rintro c a w ⟨D,E,hs⟩;obtain ⟨D1,E1,hs1,hw⟩:=hs.freeze ns ho;have hu:dw (ay ts (ke ns os0)) (ay ts os0):=fun n z hz=>by
  simp only[ay,pY] at hz ⊢;split at hz
  ·exact hz
  ·cases hz
 have hx:x.cn=true:=by cases x <;>first | rfl | simp[ba] at h
 have hv:=hs.dz d;simp only[ay] at hv;rw[hd] at hv;have h1:al w D E [x] [a.tmps.getD d undef]:=ku [x] _ (.cons hv .nil) (by intro z hz;simp only[List.mem_singleton] at hz;subst hz;exact hx);have h2:=kS (E':=E1) hs hu hw [x] [y] _ h1 (by simp only[bI,h]);have h3:aQ w D1 E1 y (a.tmps.getD d undef):=by
  simp only[al] at h2;obtain ⟨v',rest,cs,e,k1,k2,_⟩:=h2;simp only[zz8] at e;obtain ⟨e1,_⟩:=e;rw[e1];exact fj k1 k2
 refine ⟨D1,E1,hs1.sz,hs1.ee,fun t =>?_,hs1.di,hs1.cJ,hs1.cM,hs1.bx,hs1.cv,hs1.dx,hs1.eE,hs1.cu,hs1.eH,hs1.eY⟩;simp only[ay,b8];split
 ·rename_i ht;subst ht;exact h3
 ·exact hs1.dz t
theorem bw.rH{ts ts':List (Nat×I)}{os0 os':List (Nat×ai)}(ns:List Nat)(d:Nat){x y:I}(hd:b8 ts d=x)(h:ba true (ay ts (ke ns os0)) x=some y)(ho:bU (fun n => !ns.contains n) (dQ ns os0))
  (h1:cj ((d,y)::jh ns ts) ts') (h2:ct (dQ ns os0) os') (h3:cq (aH os') ts') (h4:bU (aH os') os'):bw (ay ts os0) (ay ts' os') :=
 (bw.jH ns d hd h ho).trans (bw.cN h1 h2 h3 h4)
theorem XY{w:World}{D:aI}{E:aO}{p:List Nat}{c x y:I}{cs:List Value}(hr:ae w D E c cs)(h:c.at p=some x)(hxy:∀ ds,ae w D E x ds→ae w D E y ds)(hs:y.aK=x.aK):ae w D E (c.du p y) cs∧(c.du p y).aK=c.aK:=by
 obtain ⟨off,c1,c2,c3,h1,rfl,h2,h3⟩:=vW p c x cs hr h;obtain ⟨off',k1,k2,k3,k4⟩:=sO p c x y _ c2 hr h (hxy c2 h3) hs;rw[h1,v6] at k1;subst k1;refine ⟨?_,k4⟩;have e:(c1++c2++c3).take off++c2++(c1++c2++c3).drop (off+c2.length)=c1++c2++c3:=by
  rw[zz0 c1 c2 c3,←h2,List.take_left,List.drop_length_add_append,List.drop_left,zz0]
 rw[←e];exact k3
theorem bw.FU{A:ab}{m n T sz z:Nat}{p:List Nat}{b:I}(hm:A.o m=some (.box b))(hp:b.at p=some (.nils z))(hn:A.o n=none)(hlt:n<1000000):bw A ((A.aP n (.bF T sz [])).aP m (.box (b.du p (.own n 0)))):=by
 rintro c a w ⟨D,E,h⟩;have ar:E n=none:=by have:=h.bx n;rw[hn] at this;exact this
 have hmn:m≠n:=fun e=>by rw[e,hn] at hm;cases hm
 have hl:dj w D E w D (fun m=>if m=n then some (.rw none 0) else E m):=by
  have ez:∀ {m:Nat} {e:bt},E m=some e→(if m=n then some (.rw none 0) else E m)=some e:=fun {m e} he=>by
   have:m≠n:=fun e=>by rw[e,ar] at he;cases he
   rw[if_neg this];exact he
  refine ⟨fun _ _ h=>h,fun _ _ _ _ h=>h,fun m b aK he=>ez he,fun m aC l he =>?_,fun m b he=>ez he,fun m b he=>ez he,fun _ _ _ _ h=>h⟩
  ·have:m≠n:=fun e=>by rw[e,ar] at he;cases he
   exact ⟨aC,l,by simp only[if_neg this];exact he,Z3 _,fun _=>rfl⟩
 refine ⟨D,fun m=>if m=n then some (.rw none 0) else E m,h.sz,h.ee,fun t=>aQ.later hl (h.dz t),h.di,h.cJ,h.cM,fun k =>?_,fun m m' e e' b h1 h2 h3 h4 =>?_,fun m e hm =>?_,h.eE,h.cu,h.eH,h.eY⟩
 ·simp only[ab.aP];by_cases hk:k=m
  ·subst hk;have ho:=h.bx k;rw[hm] at ho;obtain ⟨b',cs,T',h1,h2,h3,h4,h5⟩:=ho;obtain ⟨q1,q2⟩:=XY (y:=.own n 0) (ae.later hl _ _ h4) hp (fun ds hd=>by
    simp only[ae] at hd;subst hd;simp only[ae,if_true];exact ⟨none,0,rfl,Z3 _,⟨_,_,_,rfl⟩,fun _=>trivial⟩) rfl
   simp only[if_true,c6];exact ⟨b',cs,T',by rw[q2];simp only[if_neg hmn];exact h1,h2,h3.aK q2,q1,h5⟩
  ·simp only[if_neg hk];by_cases hkn:k=n
   ·subst hkn;simp only[if_true,c6];exact ⟨none,by simp,by simp,trivial⟩
   ·simp only[if_neg hkn];exact (h.bx k).later hl (by simp only[if_neg hkn]) fun _ _ _ _=>⟨rfl,fun _ ho=>ho⟩
 ·by_cases hm:m=n <;>by_cases hm':m'=n
  ·rw[hm,hm']
  ·simp only[if_pos hm,v6] at h1;subst h1;simp[bt.aC] at h3
  ·simp only[if_pos hm',v6] at h2;subst h2;simp[bt.aC] at h4
  ·simp only[if_neg hm] at h1;simp only[if_neg hm'] at h2;exact h.cv m m' e e' b h1 h2 h3 h4
 ·have hmn:m≠n:=fun e=>by rw[e,h.ji (.inr hlt)] at hm;cases hm
  simp only[if_neg hmn];exact h.dx m e hm
theorem bw.FV{ts:List (Nat×I)}{os:List (Nat×ai)}(m n T sz z:Nat)(p:List Nat)(b:I)(hm:aJ os m=some (.box b))(hp:b.at p=some (.nils z))(hn:aJ os n=none){B:ab}(h:bw (ay ts ((m,.box (b.du p (.own n 0)))::(n,.bF T sz [])::os)) B)(hlt:n<1000000:=by decide):bw (ay ts os) B :=
 ((bw.FU (A:=ay ts os) (T:=T) (sz:=sz) hm hp hn hlt).trans (by rw[si,si];exact bw.refl _)).trans h
mutual
theorem jr{p q:Nat→Bool}(h:∀ n,p n=true→q n=true):∀ x:I,x.only p=true→x.only q=true
 | .agg fs,hx | .tuple fs,hx=>by simp only[I.only] at *;exact jR h fs hx
 | .slice _ es,hx=>by simp only[I.only] at *;exact jR h es hx
 | .ref x,hx=>by simp only[I.only] at *;exact jr h x hx
 | .func _ caps,hx=>by simp only[I.only] at *;exact jR h caps hx
 | .iface _ v,hx=>by simp only[I.only] at *;exact jr h v hx
 | .ptr _ _,hx | .own _ _,hx | .view _ _ _ _ _,hx | .mref _,hx | .cU _,hx=>by simp only[I.only] at *;exact h _ hx
 | .cZ ks vs,hx=>by simp only[I.only,Z0] at *;exact ⟨jR h ks hx.1,jR h vs hx.2⟩
 | .bool _,_ | .int _ _,_ | .ah _,_ | .nilp,_ | .dc,_ | .cQ,_ | .any,_ | .raw _,_ | .nils _,_ | .c0 _,_ | .undef,_ | .cX,_=>by simp[I.only]
theorem jR{p q:Nat→Bool}(h:∀ n,p n=true→q n=true):∀ xs:List I,I.cH p xs=true→I.cH q xs=true
 | [],_=>rfl
 |x::xs,hx=>by
  simp only[I.cH,Z0] at *;exact ⟨jr h x hx.1,jR h xs hx.2⟩
end
theorem ai.jr{p q:Nat→Bool}(h:∀ n,p n=true→q n=true)(x:ai)(hx:x.only p=true):x.only q=true:=by
 cases x with
 |box y=>simp only[ai.only] at *;exact Abs.jr h y hx
 |bF T sz es=>simp only[ai.only] at *;exact jR h es hx
 |df o=>rfl
 |dK T xs=>rfl
 |bZ ks vs=>simp only[ai.only,Z0] at *;exact ⟨jR h ks hx.1,jR h vs hx.2⟩
 |it ks vs left cur=>simp only[ai.only,Z0] at *;exact ⟨jR h ks hx.1,jR h vs hx.2⟩
theorem Vw{x:I}(h:x.bu=true):x.cn=true:=by
 cases x <;>first | rfl | simp[I.bu] at h
theorem xF{aG:Bool}{A0:ab}{ρ:List (Nat×Nat)}{os:List (Nat×ai)} : ∀ xs:List I,I.b9 xs=true→fP aG A0 ρ os xs xs
 | [],_=>trivial
 |x::xs,h=>by
  simp only[I.b9,Z0] at h;exact ⟨.inl ⟨(qo _ x h.1).symm,lX _ x h.1,Vw h.1⟩,xF xs h.2⟩
structure fb (os os':List (Nat×ai)):Prop where
 same:∀ m,aH os' m=aH os m
 ok:∀ m x,aJ os' m=some x→x.only (aH os')=true∧x.ep=true
 lO:∀ m,aH os m=true→1000000≤m
def bO(o:Obj)(os:List (Nat×ai)):List (Nat×ai):=(1999999,.df o)::os
theorem jL(o:Obj)(os:List (Nat×ai))(m:Nat):aH (bO o os) m=(decide (m=1999999)||aH os m):=by
 simp only[bO,aH,aJ];by_cases h:m=1999999 <;>simp[h]
theorem oo(o:Obj)(os:List (Nat×ai))(m:Nat):aJ (bO o os) m=if m=1999999 then some (.df o) else aJ os m:=rfl
theorem fb.bO{os os':List (Nat×ai)}(h:fb os os')(o o':Obj):fb (bO o os) (bO o' os'):=by
 refine ⟨fun m=>by rw[jL,jL,h.same],fun m x hx =>?_,fun m hm =>?_⟩
 ·rw[oo] at hx;split at hx
  ·cases hx;exact ⟨rfl,rfl⟩
  ·obtain ⟨h1,h2⟩:=h.ok m x hx;exact ⟨x.jr (fun n hn=>by rw[jL,hn];simp) h1,h2⟩
 ·rw[jL] at hm;simp only[Bool.or_eq_true,decide_eq_true_eq] at hm;rcases hm with rfl | hm
  ·decide
  ·exact h.lO m hm
def sK:List Nat→List I→List (Nat×I)→List (Nat×I)
 |p::ps,v::vs,ts=>sK ps vs ((p,v)::ts)
 |_,_,ts=>ts
def mc(ρ:List (Nat×Nat))(p:Nat→Bool)(ts:List (Nat×I)):List (Nat×I)→Prop
 | []=>True
 |(k,v)::r=>b8 ts k=v.aS (bp ρ)∧v.only p=true∧mc ρ p ts r
theorem Ed{ρ:List (Nat×Nat)}{p:Nat→Bool}{ts:List (Nat×I)} : ∀ {tsR:List (Nat×I)},mc ρ p ts tsR→∀ k,b8 tsR k=.cX∨(b8 ts k=(b8 tsR k).aS (bp ρ)∧(b8 tsR k).only p=true)
 | [],_,k=>.inl rfl
 |(j,v)::r,h,k=>by
  simp only[mc] at h;simp only[b8];split
  ·rename_i hk;subst hk;exact .inr ⟨h.1,h.2.1⟩
  ·exact Ed h.2.2 k
section
variable {c:cd} {a:Act} {w:World} {D:aI} {E:aO}
theorem aL.wv{A:ab}(h:aL c A a w D E){n b:Nat}{o o':Obj}(hn:A.o n=some (.df o))(ar:E n=some (.op b))(ho:od o'=true):aL c (A.aP n (.df o')) a (w.putObj b o') D E:=by
 have hob:=h.bx n;rw[hn] at hob;obtain ⟨b',k1,k2,k3,k4,k5⟩:=hob;rw[ar] at k1;cases k1;have hnc:o.isCells=false:=by cases o <;>first | rfl | cases k4
 have hlt:b<w.heap.size:=eF k3;have hl:dj w D E (w.putObj b o') D E:=⟨fun _ _ h=>h,fun b1 o1 v _ hv=>ui k3 hnc hv,fun _ _ _ h=>h,fun _ aC l h=>⟨aC,l,h,Z3 _,fun _=>rfl⟩,fun _ _ h=>h,fun _ _ h=>h,fun b1 es ck hd hm=>(World.putObj_heap_other (fun e1=>k5 0 (by rw[←e1];exact hd))).trans hm⟩
 refine ⟨h.sz,h.ee.mono fun B _ hB=>(World.putObj_heap_other (fun e=>by rw[e,k3] at hB;cases hB;cases k4)).trans hB,fun t=>aQ.later hl (h.dz t),h.di.trans ⟨rfl,rfl,rfl,by simp,fun k hk=>World.putObj_heap_other (fun e=>hk (e▸k2))⟩,h.cJ,
  fun b1 o1 hd=>by have:=h.cM b1 o1 hd;simpa using this,fun m =>?_,h.cv,h.dx,h.eE,h.cu,h.eH,h.jZ hl⟩
 simp only[ab.aP];by_cases hm:m=n
 ·subst hm;simp only[if_true,c6];exact ⟨b,ar,k2,World.putObj_heap_same hlt,ho,k5⟩
 ·simp only[if_neg hm];exact (h.bx m).later hl rfl fun e b1 he hb=>⟨World.putObj_heap_other (fun e1=>hm (h.cv m n e _ b1 he ar hb (by rw[e1];rfl))),fun _ ho=>ho⟩
theorem aL.LK{A:ab}(h:aL c A a w D E){n b:Nat}(ar:E n=some (.op b)):aL c ⟨A.t,fun m=>if m=n then none else A.o m⟩ a w D (fun m=>if m=n then none else E m):=by
 have hne:∀ {m:Nat} {e:bt},E m=some e→(∀ b,e≠.op b)→m≠n:=fun he h2 e'=>by
  subst e';rw[ar] at he;cases he;exact h2 _ rfl
 have hl:dj w D E w D (fun m=>if m=n then none else E m):=by
  refine ⟨fun _ _ h=>h,fun _ _ _ _ h=>h,fun m b aK he =>?_,fun m aC l he=>⟨aC,l,?_,Z3 _,fun _=>rfl⟩,fun m b he =>?_,fun m b he =>?_,fun _ _ _ _ h=>h⟩
  ·simp only[if_neg (hne he (fun b=>by simp))];exact he
  ·simp only[if_neg (hne he (fun b=>by simp))];exact he
  ·simp only[if_neg (hne he (fun b=>by simp))];exact he
  ·simp only[if_neg (hne he (fun b=>by simp))];exact he
 refine ⟨h.sz,h.ee,fun t=>aQ.later hl (h.dz t),h.di,h.cJ,h.cM,fun m =>?_,fun m m' e e' b h1 h2 h3 h4 =>?_,fun m e hm =>?_,h.eE,h.cu,h.eH,h.eY⟩
 ·by_cases hm:m=n
  ·simp only[hm,if_true,c6]
  ·simp only[if_neg hm];exact (h.bx m).later hl (by simp only[if_neg hm]) fun _ _ _ _=>⟨rfl,fun _ ho=>ho⟩
 ·split at h1
  ·cases h1
  ·split at h2
   ·cases h2
   ·exact h.cv m m' e e' b h1 h2 h3 h4
 ·by_cases hmn:m=n
  ·left;simp only[hmn,if_true]
  ·simp only[if_neg hmn];exact h.dx m e hm
theorem aL.enter{ts:List (Nat×I)}{os0:List (Nat×ai)}(h:aL c (ay ts os0) a w D E)(hbase:c.dM=none)(hfree:aJ os0 999999=none)(hE0:c.cm 999999=none){o:Obj}(ho:od o=true) :
  ∃ E1,aL c (ay ts ((999999,.df o)::os0)) { a with defers := { target:=.collected w.heap.size,args := #[] } :: a.defers } ((w.alloc (.deferred (some []))).alloc o) D E1∧E1 999999=some (.op (w.heap.size+1))∧∀ xs vs,al w D E xs vs→al ((w.alloc (.deferred (some []))).alloc o) D E1 xs vs:=by
 have hb:Below w.heap.size w ((w.alloc (.deferred (some []))).alloc o):=((Below.refl _ w).alloc (Z3 _) _).alloc (by simp) _;have h1:=h.grow (D':=D) hb (fun _ _ h=>h) (fun _ _ h _=>h) (fun b o' hd=>by have:=h.cM b o' hd;simp;omega);obtain ⟨W,hW⟩:∃ W,W=(w.alloc (.deferred (some []))).alloc o:=⟨_,rfl⟩
 have hL:W.heap[w.heap.size+1]?=some o:=by
  rw[hW];have:=World.alloc_heap_new (w.alloc (.deferred (some []))) o;rwa [World.size_alloc] at this
 have hK:W.heap[w.heap.size]?=some (.deferred (some [])):=by
  rw[hW];exact (Below.heap_alloc _ _ _ (by simp)).trans (World.alloc_heap_new w _)
 rw[←hW] at h1 hb ⊢;have hEn:E 999999=none:=by have:=h.bx 999999;simp only[ay,hfree] at this;exact this
 have hl:dj W D E W D (fun m=>if m=999999 then some (.op (w.heap.size+1)) else E m):=by
  refine ⟨fun _ _ h=>h,fun _ _ _ _ h=>h,fun m b aK he =>?_,fun m aC l he=>⟨aC,l,?_,Z3 _,fun _=>rfl⟩,fun m b he =>?_,fun m b he =>?_,fun _ _ _ _ h=>h⟩
  all_goals
   have:m≠999999:=fun e=>by rw[e,hEn] at he;cases he
   simp only[if_neg this];exact he
 have hsz:c.cS.heap.size≤w.heap.size:=h.di.size;have nb:∀ {m:Nat} {e:bt} {b:Nat},E m=some e→e.aC=some b→b<w.heap.size:=fun he hb'=>h.eU he hb';refine ⟨fun m=>if m=999999 then some (.op (w.heap.size+1)) else E m,⟨h1.sz,?_,fun t=>aQ.later hl (h1.dz t),h1.di,h1.cJ,h1.cM,fun m =>?_,fun m m' e e' b g1 g2 g3 g4 =>?_,fun m e hm =>?_,h1.eE,h1.cu,h1.eH,h1.eY⟩,by simp,fun xs vs hx=>al.later hl xs vs (al.later (dj.grow hb fun _ _ h=>h) xs vs hx)⟩
 ·have hdf:=h1.ee;rw[hbase] at hdf ⊢;obtain ⟨Bs,k1,k2,k3⟩:=hdf;refine ⟨w.heap.size::Bs,by simp only[Z4];rw[←k1],List.nodup_cons.2 ⟨fun hin =>?_,k2⟩,fun B hB =>?_⟩
  ·have hdf':=h.ee;rw[hbase] at hdf';obtain ⟨Bs',j1,_,j3⟩:=hdf';have e1:Bs=Bs':=by
    have:Bs.map (fun B=>({ target:=.collected B,args := #[] } : Deferred))=Bs'.map (fun B => { target:=.collected B,args := #[] }):=by rw[←k1,←j1]
    exact (List.map_inj_right (fun x y hxy=>by simpa using hxy)).1 this
   rw[e1] at hin;have:=eF (j3 _ hin).2;omega
  ·rcases zx4.1 hB with rfl | hB
   ·exact ⟨hsz,hK⟩
   ·exact k3 B hB
 ·simp only[ay,aJ];by_cases hm:m=999999
  ·subst hm;simp only[if_true,c6];exact ⟨_,rfl,.inl (by omega),hL,ho,fun o' hd=>by have:=h.cM _ o' hd;omega⟩
  ·simp only[if_neg hm];exact (h1.bx m).later hl (by simp only[if_neg hm]) fun _ _ _ _=>⟨rfl,fun _ ho=>ho⟩
 ·by_cases hm:m=999999 <;>by_cases hm':m'=999999
  ·rw[hm,hm']
  ·simp only[if_pos hm,v6] at g1;simp only[if_neg hm'] at g2;subst g1;simp only[bt.aC,v6] at g3;have:=nb g2 g4;omega
  ·simp only[if_neg hm] at g1;simp only[if_pos hm',v6] at g2;subst g2;simp only[bt.aC,v6] at g4;have:=nb g1 g3;omega
  ·simp only[if_neg hm] at g1;simp only[if_neg hm'] at g2;exact h.cv m m' e e' b g1 g2 g3 g4
 ·have hmn:m≠999999:=fun e=>by rw[e,hE0] at hm;cases hm
  simp only[if_neg hmn];exact h.dx m e hm
theorem c6.jo{M M':Nat→Prop}{n:Nat}{x:Option ai}(h:c6 M w D E n x)(hM:∀ e b,E n=some e→e.aC=some b→M' b):c6 M' w D E n x:=by
 unfold c6 at *;split
 ·exact h
 ·obtain ⟨b,cs,T,h1,_,h3⟩:=h;exact ⟨b,cs,T,h1,hM _ b h1 rfl,h3⟩
 ·obtain ⟨aC,h1,h2,h3⟩:=h;refine ⟨aC,h1,h2,?_⟩;split
  ·exact h3
  ·obtain ⟨cs,pre,rest,_,h4⟩:=h3;exact ⟨cs,pre,rest,hM _ _ h1 rfl,h4⟩
 ·obtain ⟨b,h1,_,h3⟩:=h;exact ⟨b,h1,hM _ b h1 rfl,h3⟩
 ·obtain ⟨b,es,ck,h1,_,h3⟩:=h;exact ⟨b,es,ck,h1,hM _ b h1 rfl,h3⟩
 ·obtain ⟨r,b,es,ck,dp,se,la,h1,_,h3⟩:=h;exact ⟨r,b,es,ck,dp,se,la,h1,hM _ r h1 rfl,h3⟩
 ·obtain ⟨aC,h1,h2,h3⟩:=h;refine ⟨aC,h1,h2,?_⟩;split
  ·exact h3
  ·obtain ⟨cs,m,_,h4⟩:=h3;exact ⟨cs,m,hM _ _ h1 rfl,h4⟩
theorem aL.B9{os:List (Nat×ai)} : ∀ (ps:List Nat) (vs:List Value) (xs:List I) (ts:List (Nat×I)) (a:Act),aL c (ay ts os) a w D E→(∀ p∈ps,p<c.n)→al w D E xs vs→ps.length=vs.length →
  aL c (ay (sK ps xs ts) os) { a with tmps:=(ps.zip vs).foldl (fun t q=>t.setIfInBounds q.1 q.2) a.tmps } w D E
 | [],[],xs,ts,a,h,_,hv,_=>by
  cases xs with
  |nil=>exact h
  |cons x xs=>simp[al] at hv
 | [],_::_,_,_,_,_,_,_,hl=>by simp at hl
 |_::_,[],_,_,_,_,_,_,hl=>by simp at hl
 |p::ps,v::vs,xs,ts,a,h,hp,hv,hl=>by
  cases xs with
  |nil=>simp[al] at hv
  |cons x xs =>
   simp only[al] at hv;obtain ⟨v',rest,cs,e,h1,h2,h3⟩:=hv;simp only[zz8] at e;obtain ⟨rfl,rfl⟩:=e;have h4:=h.put (hp p (by simp)) (fj h1 h2);rw[vt] at h4;have:=aL.B9 ps vs xs ((p,x)::ts) (a.put (some p) v) h4 (fun q hq=>hp q (by simp[hq])) h3 (by simpa using hl);exact this
end
end Go.Abs
namespace Go.Abs
open Go Go.RowKit
def ig:br→Bool
 | .mv _ | .pick .. | .bin .. | .eqv .. | .conv .. | .un .. | .fl .. | .ix .. | .lenT _ | .bld .. | .ext .. | .mk .. | .nilC _ | .ptrE .. | .max2 .. | .prim .. =>true
 | .ld .. | .fa .. | .ia .. | .is .. | .len _ | .va .. | .bs .. | .sl .. | .cap _ | .bs0 _ | .lk .. | .b2s _=>true
 |_=>false
def sF:br→Bool
 | .alloc _ | .box _ | .aR .. | .call .. | .eV .. | .dL .. | .dU _=>true
 |op=>ig op
def oj(hs:List FuncId):br→Bool
 | .alloc _ | .box _ | .dU _=>true
 | .call f _ => !hs.contains f
 |op=>ig op
abbrev ea:=List (Nat×List Nat)
def gH(ao:ea)(s:Nat):Option (List Nat):=(ao.find? fun q=>q.1==s).map (·.2)
def dq(ao:ea)(A:ab):Prop:=∀ s ns,gH ao s=some ns→(A.t s).only (fun n=>ns.contains n)=true
def og(ao:ea):aw→Option (List Nat)
 | .t s=>gH ao s
 | .c x=>if x.bu then some [] else none
def qE(a:Option (List Nat))(ns:List Nat):Bool:=match a with
 |some ms=>ms.all fun m=>ns.contains m
 |none=>false
def gZ(ao:ea)(g:av):Bool:=match g.dst with
 |none=>true
 |some d=>match gH ao d with
  |none=>true
  |some ns=>match g.op with
   | .mv x | .nilC x | .fa _ _ x | .ia _ _ x _=>qE (og ao x) ns
   | .bin .. | .len _ | .bs .. | .bs0 _ | .conv .. | .lenT _ | .prim .. | .b2s _=>true
   | .box _ | .alloc _ | .dU _=>ns.contains d
   | .is _ x _ | .ld _ x=>qE (og ao x) []
   |_=>false
def lS:br→Option (List Nat)
 | .ld _ (.t x) | .fa _ _ (.t x) | .ia _ _ (.t x) _ | .is _ (.t x) _ | .len (.t x) | .va _ _ (.t x) | .sl _ (.t x) _ _ _ | .cap (.t x) | .lk _ _ _ (.t x) _ | .b2s (.t x)=>some [x]
 | .bs _ _ ps=>if (ps.all fun x=>match x with | .t _=>true | .c _=>false)=true then some (iH ps) else none
 | .bs0 _=>some []
 |op=>if op.fH=0∧ig op=true then some [] else none
def re(ao:ea)(g:av)(p:Nat→Bool):Bool:=match lS g.op with
 |some xs=>xs.all fun s=>match gH ao s with | some ns=>ns.all p | none=>false
 |none=>false
def mP(hs:List FuncId)(ao:ea)(g h:av):Bool:=oj hs h.op||match h.op with
 | .aR _ (.t y) _=>match lS g.op with
  |some []=>true
  |_=>match gH ao y with
   |some ms=>re ao g fun n => !ms.contains n
   |none=>false
 | .aR .. =>match lS g.op with
  |some []=>true
  |_=>false
 | .dL _ _ _ _ s _=>re ao g (fun _=>false)||qE (og ao s) []
 |_=>false
def mA(hs:List FuncId)(ao:ea)(g h:av):Bool:=ig g.op&&(mP hs ao g h&&((match g.dst with
  |some d => !h.b6.contains d&&h.dst != some d
  |none=>true)&&(match h.dst with
  |some d => !g.b6.contains d
  |none=>true)))
theorem u2{op:br}(h:ig op=true)(A:ab)(dst:Option Nat)(rest:List av)(k:ab→bW):aV A dst op rest k=b7 (aU A op) fun v=>k (A.aN dst v):=by
 cases op <;>first | rfl | cases h
inductive bH (P:Program) (Y:Value→List I→List (Nat×ai)→bY→Prop) (hs:List FuncId) (K:ab→Prop):bW→Prop where
 |done {A:ab} : K A→bH P Y hs K (.done A)
 |flat {f:FuncId} {avs cargs:List I} {a2:Option (List I)} {dst:Option Nat} {rest:List av} {A:ab} (r:I):aM P f cargs r→r.flat=true→bH P Y hs K (aq rest (A.aN dst r))→bH P Y hs K (.call f avs (some cargs) a2 dst rest A)
 |lead {f:FuncId} {avs cargs:List I} {a1:Option (List I)} {dst:Option Nat} {rest:List av} {A:ab} (r:I):aM P f cargs r→bH P Y hs K (aq rest (A.aN dst r))→bH P Y hs K (.call f avs a1 (some cargs) dst rest A)
 |bx {f:FuncId} {avs:List I} {a1 a2:Option (List I)} {dst:Option Nat} {rest:List av} {ts:List (Nat×I)} {os0:List (Nat×ai)} (ρ:List (Nat×Nat)) (cargs:List I) (post:bY):eJ P f cargs [] post →
   eK ρ [] os0→fP false (ay ts os0) ρ [] avs cargs→(∀ r os',post r os'→dF false ρ [] os0 r os') →
   (∀ r os',post r os'→bH P Y hs K (aq rest ((ay ts (c7 ρ os'++os0)).aN dst (r.aS (bp ρ)))))→bH P Y hs K (.call f avs a1 a2 dst rest (ay ts os0))
 |any {p:Nat→Prop} {k:Nat→bW} : (∀ m,p m→bH P Y hs K (k m))→bH P Y hs K (.any p k)
 |vF {f:FuncId} {avs:List I} {a1 a2:Option (List I)} {dst:Option Nat} {rest:List av} {ts:List (Nat×I)} {os0:List (Nat×ai)} (aG:Bool) (ρ:List (Nat×Nat)) (os:List (Nat×ai)) (cargs:List I) (post:bY):hs.contains f=true→eJ P f cargs os post →
   eK ρ os os0→fP aG (ay ts (dQ (iy ρ os) os0)) ρ os avs cargs→(∀ r os',post r os'→dF aG ρ os os0 r os') →
   (∀ r os',post r os'→bH P Y hs K (aq rest ((ay ts (c7 ρ os'++os0)).aN dst (r.aS (bp ρ)))))→bH P Y hs K (.call f avs a1 a2 dst rest (ay ts os0))
 |Ze {v:Value} {avs:List I} {dst:Option Nat} {rest:List av} {ts:List (Nat×I)} {os0:List (Nat×ai)} (os:List (Nat×ai)) (cargs:List I) (post:bY):Y v cargs os post →
   eK [] os os0→fP false (ay ts (dQ (iy [] os) os0)) [] os avs cargs→(∀ r os',post r os'→dF false [] os os0 r os') →
   (∀ r os',post r os'→bH P Y hs K (aq rest ((ay ts (c7 [] os'++os0)).aN dst (r.aS (bp [])))))→bH P Y hs K (.kN v avs dst rest (ay ts os0))
theorem LJ(os:List (Nat×ai)):dQ [] os=os:=by simp[dQ]
section
variable {P:Program} {hs:List FuncId} {K:ab→Prop} {Y:Value→List I→List (Nat×ai)→bY→Prop}
theorem bH.qY{p:Nat→Prop}{k:Nat→bW}(h:bH P Y hs K (.any p k)):∀ m,p m→bH P Y hs K (k m):=by cases h;assumption
theorem dq.put{ao:ea}{A B:ab}(h:dq ao A)(ht:∀ k,B.t k=A.t k){dst:Option Nat}{v:I}(hv:∀ d,dst=some d→∀ ns,gH ao d=some ns→v.only (fun n=>ns.contains n)=true):dq ao (B.aN dst v):=by
 intro s ns hs';cases dst with
 |none=>exact (ht s).symm▸h s ns hs'
 |some d =>
  simp only[ab.aN,ab.put];by_cases hd:s=d
  ·rw[if_pos hd];exact hv d rfl ns (hd▸hs')
  ·rw[if_neg hd,ht];exact h s ns hs'
theorem nr{ao:ea}{A:ab}(h:dq ao A){x:aw}{ns:List Nat}(hx:qE (og ao x) ns=true):(af A x).only (fun n=>ns.contains n)=true:=by
 cases x with
 |c x =>
  simp only[og] at hx;split at hx
  ·rename_i hc;exact lX _ x hc
  ·cases hx
 |t s =>
  simp only[og] at hx;cases hl:gH ao s with
  |none=>rw[hl] at hx;cases hx
  |some ms =>
   rw[hl] at hx;simp only[qE,zy5] at hx;exact jr (fun n hn=>hx n (by simpa using hn)) _ (h s ms hl)
theorem GF{op:BinOp}{x y v:I}(p:Nat→Bool)(h:bJ op x y=some v):v.only p=true:=by
 unfold bJ at h
 (repeat' split at h) <;>first | (cases h;done) | (simp only[v6] at h;subst h;rfl)
theorem XL{q:tI}{xs:List I}{v:I}(p:Nat→Bool)(h:dX q xs=some v):v.only p=true:=by
 unfold dX at h
 (repeat' split at h) <;>first | (cases h;done) | (rename_i hc;simp only[v6] at h;subst h;simp only[I.only];exact lX _ _ hc.1) | (simp only[v6] at h;subst h;rfl) | (simp only[t7] at h;obtain ⟨_,_,rfl⟩:=h;rfl)
theorem Gl{x:Option (List I)}{v:I}(p:Nat→Bool)(h:kI x=some v):v.only p=true:=by
 unfold kI at h;split at h
 ·simp only[t7] at h;obtain ⟨_,_,rfl⟩:=h;rfl
 ·cases h
theorem sG{p:Nat→Bool} : ∀ {xs:List I} {i:Nat} {x:I},I.cH p xs=true→xs[i]?=some x→x.only p=true
 | [],_,_,_,h=>by simp at h
 |a::xs,0,x,h,e=>by
  simp only[I.cH,Z0] at h;simp only[List.getElem?_cons_zero,v6] at e;exact e▸h.1
 |a::xs,i+1,x,h,e=>by
  simp only[I.cH,Z0] at h;exact sG (xs:=xs) h.2 (by simpa using e)
theorem BI{ao:ea}{A:ab}{g:av}(h:dq ao A)(hg:gZ ao g=true){v:I}(hv:aU A g.op=some v):∀ d,g.dst=some d→∀ ns,gH ao d=some ns→v.only (fun n=>ns.contains n)=true:=by
 intro d hd ns hn;obtain ⟨dst,op,gd⟩:=g;simp only at hd hv;subst hd;simp only[gZ,hn] at hg;cases op <;>simp only at hg <;>(try (cases hg;done)) <;>simp only[aU] at hv <;>(try (cases hv;done))
 case mv x=>simp only[v6] at hv;exact hv▸nr h hg
 case nilC x =>
  have:=nr h hg;generalize af A x=u at hv this;cases u <;>simp only[mH] at hv <;>first | (cases hv;done) | (simp only[v6] at hv;exact hv▸this)
 case bin op x y=>exact GF _ hv
 case conv k x=>split at hv <;>first | (cases hv;done) | (simp only[v6] at hv;subst hv;rfl)
 case prim p xs=>exact XL _ hv
 case is esz x i =>
  have hx:=nr h hg;split at hv
  case h_2=>cases hv
  split at hv
  ·rename_i sz es he;rw[he] at hx;simp only[I.only] at hx;split at hv
   ·simp only[t7] at hv;obtain ⟨u,hu,rfl⟩:=hv;simp only[I.only];exact jr (fun n hn=>by simp at hn) _ (sG hx hu)
   ·cases hv
  ·rename_i m l he;rw[he] at hx;simp[I.only] at hx
  ·rename_i m p sz lo l he;rw[he] at hx;simp[I.only] at hx
  ·cases hv
 case ld s x =>
  have hx:=nr h hg;split at hv
  case h_2=>cases hv
  rename_i u hu;split at hv
  case isFalse=>cases hv
  simp only[v6] at hv;subst hv;generalize af A x=z at hx hu;cases z <;>simp only[bR] at hu <;>try (cases hu;done)
  ·simp only[v6] at hu;subst hu;simp only[I.only] at hx;exact jr (fun n hn=>by simp at hn) _ hx
  ·simp[I.only] at hx
 case b2s x=>exact Gl _ hv
 case lenT x=>split at hv <;>first | (cases hv;done) | (simp only[v6] at hv;subst hv;rfl)
 case len x=>(repeat' split at hv) <;>first | (cases hv;done) | (simp only[v6] at hv;subst hv;rfl)
 case bs0 e=>simp only[v6] at hv;subst hv;rfl
 case bs e ps =>
  split at hv
  ·split at hv
   ·rename_i hc;simp only[v6] at hv;subst hv;simp only[I.only];exact mL _ _ hc.2
   ·cases hv
  ·cases hv
 case fa f off x =>
  have hx:=nr h hg;split at hv
  ·rename_i fs he;rw[he] at hx;simp only[I.only] at hx;split at hv
   ·rename_i u hu;split at hv
    ·simp only[v6] at hv;subst hv;simp only[I.only];exact sG hx hu
    ·cases hv
   ·cases hv
  ·rename_i n q he;rw[he] at hx;simp only[I.only] at hx;split at hv
   ·split at hv
    ·simp only[v6] at hv;subst hv;simpa only[I.only] using hx
    ·cases hv
   ·cases hv
  ·cases hv
 case ia n esz x i =>
  have hx:=nr h hg;split at hv
  case h_2=>cases hv
  split at hv
  case isFalse=>cases hv
  split at hv
  ·rename_i fs he;rw[he] at hx;simp only[I.only] at hx;split at hv
   ·simp only[t7] at hv;obtain ⟨u,hu,rfl⟩:=hv;simp only[I.only];exact sG hx hu
   ·cases hv
  ·rename_i m q he;rw[he] at hx;simp only[I.only] at hx;split at hv
   ·split at hv
    ·simp only[v6] at hv;subst hv;simpa only[I.only] using hx
    ·cases hv
   ·cases hv
  ·cases hv
def qP(A:ab)(dst:Option Nat)(s:I)(B:ab):Prop:=(∀ t,dst≠some t→B.t t=A.t t)∧(s.only (fun _=>false)=true→dw A B)
def mi(A:ab)(dst:Option Nat)(s:I)(R:(ab→bW)→bW):Prop :=
 (∀ k,R k=.fail)∨(∃ B,(∀ k,R k=k B)∧qP A dst s B)∨∃ (p:Nat→Prop) (bl:Nat→ab),(∀ k,R k=.any p fun m=>k (bl m))∧∀ m,qP A dst s (bl m)
theorem qk{A B:ab}{dst:Option Nat}{v:I}{t:Nat}(ht:∀ k,B.t k=A.t k)(h:dst≠some t):(B.aN dst v).t t=A.t t:=by
 cases dst with
 |none=>exact ht t
 |some d =>
  have:t≠d:=fun e=>h (by rw[e]);simp only[ab.aN,ab.put,if_neg this];exact ht t
theorem F4(A:ab)(dst:Option Nat)(esz bytes:Nat)(z s:I)(es ys:List I):mi A dst s (eL A dst esz bytes z es ys):=by
 cases dst with
 |none=>exact .inl fun _=>rfl
 |some d =>
  cases ho:A.o d with
  |some y=>exact .inl fun k=>by simp only[eL,ho]
  |none =>
   by_cases hc:(es.length+ys.length)*bytes≤140737488355328∧es.length+ys.length≤maxLen
   ·refine .inr (.inr ⟨_,fun m=>(A.aP d (.box (.agg (es++(ys++List.replicate m z))))).aN (some d) (.view d [] esz 0 (es.length+ys.length)),fun k=>by simp only[eL,ho];rw[if_pos hc],fun m=>⟨fun t ht=>qk (A:=A) (B:=A.aP d _) (fun _=>rfl) ht,fun _ n y hy =>?_⟩⟩);have:n≠d:=fun e=>by rw[e,ho] at hy;cases hy
    rw[gx];simp only[ab.aP,if_neg this];exact hy
   ·exact .inl fun k=>by simp only[eL,ho];rw[if_neg hc]
theorem F8(A:ab)(dst:Option Nat)(esz bytes:Nat)(z s:I)(es ys:Option (List I)):mi A dst s (eb A dst esz bytes z s es ys):=by
 cases es with
 |none=>exact .inl fun _=>rfl
 |some es =>
  cases ys with
  |none=>exact .inl fun _=>rfl
  |some ys =>
   by_cases h0:ys=[]
   ·exact .inr (.inl ⟨A.aN dst s,fun k=>by simp only[eb,if_pos h0],fun t ht=>qk (A:=A) (fun _=>rfl) ht,fun _ n y hy=>by rw[gx];exact hy⟩)
   ·have gg:=fun s'=>F4 A dst esz bytes z s' es ys;cases s
    case nils=>simp only[mi,eb,if_neg h0];exact gg _
    case c0=>simp only[mi,eb,if_neg h0];exact gg _
    case view n p sz lo l =>
     cases ho:A.o n with
     |none=>exact .inl fun k=>by simp only[eb,if_neg h0,ho]
     |some y =>
      cases y with
      |box b =>
       cases hb:b.at p with
       |none=>exact .inl fun k=>by simp only[eb,if_neg h0,ho,hb]
       |some c =>
        cases c
        case agg fs =>
         by_cases h1:lo+l+ys.length≤fs.length
         ·by_cases h2:sz=esz∧I.cL ys=I.cL ((fs.drop (lo+l)).take ys.length)
          ·exact .inr (.inl ⟨(A.aP n (.box (ib b p (lo+l) fs ys))).aN dst (.view n p esz lo (l+ys.length)),fun k=>by simp only[eb,if_neg h0,ho,hb,if_pos h1];rw[if_pos h2],fun t ht=>qk (A:=A) (B:=A.aP n _) (fun _=>rfl) ht,fun h=>by simp[I.only] at h⟩)
          ·exact .inl fun k=>by simp only[eb,if_neg h0,ho,hb,if_pos h1];rw[if_neg h2]
         ·simp only[mi,eb,if_neg h0,ho,hb,if_neg h1];exact gg _
        all_goals exact .inl fun k=>by simp only[eb,if_neg h0,ho,hb]
      |_=>exact .inl fun k=>by simp only[eb,if_neg h0,ho]
    all_goals exact .inl fun k=>by simp only[eb,if_neg h0]
theorem xE(A:ab)(dst:Option Nat)(e esz bytes:Nat)(z:I)(s x:aw)(rest:List av):mi A dst (af A s) (aV A dst (.dL e esz bytes z s x) rest):=by
 generalize hs:af A s=gP;cases gP
 case own n l =>
  cases hx:af A x
  case slice sz ys =>
   cases ho:A.o n with
   |none=>exact .inl fun k=>by simp only[aV,hs,hx,ho]
   |some y =>
    cases y with
    |bF T sz' es =>
     by_cases hc:vI e esz bytes l sz ys T sz' es
     ·exact .inr (.inl ⟨(A.aP n (.bF e esz (es++ys))).aN dst (.own n (es.length+ys.length)),fun k=>by simp only[aV,hs,hx,ho];rw[if_pos hc],fun t ht=>qk (A:=A) (B:=A.aP n _) (fun _=>rfl) ht,fun h=>by simp[I.only] at h⟩)
     ·exact .inl fun k=>by simp only[aV,hs,hx,ho];rw[if_neg hc]
    |dK T xs =>
     by_cases hc:vJ e esz bytes l ys T xs z
     ·exact .inr (.inl ⟨(A.aP n (.dK e (xs++pM ys))).aN dst (.own n (xs.length+ys.length)),fun k=>by simp only[aV,hs,hx,ho];rw[if_pos hc],fun t ht=>qk (A:=A) (B:=A.aP n _) (fun _=>rfl) ht,fun h=>by simp[I.only] at h⟩)
     ·exact .inl fun k=>by simp only[aV,hs,hx,ho];rw[if_neg hc]
    |_=>exact .inl fun k=>by simp only[aV,hs,hx,ho]
  all_goals exact .inl fun k=>by simp only[aV,hs,hx]
 all_goals (simp only[mi,aV,hs];exact F8 ..)
theorem vU{A:ab}{d:Nat}{v:I}{n:Nat}{y:ai}{dst:Option Nat}{u:I}(h:dst≠some d):((A.put d v).aP n y).aN dst u=((A.aP n y).aN dst u).put d v:=by
 cases dst with
 |none=>rfl
 |some e =>
  have:e≠d:=fun he=>h (by rw[he]);simp only[ab.aN,ab.put,ab.aP,ab.mk.injEq,and_true]
  funext k
  by_cases h1:k=e <;>by_cases h2:k=d <;>simp_all
theorem XW{A:ab}{d:Nat}{v:I}{dst:Option Nat}{u:I}(h:dst≠some d):(A.put d v).aN dst u=(A.aN dst u).put d v:=by
 cases dst with
 |none=>rfl
 |some e =>
  have:e≠d:=fun he=>h (by rw[he]);simp only[ab.aN,ab.put,ab.mk.injEq,and_true]
  funext k
  by_cases h1:k=e <;>by_cases h2:k=d <;>simp_all
theorem F5{A:ab}{d:Nat}{v:I}{dst:Option Nat}(h:dst≠some d)(esz bytes:Nat)(z:I)(es ys:List I)(k:ab→bW):eL (A.put d v) dst esz bytes z es ys k=eL A dst esz bytes z es ys fun B=>k (B.put d v):=by
 cases dst with
 |none=>rfl
 |some e =>
  simp only[eL];have:(A.put d v).o=A.o:=rfl;rw[this];cases A.o e with
  |some _=>rfl
  |none =>
   simp only;split
   ·simp only[vU h]
   ·rfl
theorem F9{A:ab}{d:Nat}{v:I}{dst:Option Nat}(h:dst≠some d)(esz bytes:Nat)(z s:I)(es ys:Option (List I))(k:ab→bW):eb (A.put d v) dst esz bytes z s es ys k=eb A dst esz bytes z s es ys fun B=>k (B.put d v):=by
 have ho:(A.put d v).o=A.o:=rfl;cases es with
 |none=>rfl
 |some es =>
  cases ys with
  |none=>rfl
  |some ys =>
   simp only[eb];split
   ·rw[XW h]
   ·cases s <;>simp only[F5 h,ho]
    rename_i n p sz lo l;cases A.o n with
    |none=>rfl
    |some y =>
     cases y with
     |box b =>
      simp only;cases b.at p with
      |none=>rfl
      |some c =>
       cases c <;>simp only[vU h]
     |_=>rfl
theorem Gd{A:ab}{d:Nat}{v:I}{dst:Option Nat}(h:dst≠some d){e esz bytes:Nat}{z:I}{s x:aw}(hag:dv A (A.put d v) (s.sl++x.sl))(rest rest':List av)(k:ab→bW) :
  aV (A.put d v) dst (.dL e esz bytes z s x) rest k=aV A dst (.dL e esz bytes z s x) rest' fun B=>k (B.put d v):=by
 have ho:(A.put d v).o=A.o:=rfl;have hsrc:∀ y,cR (A.put d v) esz y=cR A esz y:=fun y=>by cases y <;>rfl
 simp only[aV,cz hag.l,cz hag.r,hsrc];cases af A s <;>simp only[F9 h]
 rename_i n l;cases af A x <;>simp only[ho]
 cases A.o n with
 |none=>rfl
 |some y=>cases y <;>simp only[vU h]
theorem bH.zg{ao:ea}{f:FuncId}{avs:List I}{a1 a2:Option (List I)}{dst:Option Nat}{rest:List av}{A:ab}(hi:dq ao A)(hd:∀ d,dst=some d→gH ao d=none)(h:bH P Y hs K (.call f avs a1 a2 dst rest A)) :
  aY P Y false (fun B=>bH P Y hs K (aq rest B)∧dq ao B) (.call f avs a1 a2 dst [] A):=by
 have no:∀ {v:I},∀ d,dst=some d→∀ ns,gH ao d=some ns→v.only (fun n=>ns.contains n)=true:=fun d e ns hn=>by rw[hd d e] at hn;cases hn
 cases h with
 |flat r hc hf hw=>exact .flat r hc hf (.done ⟨hw,hi.put (fun _=>rfl) no⟩)
 |lead r hc hw=>exact .lead r hc (.done ⟨hw,hi.put (fun _=>rfl) no⟩)
 |bx ρ cargs post hc hg ha hb hw=>exact .bx false ρ [] cargs post rfl hc hg (by simp only[iy,zz9,LJ];exact ha) hb fun r os' hp=>.done ⟨hw r os' hp,hi.put (B:=ay _ (c7 ρ os'++_)) (fun _=>rfl) no⟩
 |vF aG ρ os cargs post _ hc hg ha hb hw=>exact .bx aG ρ os cargs post rfl hc hg ha hb fun r os' hp=>.done ⟨hw r os' hp,hi.put (B:=ay _ (c7 ρ os'++_)) (fun _=>rfl) no⟩
theorem bH.Ib{ao:ea}{v:Value}{avs:List I}{dst:Option Nat}{rest:List av}{A:ab}(hi:dq ao A)(hd:∀ d,dst=some d→gH ao d=none)(h:bH P Y hs K (.kN v avs dst rest A)) :
  aY P Y false (fun B=>bH P Y hs K (aq rest B)∧dq ao B) (.kN v avs dst [] A):=by
 have no:∀ {v:I},∀ d,dst=some d→∀ ns,gH ao d=some ns→v.only (fun n=>ns.contains n)=true:=fun d e ns hn=>by rw[hd d e] at hn;cases hn
 cases h with
 |Ze os cargs post hc hg ha hb hw=>exact .tu os cargs post rfl hc hg ha hb fun r os' hp=>.done ⟨hw r os' hp,hi.put (B:=ay _ (c7 [] os'++_)) (fun _=>rfl) no⟩
theorem bH.one{ao:ea}{A:ab}{g:av}{rest:List av}(hi:dq ao A)(ho:sF g.op=true)(hL:gZ ao g=true)(h:bH P Y hs K (aV A g.dst g.op rest (aq rest))):aY P Y false (fun B=>bH P Y hs K (aq rest B)∧dq ao B) (aV A g.dst g.op [] (aq [])):=by
 have hval:=fun v (hv:aU A g.op=some v)=>BI hi hL hv;obtain ⟨dst,op,gd⟩:=g;simp only at ho h hval ⊢;have pure:ig op=true→aY P Y false (fun B=>bH P Y hs K (aq rest B)∧dq ao B) (aV A dst op [] (aq [])):=by
  intro hsm;rw[u2 hsm] at h ⊢;cases hv:aU A op with
  |none=>rw[hv] at h;cases h
  |some v=>rw[hv] at h;exact .done ⟨h,hi.put (fun _=>rfl) (hval v hv)⟩
 have unl:(∀ ns d,dst=some d→gH ao d=some ns→gZ ao ⟨dst,op,gd⟩=false)→∀ d,dst=some d→gH ao d=none:=fun h1 d hd=>by
  cases hn:gH ao d with
  |none=>rfl
  |some ns=>rw[h1 ns d hd hn] at hL;cases hL
 cases op with
 |alloc z =>
  cases dst with
  |none=>simp only[aV] at h;cases h
  |some d =>
   simp only[aV] at h ⊢;split at h
   case h_2=>cases h
   refine .done ⟨h,hi.put (B:=A.aP d _) (dst:=some d) (fun _=>rfl) fun d' e ns hn =>?_⟩;simp only[v6] at e;subst e;simpa only[gZ,hn,I.only] using hL
 |box x =>
  cases dst with
  |none=>simp only[aV] at h;cases h
  |some d =>
   simp only[aV] at h ⊢;split at h
   case h_2=>cases h
   split at h
   case isFalse=>cases h
   rename_i hv;rw[if_pos hv];refine .done ⟨h,hi.put (B:=A.aP d _) (dst:=some d) (fun _=>rfl) fun d' e ns hn =>?_⟩;simp only[v6] at e;subst e;simpa only[gZ,hn,I.only] using hL
 |aR s x v =>
  cases dst with
  |some d=>simp only[aV] at h;cases h
  |none =>
   simp only[aV] at h ⊢;split at h
   case h_2=>cases h
   rename_i n p hx;split at h
   case h_2=>cases h
   rename_i b hb;split at h
   case h_2=>cases h
   rename_i old hold;split at h
   case isFalse=>cases h
   rename_i hok;simp only[if_pos hok];exact .done ⟨h,fun s ns hn=>hi s ns hn⟩
 |dU x =>
  simp only[aV] at h ⊢;cases hse:lr (af A x) with
  |none=>rw[hse] at h;simp only[hZ] at h;cases h
  |some ys =>
   rw[hse] at h;cases dst with
   |none=>simp only[hZ] at h;cases h
   |some d =>
    simp only[hZ] at h ⊢;split at h
    case h_2=>cases h
    rename_i ho;refine .any rfl fun m hm=>.done ⟨h.qY m hm,hi.put (B:=A.aP d _) (dst:=some d) (fun _=>rfl) fun d' e ns hn =>?_⟩;simp only[v6] at e;subst e;simpa only[gZ,hn,I.only] using hL
 |call f args=>exact bH.zg hi (unl fun ns d e hn=>by subst e;simp only[gZ,hn]) h
 |eV x args =>
  have hu:=unl fun ns d e hn=>by subst e;simp only[gZ,hn]
  simp only[aV] at h ⊢;split at h
  ·exact bH.zg hi hu h
  ·exact bH.Ib hi hu h
  ·cases h
 |dL e esz bytes z s x =>
  have hu:=unl fun ns d e hn=>by subst e;simp only[gZ,hn]
  have rW:∀ B,qP A dst (af A s) B→dq ao B:=fun B hB t ns hn=>by
   rw[hB.1 t fun e=>by rw[hu t e] at hn;cases hn];exact hi t ns hn
  have hf:=xE A dst e esz bytes z s x;rcases hf rest with h1 | ⟨B,h1,h2⟩ | ⟨p,bl,h1,h2⟩
  ·rw[h1] at h;cases h
  ·rw[h1] at h;have:aV A dst (.dL e esz bytes z s x) [] (aq [])=aq [] B:=(show aV A dst (.dL e esz bytes z s x) [] (aq [])=aV A dst (.dL e esz bytes z s x) rest (aq []) from rfl).trans (h1 _);rw[this];exact .done ⟨h,rW B h2⟩
  ·rw[h1] at h;have:aV A dst (.dL e esz bytes z s x) [] (aq [])=.any p fun m=>aq [] (bl m):=(show aV A dst (.dL e esz bytes z s x) [] (aq [])=aV A dst (.dL e esz bytes z s x) rest (aq []) from rfl).trans (h1 _);rw[this];exact .any rfl fun m hm=>.done ⟨h.qY m hm,rW _ (h2 m)⟩
 |_=>first | exact pure rfl | cases ho
def fe(g:av)(A:ab)(v:I):Prop:=(fA A g∧v=.undef)∨(pass A g∧aU A g.op=some v)
theorem bH.wC{A:ab}{g:av}{rest:List av}(hs':ig g.op=true)(h:bH P Y hs K (aq (g::rest) A)):∃ v,fe g A v∧bH P Y hs K (aq rest (A.aN g.dst v)):=by
 have step:pass A g→bH P Y hs K (aV A g.dst g.op rest (aq rest))→∃ v,fe g A v∧bH P Y hs K (aq rest (A.aN g.dst v)):=by
  intro hp h;rw[u2 hs'] at h;cases hv:aU A g.op with
  |none=>rw[hv] at h;cases h
  |some v=>rw[hv] at h;exact ⟨v,.inr ⟨hp,hv⟩,h⟩
 simp only[aq] at h;split at h
 ·rename_i hg;exact step (by simp only[pass,hg]) h
 ·rename_i t b hg;split at h
  ·rename_i b' hb;split at h
   ·rename_i hbb;subst hbb;exact step (by simp only[pass,hg];exact hb) h
   ·rename_i hbb;exact ⟨_,.inl ⟨by simp only[fA,hg];exact .inl (by rw[hb,ub hbb]),rfl⟩,h⟩
  ·rename_i hb;exact ⟨_,.inl ⟨by simp only[fA,hg];exact .inr hb,rfl⟩,h⟩
  ·cases h
theorem qZ{A:ab}{g:av}{rest:List av}(hn:fA A g):aq (g::rest) A=aq rest (A.aN g.dst .undef):=by
 simp only[aq];cases hg:g.guard with
 |none=>simp only[fA,hg] at hn
 |some tb =>
  obtain ⟨t,b⟩:=tb;simp only[fA,hg] at hn;rcases hn with hn | hn
  ·simp only[hn];rw[if_neg (by cases b <;>simp)]
  ·simp only[hn]
theorem fe.to{A:ab}{g:av}{rest:List av}{v:I}(hs':ig g.op=true)(h:fe g A v):aq (g::rest) A=aq rest (A.aN g.dst v):=by
 rcases h with ⟨hn,rfl⟩ | ⟨hp,hv⟩
 ·exact qZ hn
 ·rw[mr hp,u2 hs',hv];rfl
theorem Lo{A A':ab}{p:Nat→Bool}(ho:∀ n,p n=true→A'.o n=A.o n){x:I}(hx:x.only p=true):bR A' x=bR A x:=by
 cases x <;>simp only[bR]
 rename_i n q;rw[ho n (by simpa[I.only] using hx)]
mutual
theorem Mg{A A':ab}{p:Nat→Bool}(ho:∀ n,p n=true→A'.o n=A.o n):∀ {x:I},x.only p=true→ba false A' x=ba false A x
 | .own n k,h=>by simp only[ba];rw[ho n (by simpa[I.only] using h)]
 | .func f caps,h=>by simp only[ba];rw[rF ho (xs:=caps) (by simpa[I.only] using h)]
 | .agg fs,h=>by simp only[ba];rw[rF ho (xs:=fs) (by simpa[I.only] using h)]
 | .undef,_ | .cX,_ | .bool _,_ | .int _ _,_ | .ah _,_ | .nilp,_ | .dc,_ | .cQ,_ | .any,_ | .raw _,_ | .nils _,_ | .c0 _,_ | .slice _ _,_ | .tuple _,_ | .ref _,_ | .iface _ _,_ | .ptr _ _,_ | .view _ _ _ _ _,_ | .mref _,_ | .cU _,_ | .cZ _ _,_=>by simp[ba]
theorem rF{A A':ab}{p:Nat→Bool}(ho:∀ n,p n=true→A'.o n=A.o n):∀ {xs:List I},I.cH p xs=true→bI false A' xs=bI false A xs
 | [],_=>rfl
 |x::xs,h=>by
  simp only[I.cH,Z0] at h;simp only[bI,Mg ho h.1,rF ho h.2]
end
theorem BR{p:Nat→Bool}{f:aw→I} : ∀ {xs:List aw},(∀ x∈xs,(f x).only p=true)→I.cH p (xs.map f)=true
 | [],_=>rfl
 |x::xs,h=>by
  simp only[Z4,I.cH,Z0];exact ⟨h x (by simp),BR fun y hy=>h y (by simp[hy])⟩
theorem V6{A A':ab}{p:Nat→Bool}(ho:∀ n,p n=true→A'.o n=A.o n){x:I}(hx:x.only p=true):fK A' x=fK A x:=by
 cases x with
 |mref n=>simp only[fK];rw[ho n (by simpa[I.only] using hx)]
 |raw v=>cases v <;>first | rfl | (rename_i o;cases o <;>rfl)
 |_=>rfl
theorem XN{A A':ab}{op:br}{xs:List Nat}{p:Nat→Bool}(hm:lS op=some xs)(h:dv A A' op.b6)(hx:∀ s∈xs,(A.t s).only p=true)(ho:∀ n,p n=true→A'.o n=A.o n):aU A' op=aU A op:=by
 have jH:op.fH=0→aU A' op=aU A op:=fun hc=>vT hc h;have dl:=fun {x:I} (hx:x.only p=true)=>Lo ho hx;unfold lS at hm;split at hm
 ·rename_i s x;simp only[v6] at hm;subst hm;have e:=h x (by simp[br.b6,aw.sl]);simp only[aU,af,e,dl (hx x (by simp))]
 ·rename_i f off x;simp only[v6] at hm;subst hm;have e:=h x (by simp[br.b6,aw.sl]);have k:=hx x (by simp);simp only[aU,af,e];generalize A.t x=u at k ⊢;cases u with
  |ptr n q=>simp only[dl (x:=.ptr n q) k]
  |ref c=>cases c <;>rfl
  |_=>rfl
 ·rename_i n esz x i;simp only[v6] at hm;subst hm;have e:=h x (by simp[br.b6,aw.sl]);have ei:=cz (x:=i) (fun m hm=>h m (by simp[br.b6,hm]));have k:=hx x (by simp);simp only[aU,ei];generalize af A i=w;simp only[af,e];generalize A.t x=u at k ⊢;cases u with
  |ptr n q=>simp only[dl (x:=.ptr n q) k]
  |ref c=>cases c <;>rfl
  |_=>rfl
 ·rename_i esz x i;simp only[v6] at hm;subst hm;have e:=h x (by simp[br.b6,aw.sl]);have ei:=cz (x:=i) (fun m hm=>h m (by simp[br.b6,hm]));have k:=hx x (by simp);simp only[aU,ei];generalize af A i=w;simp only[af,e];generalize A.t x=u at k ⊢;cases u with
  |own n l=>simp only[ho n (by simpa[I.only] using k)]
  |view n q=>simp only[dl (x:=.ptr n q) (by simpa[I.only] using k)]
  |_=>rfl
 ·rename_i x;simp only[v6] at hm;subst hm;have e:=h x (by simp[br.b6,aw.sl]);have k:=hx x (by simp);simp only[aU,af,e];generalize A.t x=u at k ⊢;cases u with
  |own n l=>simp only[ho n (by simpa[I.only] using k)]
  |_=>rfl
 ·rename_i n esz x;simp only[v6] at hm;subst hm;have e:=h x (by simp[br.b6,aw.sl]);have k:=hx x (by simp);simp only[aU,af,e];generalize A.t x=u at k ⊢;cases u with
  |ptr n q=>simp only[dl (x:=.ptr n q) k]
  |ref c=>cases c <;>rfl
  |_=>rfl
 ·rename_i esz x lo hi mx;simp only[v6] at hm;subst hm;have e:=h x (by simp[br.b6,aw.sl]);have e1:=nT (x:=lo) (fun m hm=>h m (by simp[br.b6,hm]));have e2:=nT (x:=hi) (fun m hm=>h m (by simp[br.b6,hm]));have e3:=nT (x:=mx) (fun m hm=>h m (by simp[br.b6,hm]));have k:=hx x (by simp);simp only[aU,e1,e2,e3];generalize lo.map (af A)=w1;generalize hi.map (af A)=w2;generalize mx.map (af A)=w3;simp only[af,e];generalize A.t x=u at k ⊢;cases u with
  |view n q=>simp only[dl (x:=.ptr n q) (by simpa[I.only] using k)]
  |_=>rfl
 ·rename_i x;simp only[v6] at hm;subst hm;have e:=h x (by simp[br.b6,aw.sl]);have k:=hx x (by simp);simp only[aU,af,e];generalize A.t x=u at k ⊢;cases u with
  |view n q=>simp only[dl (x:=.ptr n q) (by simpa[I.only] using k)]
  |_=>rfl
 ·rename_i ty z ok x kk;simp only[v6] at hm;subst hm;have e:=h x (by simp[br.b6,aw.sl]);have ek:=cz (x:=kk) (fun m hm=>h m (by simp[br.b6,hm]));have k:=hx x (by simp);simp only[aU,ek];generalize af A kk=w;simp only[af,e,V6 ho k]
 ·rename_i x;simp only[v6] at hm;subst hm;have e:=h x (by simp[br.b6,aw.sl]);have k:=hx x (by simp);simp only[aU,af,e];generalize A.t x=u at k ⊢;cases u with
  |own n l=>simp only[cR,ho n (by simpa[I.only] using k)]
  |view n q=>simp only[cR,dl (x:=.ptr n q) (by simpa[I.only] using k)]
  |_=>rfl
 ·rename_i esz ps;split at hm
  case isFalse=>cases hm
  rename_i hall;simp only[v6] at hm;subst hm;have hev:ps.map (af A')=ps.map (af A):=j9 h;have hon:I.cH p (ps.map (af A))=true:=BR fun x hx'=>by
   have h1:=zy5.1 hall x hx';cases x with
   |c _=>cases h1
   |t s=>exact hx s (by simp only[iH,List.mem_flatMap];exact ⟨_,hx',by simp[aw.sl]⟩)
  simp only[aU,hev,rF ho hon]
 ·rfl
 ·split at hm
  ·rename_i hc;exact jH hc.1
  ·cases hm
theorem xB{ao:ea}{A:ab}{g:av}{p:Nat→Bool}(hi:dq ao A)(h:re ao g p=true):∃ xs,lS g.op=some xs∧∀ s∈xs,(A.t s).only p=true:=by
 unfold re at h;split at h
 case h_2=>cases h
 rename_i xs hm;refine ⟨xs,hm,fun s hs' =>?_⟩;have h1:=zy5.1 h s hs';split at h1
 case h_2=>cases h1
 rename_i ns hn;exact jr (fun n h2=>zy5.1 h1 n (by simpa using h2)) _ (hi s ns hn)
theorem fe.vm{A A':ab}{g:av}{v:I}{xs:List Nat}{p:Nat→Bool}(h:fe g A v)(hm:lS g.op=some xs)(ha:dv A A' g.b6)(hx:∀ s∈xs,(A.t s).only p=true)(ho:∀ n,p n=true→A'.o n=A.o n):fe g A' v:=by
 rcases h with ⟨h,rfl⟩ | ⟨h,k⟩
 ·exact .inl ⟨ov ha h,rfl⟩
 ·exact .inr ⟨lY ha h,by rw[XN hm (av.iR ha) hx ho];exact k⟩
theorem fe.rW{ao:ea}{A:ab}{g:av}{v:I}(hi:dq ao A)(hg:gZ ao g=true)(h:fe g A v):dq ao (A.aN g.dst v):=by
 rcases h with ⟨_,rfl⟩ | ⟨_,k⟩
 ·exact hi.put (fun _=>rfl) fun _ _ _ _=>rfl
 ·exact hi.put (fun _=>rfl) (BI hi hg k)
theorem fe.cu{A A':ab}{g:av}{v:I}(h:fe g A v)(hu:dw A A')(ha:dv A A' g.b6):fe g A' v:=by
 rcases h with ⟨h,rfl⟩ | ⟨h,k⟩
 ·exact .inl ⟨ov ha h,rfl⟩
 ·exact .inr ⟨lY ha h,B7 hu (av.iR ha) k⟩
theorem AN{ao:ea}{g h:av}(hi:mA hs ao g h=true):ig g.op=true∧mP hs ao g h=true∧(∀ d,g.dst=some d→d∉h.b6)∧(∀ d,g.dst=some d→h.dst≠some d)∧(∀ d,h.dst=some d→d∉g.b6):=by
 simp only[mA,Z0] at hi;obtain ⟨h1,h2,h3,h4⟩:=hi;refine ⟨h1,h2,fun d hd =>?_,fun d hd =>?_,fun d hd =>?_⟩
 ·rw[hd] at h3;simp at h3;exact h3.1
 ·rw[hd] at h3;simp at h3;exact h3.2
 ·rw[hd] at h4;simpa using h4
theorem xH{aG:Bool}{A A':ab}{ρ:List (Nat×Nat)}{os:List (Nat×ai)}(hu:dw A A'):∀ {xs cs:List I},fP aG A ρ os xs cs→fP aG A' ρ os xs cs
 | [],[],_=>trivial
 |x::xs,c::cs,h=>⟨h.1.imp id fun h=>Ab hu h,xH hu h.2⟩
 | [],_::_,h=>h.elim
 |_::_,[],h=>h.elim
theorem Wd{A:ab}{d:Option Nat}{v:I}{ts:List (Nat×I)}{os:List (Nat×ai)}(h:A.aN d v=ay ts os):∃ ts2,A=ay ts2 os∧∀ X:List (Nat×ai),(ay ts2 X).aN d v=ay ts X:=by
 cases d with
 |none=>exact ⟨ts,h,fun _=>rfl⟩
 |some d =>
  have ht:∀ k,(A.aN (some d) v).t k=b8 ts k:=fun k=>by rw[h];rfl
  have ho:A.o=aJ os:=by
   have:(A.aN (some d) v).o=aJ os:=by rw[h];rfl
   rwa [gx] at this
  refine ⟨(d,A.t d)::ts,?_,fun X =>?_⟩
  ·cases A with
   |mk t o =>
    simp only[ay,ab.mk.injEq];refine ⟨funext fun k =>?_,ho⟩;have:=ht k;simp only[ab.aN,ab.put] at this;simp only[b8];by_cases hk:k=d
    ·subst hk;simp
    ·rw[if_neg hk] at this;have hk':¬ d=k:=fun e=>hk e.symm;simp only[hk,if_false];exact this
  ·simp only[ab.aN,ab.put,ay,ab.mk.injEq,and_true]
   funext k
   have:=ht k;simp only[ab.aN,ab.put] at this;by_cases hk:k=d
   ·subst hk;simp at this ⊢;exact this
   ·have hk':¬ d=k:=fun e=>hk e.symm;simp only[b8,hk,if_false]
theorem XI{ρ:List (Nat×Nat)}{os0 os':List (Nat×ai)}{r:I}(hb:dF false ρ [] os0 r os'){n:Nat}{x:ai}(hx:aJ os0 n=some x):aJ (c7 ρ os'++os0) n=some x:=by
 rw[sf];cases hp:pre ρ os' n with
 |none=>exact hx
 |some m =>
  obtain ⟨h1,h2⟩:=lf hp;have:=(hb.oq m h1 (by simp[aH,aJ])).1;rw[h2,hx] at this;cases this
theorem bH.H9{A B:ab}{j:av}{v:I}{f:FuncId}{args:List aw}{dst:Option Nat}{rest:List av}(hj:ig j.op=true)(hv:fe j A v)(hB:B=A.aN j.dst v)(hf:hs.contains f=false)(hag:dv A B (iH args))(hd:∀ d,j.dst=some d→dst≠some d)(hr:∀ d,dst=some d→d∉j.b6)
  (h:bH P Y hs K (.call f (args.map (af B)) (bI true B (args.map (af B))) (bI false B (args.map (af B))) dst rest B)):bH P Y hs K (.call f (args.map (af A)) (bI true A (args.map (af A))) (bI false A (args.map (af A))) dst (j::rest) A):=by
 have eo:B.o=A.o:=by rw[hB,gx]
 have cu:dw B A:=fun n x hx=>by rwa [←eo]
 have up':dw A B:=fun n x hx=>by rwa [eo]
 have eav:args.map (af B)=args.map (af A):=j9 hag;rw[eav] at h;have cont:∀ r:I,bH P Y hs K (aq rest (B.aN dst r))→bH P Y hs K (aq (j::rest) (A.aN dst r)):=fun r hw=>by
  have h1:fe j (A.aN dst r) v:=hv.cu (fun n x hx=>by rwa [gx]) (lg hr);rw[h1.to hj,oD (fun d hd'=>fun e=>hd d e hd'),←hB];exact hw
 generalize e1:bI true B (args.map (af A))=a1 at h;generalize e2:bI false B (args.map (af A))=a2 at h;generalize hBm:B=B0 at h;cases h with
 |flat r hc hfl hw =>
  subst hBm;rw[kc cu e1];exact .flat r hc hfl (cont r hw)
 |lead r hc hw =>
  subst hBm;rw[kc cu e2];exact .lead r hc (cont r hw)
 |bx ρ cargs post hc hg ha hb hw =>
  rename_i ts os0;rw[hB] at hBm;obtain ⟨ts2,hA,hts⟩:=Wd hBm;have hA':=hA;clear cont;subst hA;refine .bx ρ cargs post hc hg (xH (A:=ay ts os0) (A':=ay ts2 os0) (fun n x hx=>hx) ha) hb fun r os' hp =>?_;have h1:fe j ((ay ts2 (c7 ρ os'++os0)).aN dst (r.aS (bp ρ))) v:=hv.cu (fun n x hx=>by
   rw[gx];exact XI (hb r os' hp) hx) (fun k hk=>by
    have:=lg (A:=ay ts2 (c7 ρ os'++os0)) (v:=r.aS (bp ρ)) hr k hk;rw[this];rfl)
  rw[h1.to hj,oD (fun d hd'=>fun e=>hd d e hd'),hts];exact hw r os' hp
 |vF aG ρ os cargs post hfs =>
  rw[hf] at hfs;cases hfs
theorem bH.qG{ao:ea}{A:ab}{j g:av}{rest:List av}(hinv:dq ao A)(hi:mA hs ao j g=true)(hw:bH P Y hs K (aq (j::g::rest) A)):bH P Y hs K (aq (g::j::rest) A):=by
 obtain ⟨hj,hl,i1,i2,i3⟩:=AN hi;obtain ⟨v,hv,hw⟩:=bH.wC hj hw;have ag:dv (A.aN j.dst v) A g.b6:=(lg i1).symm;have ag':dv A (A.aN j.dst v) g.b6:=lg i1;have cu:dw (A.aN j.dst v) A:=fun n x hx=>by rwa [gx] at hx
 have up':∀ (d:Option Nat) (u:I),dw A (A.aN d u):=fun d u n x hx=>by rwa [gx]
 by_cases hsg:ig g.op=true
 ·obtain ⟨u,hu,hw⟩:=bH.wC hsg hw;rw[(hu.cu cu ag).to hsg,(hv.cu (up' _ _) (lg i3)).to hj,←oD i2];exact hw
 ·-- the guard
  have guard:(fA (A.aN j.dst v) g∧aq (g::rest) (A.aN j.dst v)=aq rest ((A.aN j.dst v).aN g.dst .undef))∨(pass (A.aN j.dst v) g∧aq (g::rest) (A.aN j.dst v)=aV (A.aN j.dst v) g.dst g.op rest (aq rest))∨aq (g::rest) (A.aN j.dst v)=.fail:=by
   cases hg:g.guard with
   |none=>exact .inr (.inl ⟨by simp only[pass,hg],by simp only[aq,hg]⟩)
   |some tb =>
    obtain ⟨t,b⟩:=tb;cases ht:(A.aN j.dst v).t t with
    |bool b' =>
     by_cases hbb:b'=b
     ·subst hbb;have hp:pass (A.aN j.dst v) g:=by simp only[pass,hg,ht]
      exact .inr (.inl ⟨hp,mr hp⟩)
     ·have hn:fA (A.aN j.dst v) g:=by simp only[fA,hg];exact .inl (by rw[ht,ub hbb])
      exact .inl ⟨hn,qZ hn⟩
    |undef =>
     have hn:fA (A.aN j.dst v) g:=by simp only[fA,hg];exact .inr ht
     exact .inl ⟨hn,qZ hn⟩
    |_=>exact .inr (.inr (by simp only[aq,hg,ht]))
  rcases guard with ⟨hn,he⟩ | ⟨hp,he⟩ | he
  ·rw[he] at hw;rw[qZ (ov ag hn),(hv.cu (up' _ _) (lg i3)).to hj,←oD i2];exact hw
  ·rw[he] at hw;rw[mr (lY ag hp)];obtain ⟨dst,op,gd⟩:=g;simp only at hw hsg i2 i3 ⊢;cases op with
   |alloc z =>
    cases dst with
    |none=>simp only[aV] at hw;cases hw
    |some d =>
    simp only[aV] at hw ⊢;split at hw
    case h_2=>cases hw
    rename_i ho;rw[gx] at ho;simp only[ho];have h1:fe j ((A.aP d (.box z)).put d (.ptr d [])) v:=hv.cu (fun n y hy=>by
     have:n≠d:=fun he=>by rw[he,ho] at hy;cases hy
     simp only[ab.put,ab.aP,this,if_false];exact hy) (fun k hk=>by
     have:k≠d:=fun he=>i3 d rfl (he▸hk);simp only[ab.put,ab.aP,this,if_false])
    rw[h1.to hj];have e:((A.aN j.dst v).aP d (.box z)).put d (.ptr d [])=((A.aP d (.box z)).put d (.ptr d [])).aN j.dst v:=by
     cases hgd:j.dst with
     |none=>rfl
     |some e =>
      have hne:e≠d:=fun he=>i2 e hgd (by rw[he]);simp only[ab.aN,ab.put,ab.aP,ab.mk.injEq,and_true]
      funext k
      by_cases h1:k=e <;>by_cases h2:k=d <;>simp_all
    rw[←e];exact hw
   |box x =>
    have ex:af (A.aN j.dst v) x=af A x:=cz (av.iR ag');cases dst with
    |none=>simp only[aV] at hw;cases hw
    |some d =>
    simp only[aV] at hw ⊢;split at hw
    case h_2=>cases hw
    rename_i ho;rw[gx] at ho;simp only[ho];rw[ex] at hw;split at hw
    case isFalse=>cases hw
    rename_i hval;rw[if_pos hval];have h1:fe j ((A.aP d (.box (af A x))).put d (.ptr d [])) v:=hv.cu (fun n y hy=>by
     have:n≠d:=fun he=>by rw[he,ho] at hy;cases hy
     simp only[ab.put,ab.aP,this,if_false];exact hy) (fun k hk=>by
     have:k≠d:=fun he=>i3 d rfl (he▸hk);simp only[ab.put,ab.aP,this,if_false])
    rw[h1.to hj];have e:((A.aN j.dst v).aP d (.box (af A x))).put d (.ptr d [])=((A.aP d (.box (af A x))).put d (.ptr d [])).aN j.dst v:=by
     cases hgd:j.dst with
     |none=>rfl
     |some e =>
      have hne:e≠d:=fun he=>i2 e hgd (by rw[he]);simp only[ab.aN,ab.put,ab.aP,ab.mk.injEq,and_true]
      funext k
      by_cases h1:k=e <;>by_cases h2:k=d <;>simp_all
    rw[←e];exact hw
   |dU x =>
    have ex:af (A.aN j.dst v) x=af A x:=cz (av.iR ag');simp only[aV] at hw ⊢;rw[ex] at hw;cases hse:lr (af A x) with
    |none=>rw[hse] at hw;simp only[hZ] at hw;cases hw
    |some ys =>
    rw[hse] at hw;cases dst with
    |none=>simp only[hZ] at hw;cases hw
    |some d =>
    simp only[hZ] at hw ⊢;rw[gx] at hw;split at hw
    case h_2=>cases hw
    rename_i ho;refine .any fun m hm =>?_;have hw:=hw.qY m hm;generalize hbx:ai.box (.agg (ys++List.replicate m (.int .u8 0)))=aG at hw ⊢;generalize hvw:I.view d [] 1 0 ys.length=vw at hw ⊢;have h1:fe j ((A.aP d aG).aN (some d) vw) v:=hv.cu (fun n y hy=>by
     have:n≠d:=fun he=>by rw[he,ho] at hy;cases hy
     simp only[ab.aN,ab.put,ab.aP,this,if_false];exact hy) (fun k hk=>by
     have:k≠d:=fun he=>i3 d rfl (he▸hk);simp only[ab.aN,ab.put,ab.aP,this,if_false])
    rw[h1.to hj];have e:((A.aN j.dst v).aP d aG).aN (some d) vw=((A.aP d aG).aN (some d) vw).aN j.dst v:=by
     cases hgd:j.dst with
     |none=>rfl
     |some e =>
      have hne:e≠d:=fun he=>i2 e hgd (by rw[he]);simp only[ab.aN,ab.put,ab.aP,ab.mk.injEq,and_true]
      funext k
      by_cases h1:k=e <;>by_cases h2:k=d <;>simp_all
    rw[←e];exact hw
   |call f args =>
    simp only[aV] at hw ⊢;refine bH.H9 hj hv rfl (by simpa[mP,oj] using hl) (av.iR ag') i2 i3 hw
   |aR s y u =>
    cases dst with
    |some d=>simp only[aV] at hw;cases hw
    |none =>
    have ey:af (A.aN j.dst v) y=af A y:=cz (av.iR ag').l;have eu:af (A.aN j.dst v) u=af A u:=cz (av.iR ag').r;simp only[aV] at hw ⊢;rw[ey,eu,gx] at hw;cases hx:af A y <;>simp only[hx] at hw ⊢ <;>try (cases hw;done)
    rename_i n q;cases ho:A.o n with
    |none=>rw[ho] at hw;cases hw
    |some ob =>
    rw[ho] at hw;cases ob <;>simp only at hw ⊢ <;>try (cases hw;done)
    rename_i b;cases hb:b.at q with
    |none=>rw[hb] at hw;cases hw
    |some old =>
    rw[hb] at hw;simp only at hw ⊢;split at hw
    case isFalse=>cases hw
    rename_i hok;rw[if_pos hok];have h1:fe j (A.aP n (.box (b.du q (af A u)))) v:=by
     have none0:lS j.op=some []→fe j (A.aP n (.box (b.du q (af A u)))) v:=fun hm=>hv.vm (p:=fun _=>false) hm (fun _ _=>rfl) (fun s hs'=>by cases hs') (fun m hm=>by cases hm);cases y with
     |c y =>
      simp only[mP,oj,ig,Bool.false_or] at hl;split at hl
      ·rename_i hm;exact none0 hm
      ·cases hl
     |t y =>
      simp only[mP,oj,ig,Bool.false_or] at hl;split at hl
      ·rename_i hm;exact none0 hm
      ·split at hl
       case h_2=>cases hl
       rename_i ms hms;obtain ⟨xs,hm,hx2⟩:=xB hinv hl;refine hv.vm hm (fun _ _=>rfl) hx2 fun m hm2 =>?_;have hn:=hinv y ms hms;simp only[af] at hx;rw[hx] at hn;have:m≠n:=fun e=>by subst e;simp[I.only] at hn hm2;exact hm2 hn
       simp only[ab.aP,if_neg this]
    rw[h1.to hj];have e:(A.aN j.dst v).aP n (.box (b.du q (af A u)))=(A.aP n (.box (b.du q (af A u)))).aN j.dst v:=by cases j.dst <;>rfl
    rw[←e];exact hw
   |dL e esz bytes z s x =>
    have hag:dv A (A.aN j.dst v) (s.sl++x.sl):=av.iR ag';have he2:aV (A.aN j.dst v) dst (.dL e esz bytes z s x) rest (aq rest)=aV A dst (.dL e esz bytes z s x) (j::rest) fun B=>aq rest (B.aN j.dst v):=by
     cases hjd:j.dst with
     |none=>rfl
     |some d =>
      rw[hjd] at hag;exact Gd (fun e=>i2 d hjd e) hag rest (j::rest) (aq rest)
    rw[he2] at hw;have jI:∀ B,qP A dst (af A s) B→aq (j::rest) B=aq rest (B.aN j.dst v):=fun B hB=>by
     have hagB:dv A B j.b6:=fun k hk=>hB.1 k fun e=>i3 k e hk;have:fe j B v:=by
      simp only[mP,oj,ig,Bool.false_or,Bool.or_eq_true] at hl;rcases hl with hl | hl
      ·obtain ⟨xs,hm,hx2⟩:=xB hinv hl;exact hv.vm hm hagB hx2 fun m hm2=>by cases hm2
      ·have:=nr hinv hl;exact hv.cu (hB.2 (by simpa using this)) hagB
     rw[this.to hj]
    rcases xE A dst e esz bytes z s x (j::rest) with h1 | ⟨B,h1,h2⟩ | ⟨p,bl,h1,h2⟩
    ·rw[h1] at hw;cases hw
    ·rw[h1] at hw ⊢;rw[jI B h2];exact hw
    ·rw[h1] at hw ⊢;exact .any fun m hm=>by rw[jI _ (h2 m)];exact hw.qY m hm
   |_=>first | exact absurd rfl hsg | (simp[mP,oj,ig] at hl)
  ·rw[he] at hw;cases hw
theorem bH.pn{ao:ea}{g:av} : ∀ {l:List av} {r:List av} {A:ab},dq ao A→(∀ j∈l,mA hs ao j g=true∧gZ ao j=true)→bH P Y hs K (aq (l++g::r) A)→bH P Y hs K (aq (g::(l++r)) A)
 | [],r,A,_,_,h=>h
 |j::l,r,A,hinv,hi,h=>by
  have hj:=(AN (hi j (by simp)).1).1;obtain ⟨v,hv,h2⟩:=bH.wC (g:=j) (rest:=l++g::r) hj h;have h3:=bH.pn (l:=l) (r:=r) (hv.rW hinv (hi j (by simp)).2) (fun k hk=>hi k (by simp[hk])) h2;refine bH.qG hinv (hi j (by simp)).1 ?_;rw[hv.to hj];exact h3
end
def sw:List Nat→Bool
 | []=>true
 |a::l => !l.contains a&&sw l
def qV(hs:List FuncId)(ao:ea)(gs:List av)(cl:List Nat):List Nat→List Nat→Bool
 |_,[]=>true
 |before,i::σ=>(before.all fun j=>(cl.getD i 0).testBit j||mA hs ao (gs.getD j default) (gs.getD i default))&&qV hs ao gs cl (i::before) σ
def sH(hs:List FuncId)(ao:ea)(on:List (List Nat))(gs:List av)(cl:List Nat)(σ:List Nat):Bool :=
 (Nat.beq σ.length gs.length&&(sw σ&&(σ.all (fun i=>decide (i<gs.length))&&((List.range gs.length).all (fun i=>σ.contains i)&&gs.all fun g=>sF g.op&&gZ ao g))))&&(qV hs ao gs cl [] σ&&(List.range gs.length).all fun i=>(on.getD i []).all (fun k=>decide (k<i))&&Nat.beq (cl.getD i 0) (nt cl (on.getD i [])))
theorem Bt:∀ {l:List Nat},sw l=true→l.Nodup
 | [],_=>List.nodup_nil
 |a::l,h=>by
  simp only[sw,Z0,Bool.not_eq_true',List.contains_eq_mem,decide_eq_false_iff_not] at h;exact List.nodup_cons.2 ⟨h.1,Bt h.2⟩
theorem xy{hs:List FuncId}{ao:ea}{gs:List av}{cl:List Nat} : ∀ {σ before:List Nat},qV hs ao gs cl before σ=true→∀ s1 i s2,σ=s1++i::s2→∀ j,j∈before∨j∈s1→(cl.getD i 0).testBit j=true∨mA hs ao (gs.getD j default) (gs.getD i default)=true
 | [],_,_,s1,i,s2,e,_,_=>by cases s1 <;>cases e
 |a::σ,before,h,s1,i,s2,e,j,hj=>by
  simp only[qV,Z0,zy5,Bool.or_eq_true] at h;cases s1 with
  |nil =>
   simp only[zy7,zz8] at e;obtain ⟨rfl,rfl⟩:=e;rcases hj with hj | hj
   ·exact h.1 j hj
   ·cases hj
  |cons b s1 =>
   simp only[zz4,zz8] at e;obtain ⟨rfl,rfl⟩:=e;refine xy h.2 s1 i s2 rfl j ?_;rcases hj with hj | hj
   ·exact .inl (List.mem_cons_of_mem _ hj)
   ·rcases zx4.1 hj with hj | hj
    ·exact .inl (by rw[hj];exact List.mem_cons_self)
    ·exact .inr hj
def hU(σ:List Nat)(listed:Array Bool):List Nat:=σ.filter fun i => !listed.getD i true
def mS(gs:List av)(σ:List Nat)(listed:Array Bool):List av:=(hU σ listed).map fun i=>gs.getD i default
theorem Yb{σ:List Nat}{listed:Array Bool}{i:Nat}(hn:σ.Nodup)(hi:i∈σ)(hl:i<listed.size)(hu:listed.getD i true=false):∃ s1 s2,σ=s1++i::s2∧hU σ listed=(s1.filter fun j => !listed.getD j true)++i::(s2.filter fun j => !listed.getD j true) ∧
  hU σ (listed.setIfInBounds i true)=(s1.filter fun j => !listed.getD j true)++(s2.filter fun j => !listed.getD j true):=by
 obtain ⟨s1,s2,rfl⟩:=List.append_of_mem hi;have same:∀ j,j≠i→(listed.setIfInBounds i true).getD j true=listed.getD j true:=fun j hj=>getD_set_ne true (Ne.symm hj);have jJ:(listed.setIfInBounds i true).getD i true=true:=by simp[hl]
 have hnd:=List.nodup_append.1 hn;have h1:∀ j∈s1,j≠i:=fun j hj=>hnd.2.2 j hj i List.mem_cons_self;have h2:∀ j∈s2,j≠i:=fun j hj e=>(List.nodup_cons.1 hnd.2.1).1 (e▸hj);refine ⟨s1,s2,rfl,?_,?_⟩
 ·simp only[hU,List.filter_append,List.filter_cons,hu,Bool.not_false,if_true]
 ·simp only[hU,List.filter_append,List.filter_cons,jJ,Bool.not_true,Z8,if_false]
  congr 1
  ·exact List.filter_congr fun j hj=>by rw[same j (h1 j hj)]
  ·exact List.filter_congr fun j hj=>by rw[same j (h2 j hj)]
structure xr (hs:List FuncId) (ao:ea) (l:List Oper) (gs:List av) (σ:List Nat):Prop where
 Wm:σ.Nodup
 lt:∀ i∈σ,i<gs.length
 all:∀ i,i<gs.length→i∈σ
 ok:∀ g∈gs,sF g.op=true∧gZ ao g=true
 len:σ.length=gs.length
 kJ:∀ i o,l[i]?=some o→∀ k∈dG o,k<i
 vb:∀ (S:Nat→Prop),(∀ i o,l[i]?=some o→S i→∀ k∈dG o,S k)→∀ s1 i s2 o,σ=s1++i::s2→l[i]?=some o→(∀ k∈dG o,S k)→∀ j∈s1,¬ S j→mA hs ao (gs.getD j default) (gs.getD i default)=true
theorem XE{hs:List FuncId}{ao:ea}{l:List Oper}{gs:List av}{cl σ:List Nat}(hlen:gs.length=l.length)(h:sH hs ao (l.map dG) gs cl σ=true):xr hs ao l gs σ:=by
 simp only[sH,Z0,zy5,decide_eq_true_eq,List.mem_range,List.contains_eq_mem] at h;obtain ⟨⟨h1,h2,h3,h4,h5⟩,h6,h7⟩:=h;have bE:∀ i o,l[i]?=some o→(∀ k∈dG o,k<i)∧(∀ j,(cl.getD i 0).testBit j=true→j∈dG o∨∃ k∈dG o,(cl.getD k 0).testBit j=true):=by
  intro i o ho;have hi:i<l.length:=(Z6.1 ho).1;have h8:=h7 i (by omega);have hon:(l.map dG).getD i []=dG o:=by simp[zz6,ho]
  rw[hon] at h8;have hb:=Nat.eq_of_beq_eq_true h8.2;exact ⟨h8.1,fun j hj=>wU (by rw[←hb];exact hj)⟩
 refine ⟨Bt h2,h3,h4,h5,Nat.eq_of_beq_eq_true h1,fun i o ho=>(bE i o ho).1,?_⟩;intro S hS s1 i s2 o e ho hon j hj hnj;have key:∀ n i o,i≤n→l[i]?=some o→(∀ k∈dG o,S k)→∀ j,(cl.getD i 0).testBit j=true→S j:=by
  intro n
  induction n with
  |zero =>
   intro i o hi ho hon j hj;obtain ⟨h8,h9⟩:=bE i o ho;rcases h9 j hj with h | ⟨k,hk,_⟩
   ·exact hon j h
   ·have:=h8 k hk;omega
  |succ n ih =>
   intro i o hi ho hon j hj;obtain ⟨h8,h9⟩:=bE i o ho;rcases h9 j hj with h | ⟨k,hk,hjk⟩
   ·exact hon j h
   ·have hki:=h8 k hk;have hkl:k<l.length:=Nat.lt_trans hki (Z6.1 ho).1;obtain ⟨ok,hok⟩:∃ ok,l[k]?=some ok:=⟨l[k],zz2 hkl⟩
    exact ih k ok (by omega) hok (hS k ok hok (hon k hk)) j hjk
 rcases xy h6 s1 i s2 e j (.inr hj) with h | h
 ·exact absurd (key i i o (Z3 _) ho hon j h) hnj
 ·exact h
section
variable {c:cd}
theorem T8{K:ab→Prop}{hs:List FuncId}{ao:ea}{bh:Array Oper}{Q:Exit→Act→World→Prop}{o:Oper}{g:av}{rest:List av}{A:ab}{a:Act}{w:World}{Kw:Act→World→Prop}(hg:kM c.P c.n bh o=some g)(hi:dq ao A)(ho:sF g.op=true∧gZ ao g=true)(hwp:bH c.P c.Y hs K (aq (g::rest) A))(hs':bA c A a w)
  (hK:∀ B a' w',bH c.P c.Y hs K (aq rest B)→dq ao B→bA c B a' w'→Kw a' w'):if Region.wanted o (yielded bh a.tmps) then o.wpIn c.bl 9 c.P a w Kw Q else (∀ f,o.about c.P w a.eval=some f→c.bl.fn f)∧Kw (a.put o.dst undef) w:=by
 obtain ⟨h1,h2,h3,h4⟩:=nK hg;have step:bH c.P c.Y hs K (aV A g.dst g.op rest (aq rest))→o.wpIn c.bl 9 c.P a w Kw Q:=fun h =>
  rP h1 h2.symm (by rw[h2];exact h3) (bH.one (Y:=c.Y) hi ho.1 ho.2 h) hs' (fun B a' w' hw hs2=>by
   cases hw with
   |done hk=>exact hK B a' w' hk.1 hk.2 hs2)
 simp only[aq] at hwp;rcases h4 with ⟨h5,h6⟩ | ⟨j,b,t,h5,h6,h7⟩
 ·rw[h6] at hwp;have hw:Region.wanted o (yielded bh a.tmps)=true:=by simp[Region.wanted,h5]
  rw[hw,if_pos rfl];exact step hwp
 ·rw[h7] at hwp;simp only at hwp;split at hwp
  ·rename_i b' hb';rw[rU hs' h5 h6 hb'];split at hwp
   ·rename_i hbb;subst hbb;simp only[BEq.rfl,if_true];exact step hwp
   ·rename_i hbb;have:(b'==b)=false:=by simpa using hbb
    rw[this];simp only[Z8,if_false];exact ⟨fun f _=>kT c f,hK _ _ _ hwp (hi.put (fun _=>rfl) fun _ _ _ _=>rfl) (by rw[h2];exact hs'.l8 h3)⟩
  ·rename_i hb';rw[rV hs' h5 h6 hb'];simp only[Z8,if_false];exact ⟨fun f _=>kT c f,hK _ _ _ hwp (hi.put (fun _=>rfl) fun _ _ _ _=>rfl) (by rw[h2];exact hs'.l8 h3)⟩
  ·cases hwp
theorem F2{K:ab→Prop}{fs:List FuncId}{ao:ea}{bh:Array Oper}{gs:List av}{σ:List Nat}{Q:Exit→Act→World→Prop}(hQ:∀ B a w,K B→bA c B a w→Q .normal a w)(hgs:ff c.P c.n bh bh.toList=some gs)(hd:xr fs ao bh.toList gs σ) :
  ∀ (fuel:Nat) (listed:Array Bool) (A:ab) (a:Act) (w:World),listed.size=bh.size→(∀ i o,bh.toList[i]?=some o→listed.getD i false=true→∀ k∈dG o,listed.getD k false=true)→(hU σ listed).length≤fuel →
   dq ao A→bH c.P c.Y fs K (aq (mS gs σ listed) A)→bA c A a w→wpAnyIn c.bl 9 c.P .any bh Q fuel listed a w:=by
 obtain ⟨hlen,hat⟩:=lI hgs;have onOf_mem:∀ (o:Oper) (e:Edge),e∈o.after→Region.binds .any e=true→e.on∈dG o:=fun o e he hb=>by
  simp only[dG,zy1,List.mem_filter];exact ⟨e,⟨by simpa using he,hb⟩,rfl⟩
 have of_onOf:∀ (o:Oper) (k:Nat),k∈dG o→∃ e∈o.after,Region.binds .any e=true∧e.on=k:=fun o k hk=>by
  simp only[dG,zy1,List.mem_filter] at hk;obtain ⟨e,⟨h1,h2⟩,h3⟩:=hk;exact ⟨e,by simpa using h1,h2,h3⟩
 have hgl:gs.length=bh.size:=by rw[hlen,zy2]
 have last:∀ (listed:Array Bool) (A:ab) (a:Act) (w:World),listed.size=bh.size→Region.ready .any bh listed=[]→bH c.P c.Y fs K (aq (mS gs σ listed) A)→bA c A a w→Q .normal a w:=by
  intro listed A a w hsz hr hwp hs;have hnone:hU σ listed=[]:=by
   have all:∀ n,∀ i,i<n→i<bh.size→listed.getD i true=true:=by
    intro n
    induction n with
    |zero=>intro i hi;omega
    |succ n ih =>
     intro i hi his;cases hb:listed.getD i true with
     |true=>rfl
     |false =>
      exfalso
      have ho:bh[i]?=some bh[i]:=Array.getElem?_eq_getElem his;have:i∈Region.ready .any bh listed:=mem_ready.2 ⟨hb,bh[i],ho,fun e he hbd=>by
       have hlt:=hd.kJ i bh[i] (by simp) e.on (onOf_mem _ e he hbd);have h1:=ih e.on (by omega) (by omega);have h2:e.on<listed.size:=by omega
       simpa[Array.getD_eq_getD_getElem?,h2] using h1⟩
      rw[hr] at this;cases this
   simp only[hU];refine List.filter_eq_nil_iff.2 fun i hi =>?_;have:=all (i+1) i (by omega) (by rw[←hgl];exact hd.lt i hi);simp only[this,Bool.not_true,Z8,not_false_eq_true]
  simp only[mS,hnone,zz9,aq] at hwp;cases hwp with
  |done hk=>exact hQ A a w hk hs
 intro fuel
 induction fuel with
 |zero =>
  intro listed A a w hsz hcl hcnt hinv hwp hs;have hnone:hU σ listed=[]:=List.length_eq_zero_iff.1 (by omega);have hr:Region.ready .any bh listed=[]:=by
   refine List.eq_nil_iff_forall_not_mem.2 fun i hi =>?_;obtain ⟨h1,o,ho,_⟩:=mem_ready.1 hi;have:i∈hU σ listed:=by
    simp only[hU,List.mem_filter,h1,Bool.not_false,and_true];exact hd.all i (by rw[hgl];exact (zz3.1 ho).1)
   rw[hnone] at this;cases this
  exact ⟨hr,last listed A a w hsz hr hwp hs⟩
 |succ fuel ih =>
  intro listed A a w hsz hcl hcnt hinv hwp hs;refine ⟨fun hr=>last listed A a w hsz hr hwp hs,fun i hi =>?_⟩;obtain ⟨hun,o,ho,hall⟩:=mem_ready.1 hi;have hin:i<bh.size:=(zz3.1 ho).1;obtain ⟨s1,s2,hσ,e1,e2⟩:=Yb hd.Wm (hd.all i (by omega)) (by omega) hun;have hol:bh.toList[i]?=some o:=by simpa using ho
  obtain ⟨g,hgi,hcg⟩:=hat i o hol;have hon:∀ k∈dG o,listed.getD k false=true:=fun k hk=>by
   obtain ⟨e,h1,h2,h3⟩:=of_onOf o k hk;exact h3▸hall e h1 h2
  have hgd:gs.getD i default=g:=by simp[zz6,hgi]
  have hwp':bH c.P c.Y fs K (aq (g::mS gs σ (listed.setIfInBounds i true)) A):=by
   simp only[mS,e1,zy4,Z4,hgd] at hwp;simp only[mS,e2,zy4];refine bH.pn hinv (fun j hj =>?_) hwp;obtain ⟨k,hk,rfl⟩:=zy1.1 hj;obtain ⟨hk1,hk2⟩:=List.mem_filter.1 hk;have:=hd.vb (fun k=>listed.getD k false=true) hcl s1 i s2 o hσ hol hon k hk1 (by
    have hks:k<listed.size:=by
     have:=hd.lt k (by rw[hσ];exact List.mem_append_left _ hk1);omega
    simp[Array.getD_eq_getD_getElem?,hks] at hk2 ⊢;exact hk2)
   rw[hgd] at this;refine ⟨this,(hd.ok _ ?_).2⟩;have hkl:=hd.lt k (by rw[hσ];exact List.mem_append_left _ hk1);rw[zz6,zz2 hkl];exact List.getElem_mem _
  unfold wpOpIn;rw[ho];refine T8 hcg hinv (hd.ok g (List.mem_of_getElem? hgi)) hwp' hs fun B a' w' hw hiB hs'=>ih _ B a' w' (by simpa using hsz) ?_ ?_ hiB hw hs'
  ·intro m om hom hm k hk;by_cases hmi:m=i
   ·subst hmi;rw[hol,v6] at hom;subst hom;exact getD_set_true (hon k hk)
   ·rw[getD_set_ne false (Ne.symm hmi)] at hm;exact getD_set_true (hcl m om hom hm k hk)
  ·have:(hU σ listed).length=(hU σ (listed.setIfInBounds i true)).length+1:=by
    rw[e1,e2];simp;omega
   omega
def iA(σ:List Nat)(gs:List av):List av:=σ.map fun i=>gs.getD i default
theorem U.X8{Q:Exit→ab→Prop}{A:ab}{on:List (List Nat)}{gs:List av}(hs:List FuncId)(ao:ea)(cl σ:List Nat)(hd:sH hs ao on gs cl σ=true)(hi:dq ao A)(h:∀ K:ab→Prop,(∀ B,Q .normal B→K B)→bH c.P c.Y hs K (aq (iA σ gs) A)):U c (.bQ (some on) gs) Q A:=by
 intro code hc a w hs';cases code <;>simp only[dN] at hc <;>try (first | (cases hc;done) | ((repeat' split at hc) <;>cases hc;done))
 rename_i id bh draw;split at hc
 ·rename_i gs' hgs;split at hc
  case isFalse=>cases hc
  rename_i hok;simp only[v6,bj.bQ.injEq] at hc;obtain ⟨he,rfl⟩:=hc;cases draw with
  |false=>cases he
  |true =>
   simp only[cond_true,v6] at he;subst he;simp only[Bool.not_true,Bool.false_or] at hok;have hp:=XE (lI hgs).1 hd;refine wpIn_region_any hok (F2 (K:=Q .normal) (fun B a w hk hs=>⟨B,hk,hs⟩) hgs hp bh.size (Array.replicate bh.size false) A a _ (by simp) ?_ ?_ hi ?_ ?_)
   ·intro i o _ h
    exfalso
    simp only[Array.getD_eq_getD_getElem?,Array.getElem?_replicate] at h;split at h <;>simp at h
   ·refine Nat.le_trans (List.length_filter_le _ _) ?_;rw[hp.len,(lI hgs).1,zy2];exact Z3 _
   ·have hall:hU σ (Array.replicate bh.size false)=σ:=by
     simp only[hU];refine List.filter_eq_self.2 fun i hi =>?_;have h1:=hp.lt i hi;rw[(lI hgs).1,zy2] at h1;simp[h1]
    simp only[mS,hall];exact h _ fun _ hb=>hb
   ·obtain ⟨D,E,hs'⟩:=hs';exact ⟨D,E,hs'.grow (w' := { w with drawn:=w.drawn+1 }) ⟨rfl,rfl,rfl,Z3 _,fun _ _=>rfl⟩ (fun _ _ h=>h) (fun _ _ h _=>h) (fun b o h=>hs'.cM b o h)⟩
 ·cases hc
def gW(ts:List (Nat×I)):ea→Prop
 | []=>True
 |(s,ns)::ao=>(b8 ts s).only (fun n=>ns.contains n)=true∧gW ts ao
theorem dq.of{ts:List (Nat×I)}{os:List (Nat×ai)}{ao:ea}(h:gW ts ao):dq ao (ay ts os):=by
 intro s ns hn;simp only[ay]
 induction ao with
 |nil=>cases hn
 |cons q ao ih =>
  obtain ⟨s',ns'⟩:=q;simp only[gW] at h;simp only[gH,List.find?_cons] at hn;split at hn
  ·rename_i e;simp only[Z9,v6] at hn;simp only[beq_iff_eq] at e;subst e hn;exact h.1
  ·exact ih h.2 hn
end
end Go.Abs
namespace Go.Abs
open Go Go.RowKit
open Enc (enc)
theorem Yx{P:Program}(w:World)(tS tR e:TypeId)(ht:P.underlying tS=some (.slice e))(size:Nat)(hz:∀ w,(Go.sizeOf e).run P w=.ok size w)
  (a b:Addr) (la ca lb cb:Nat) (hne:a.block≠b.block) (tA tB:TypeId) (kA kB:Nat) (hsa:w.shape? a.block=some (tA,kA+1)) (hsb:w.shape? b.block=some (tB,kB+1)) (hfb:w.frozen? b=false) (hfe:w.frozen? { block:=b.block,off:=kB+1 } = false) :
  (Extern.SlicesOverlaps.overlaps #[tS,tS] #[tR] #[.slice (some a) la ca,.slice (some b) lb cb]).run P w=.ok (.bool false) w:=by
 have hnb:(a.block != b.block)=true:=by simpa using hne
 have hnb':(a.block==b.block)=false:=by simpa using hne
 change Sem.run P (α:=Value) (do
  let some t := (#[tS, tS] : Array TypeId)[0]? | stuck "slices.overlaps: no parameter types"
  let .slice elem ← underlying t | stuck "slices.overlaps: slice type expected"
  let size ←sizeOf elem
  match (some a:Option Addr),(some b:Option Addr) with
  |some a,some b =>
   if la=0∨lb=0∨size=0 then pure (Value.bool false)
   else if a.block != b.block&&(←frozen a)&&(←frozen b) then unsupported .addressObserved
   else do
    if a.block != b.block then do
     noView a;noView b
     if ← mayBeOne a b then return Value.bool ((← choose (.extern "sameAddr.stringBytes" 2)) == 1)
    pure (Value.bool (a.block==b.block&&a.off<b.off+lb*size&&b.off<a.off+la*size))
  |_,_=>pure (Value.bool false)) w=_
 by_cases h0:la=0∨lb=0∨size=0
 ·simp[run_underlying ht,hz,h0]
 ·cases hfa:w.frozen? a <;>cases hfk:w.frozen? { block:=a.block,off:=kA+1 } <;>
   simp[run_underlying ht,hz,h0,hnb,hnb',frozen,noView,viewAt,mayBeOne,stringish,shape,Sem.run,hsa,hsb,hfa,hfb,hfe,hfk]
theorem DG{P:Program}(w:World)(tS tR e:TypeId)(ht:P.underlying tS=some (.slice e))(size:Nat)(hz:∀ w,(Go.sizeOf e).run P w=.ok size w)(a:Option Addr)(b:Addr)(ca lb cb:Nat) :
  (Extern.SlicesOverlaps.overlaps #[tS,tS] #[tR] #[.slice a 0 ca,.slice (some b) lb cb]).run P w=.ok (.bool false) w:=by
 cases a with
 |none =>
  change Sem.run P (α:=Value) (do
   let some t := (#[tS, tS] : Array TypeId)[0]? | stuck "slices.overlaps: no parameter types"
   let .slice elem ← underlying t | stuck "slices.overlaps: slice type expected"
   let size ←sizeOf elem
   pure (Value.bool false)) w=_
  simp[run_underlying ht,hz]
 |some a =>
  change Sem.run P (α:=Value) (do
   let some t := (#[tS, tS] : Array TypeId)[0]? | stuck "slices.overlaps: no parameter types"
   let .slice elem ← underlying t | stuck "slices.overlaps: slice type expected"
   let size ←sizeOf elem
   if (0:Nat)=0∨lb=0∨size=0 then pure (Value.bool false)
   else if a.block != b.block&&(←frozen a)&&(←frozen b) then unsupported .addressObserved
   else do
    if a.block != b.block then do
     noView a;noView b
     if ← mayBeOne a b then return Value.bool ((← choose (.extern "sameAddr.stringBytes" 2)) == 1)
    pure (Value.bool (a.block==b.block&&a.off<b.off+lb*size&&b.off<a.off+0*size))) w=_
  simp[run_underlying ht,hz]
theorem YG{w:World}{b o:Nat}{v:Value}(h:w.cell? ⟨b,o,none⟩=some v):∃ t k,w.shape? b=some (t,k+1):=by
 simp only[World.cell?] at h;cases hb:w.heap[b]? with
 |none=>rw[hb] at h;cases h
 |some ob =>
  rw[hb] at h;cases ob with
  |cells cs T fr =>
   simp only at h;have hlt:o<cs.size:=(zz3.1 (by simpa using h)).1;exact ⟨T,cs.size-1,by simp only[World.shape?,hb];congr 2;omega⟩
  |_=>cases h
theorem Mo{α:Type}[Enc α]{xs:List α}(h:xs≠[])(hs:(Enc.aK α).AU=false):(I.agg (xs.map Enc.enc)).aK.flat=false:=by
 cases xs with
 |nil=>exact absurd rfl h
 |cons x xs=>simp only[Z4,I.aK,I.cL,bN.flat,List.all_cons,Enc.iE,hs,Bool.false_and]
theorem Zc {P : Program} {f : FuncId} {fn : Func} {tS tR e : TypeId} (hf : P.funcs[f]? = some fn) (hname : (fn.name == "runtime.NumGoroutine") = false) (hb : fn.body.isNone = true) (hn : Extern.findNext fn = none) (he : Extern.find fn = some (Extern.SlicesOverlaps.overlaps #[tS, tS] #[tR]))
  (ht:P.underlying tS=some (.slice e)) (hi:(P.info? e).isSome=true) {A:ab} {n sz sz' lo k:Nat} {p:List Nat} {y:I} {es fs:List I} (hA:A.o n=some (.box y)) (hat:y.at p=some (.agg fs)) (hy:y.size≠0) (hsz:sz'≠0) (hfl:y.aK.flat=false):xv P A f [.slice sz' es,.view n p sz lo k] (.bool false):=by
 intro c a w D E vs hP hs hargs;subst hP;obtain ⟨i,hi⟩:=zz7.1 hi;have hz:∀ w,(Go.sizeOf e).run c.P w=.ok i.size w:=fun w=>by simp[sizeOf,typeInfo,hi]
 cases hargs with
 |cons h1 hrest =>
  cases hrest with
  |cons h2 hnil =>
   cases hnil;rename_i v1 v2;refine ⟨.bool false,?_,kh false⟩;rw[run_callFunc_extern hf hname hb hn he];obtain ⟨ad,cap,rfl,c1,c2,c3,c4⟩:=kr h1;obtain ⟨y',b,cs,T,off,d1,d2,d3,q1,q2,q3,q4,q5,q6,q7,q8,q9,q10,q11,q12,rfl⟩:=hs.view (fs:=fs) h2 (by simp only[bR,hA,hat]);rw[hA] at q1;simp only[v6,ai.box.injEq] at q1;subst q1;rcases c3 with rfl | ⟨b1,off1,cs1,rfl,r1,iC⟩
   ·rw[zy6,DG w tS tR e ht i.size hz];rfl
   ·cases es with
    |nil=>rw[zy6,DG w tS tR e ht i.size hz];rfl
    |cons e0 es =>
     have hl:=aB.length _ _ iC;have he0:=c4 e0 (by simp);have hpos:0<cs1.length:=by rw[hl];simp only[I.sizes];omega
     have hc:=r1 0 cs1[0] (zz2 hpos);obtain ⟨tA,kA,hsa⟩:=YG hc.1;have ho:=hs.bx n;rw[hA] at ho;obtain ⟨b',cs',T',k1,k2,k3,k4,k5⟩:=ho;rw[q2] at k1;simp only[v6,bt.aG.injEq,and_true] at k1;subst k1;have hne:b1≠b:=fun e1=>k5 _ (e1▸hc.2);have hcs:cs.size≠0:=by
      have:=ae.length _ _ q9;rw[zy2] at this;omega
     replace q3:=q3.plain hfl
     obtain ⟨kB,hkB⟩:∃ kB,cs.size=kB+1:=⟨cs.size-1,by omega⟩
     rw[Yx w tS tR e ht i.size hz ⟨b1,off1,none⟩ ⟨b,off+lo*sz,none⟩ _ _ _ _ hne tA T kA kB hsa (by simp only[World.shape?,q3,hkB]) (by simp[World.frozen?,q3]) (by simp[World.frozen?,q3])];rfl
noncomputable def tT(A:ab)(d:Option Nat)(esz bytes:Nat)(z s:I)(rest:List av):I→bW
 | .int _ m=>pg A d esz bytes z m.toNat s (cR A esz s) (aq rest)
 |_=>.fail
theorem Wt(A:ab)(d:Option Nat)(rest:List av)(e esz bytes:Nat)(z:I)(s n:aw):bn A d (.jA e esz bytes z s n) rest=tT A d esz bytes z (af A s) rest (af A n):=by
 simp only[bn,aV];cases af A n <;>rfl
theorem Xb(A:ab)(d:Option Nat)(rest:List av)(f:FuncId)(args:List aw):bn A d (.gA f args) rest=.gA f (args.map (af A)) d rest A:=rfl
def rl(A:ab):I→Option I
 | .nils _ | .c0 _=>some (.int .i64 ((0:Nat):Int))
 | .view n p _ lo _=>match eg (dA p (A.o n)) with
  |some fs=>some (.int .i64 ((fs.length-lo:Nat):Int))
  |none=>none
 |_=>none
theorem WA(A:ab)(d:Option Nat)(rest:List av)(x:aw):bn A d (.cap x) rest=b7 (rl A (af A x)) (cC d rest A):=by
 simp only[bn,aV,aU];cases af A x <;>try rfl
 rename_i n p sz l0 k;simp only[rl,jG,ft];cases dA p (A.o n) with
 |none=>rfl
 |some c=>cases c <;>rfl
theorem lU(A:ab)(d:Option Nat)(rest:List av)(esz:Nat)(x y:aw):bn A d (.fS esz x y) rest=j6 A d esz (aq rest) (af A x) (jY A esz (af A y)):=rfl
section
variable {α:Type} [Enc α] {P:Program} {Y:Value→List I→List (Nat×ai)→bY→Prop} {K:ab→Prop} {A:ab} {rest:List av} {esz bytes:Nat}
theorem Ig{n lo k sz:Nat}{xs:List α}(ho:A.o n=some (.box (.agg (xs.map enc)))):rl A (.view n [] sz lo k)=some (.int .i64 ((xs.length-lo:Nat):Int)):=by
 have h2:(I.agg (xs.map (enc (α:=α)))).at []=some (.agg (xs.map enc)):=rfl;simp only[rl,dA,ho,h2,eg,I.db,Z2]
theorem nk{n lo k:Nat}{xs:List α}(ho:A.o n=some (.box (.agg (xs.map enc))))(h:lo+k≤xs.length):cR A esz (.view n [] esz lo k)=some (((xs.drop lo).take k).map enc):=by
 have h1:bR A (.ptr n [])=some (.agg (xs.map enc)):=by simp only[bR,ho];rfl
 simp only[cR,h1,Z2];rw[if_pos ⟨h,trivial⟩,List.map_take,List.map_drop]
theorem D5{xs ys:List α}(h:xs.length=ys.length):I.cL (xs.map enc)=I.cL (ys.map enc):=by
 rw[wz,wz,h]
theorem nN{d:Option Nat}{n lo l c:Nat}{xs ys:List α}(ho:A.o n=some (.box (.agg (xs.map enc))))(hl:lo+l≤xs.length)(hc:min ys.length l=c) :
  j6 A d esz (aq rest) (.view n [] esz lo l) (some (ys.map enc))=aq rest ((A.aP n (.box (.agg ((xs.take lo++(ys.take c++xs.drop (lo+c))).map enc)))).aN d (.int .i64 (c:Nat))):=by
 have h2:(I.agg (xs.map (enc (α:=α)))).at []=some (.agg (xs.map enc)):=rfl;have h1:I.cL ((ys.map (enc (α:=α))).take c)=I.cL (((xs.map (enc (α:=α))).drop lo).take c):=by
  rw[←List.map_take,←List.map_drop,←List.map_take];exact D5 (by rw[Z7,Z7,zx5];omega)
 have hc':min (ys.map (enc (α:=α))).length l=c:=by rw[Z2];exact hc
 simp only[j6,ho,h2,hc'];rw[if_pos ⟨rfl,by rw[hc'];exact h1⟩];have h3:((ys.map (enc (α:=α))).take c).length=c:=by rw[Z7,Z2];omega
 simp only[ib,fo,h3,zy4,List.map_take,List.map_drop]
theorem aY.Gf{d:Nat}(z:α)(hs:Enc.sz α=esz){n l m:Nat}{xs:List α}(ho:A.o n=some (.box (.agg (xs.map enc))))(hl:l≤xs.length)(hm:0<m)(hr:xs.length<l+m)(hf:A.o d=none)(hb:(l+m)*bytes≤140737488355328)(hml:l+m≤maxLen)
  (h:∀ q,aY P Y false K (aq rest ((A.aP d (.box (.agg ((xs.take l++(List.replicate m z++List.replicate q z)).map enc)))).aN (some d) (.view d [] esz 0 (l+m))))):aY P Y false K (tT A (some d) esz bytes (enc z) (.view n [] esz 0 l) rest (.int .i64 (m:Nat))):=by
 have h1:=nk (A:=A) (esz:=esz) (lo:=0) (k:=l) ho (by omega);have h2:(I.agg (xs.map (enc (α:=α)))).at []=some (.agg (xs.map enc)):=rfl;have h4:(xs.take l).length=l:=by rw[Z7];omega
 simp only[tT,h1,List.drop_zero,pg,ho,h2,Z2,Int.toNat_natCast];rw[if_pos ⟨hm,by omega⟩];simp only[eL,hf,Z2,h4,List.length_replicate];rw[if_pos ⟨hb,hml⟩];refine .any rfl fun q _ =>?_;have:=h q;simp only[zy4,List.map_replicate] at this;exact this
theorem xD{d:Option Nat}{e:Nat}(z:I)(hs:Enc.sz α=esz){n l:Nat}{xs ys:List α}(hy:ys≠[])(ho:A.o n=some (.box (.agg (xs.map enc))))(hr:l+ys.length≤xs.length) :
  eM A d e esz bytes z (enc ys) rest (.view n [] esz 0 l)=aq rest ((A.aP n (.box (.agg ((xs.take l++(ys++xs.drop (l+ys.length))).map enc)))).aN d (.view n [] esz 0 (l+ys.length))):=by
 have h1:=nk (A:=A) (esz:=esz) (lo:=0) (k:=l) ho (by omega);have h2:(I.agg (xs.map (enc (α:=α)))).at []=some (.agg (xs.map enc)):=rfl;have h3:I.cL (ys.map (enc (α:=α)))=I.cL (((xs.map (enc (α:=α))).drop l).take ys.length):=by
  rw[←List.map_drop,←List.map_take];exact D5 (by rw[Z7,zx5];omega)
 simp only[eM,h1,ky A esz ys hs,eb];rw[if_neg (by simpa using hy)];simp only[ho,h2,Z2,Z5];rw[if_pos hr,if_pos ⟨rfl,by rw[Z2,Z5];exact h3⟩];simp only[ib,fo,Z2,zy4,List.map_take,List.map_drop]
theorem aY.F6{d e:Nat}(z:α)(hs:Enc.sz α=esz){n l:Nat}{xs ys:List α}(hy:ys≠[])(ho:A.o n=some (.box (.agg (xs.map enc))))(hl:l≤xs.length)(hr:xs.length<l+ys.length)(hf:A.o d=none)(hb:(l+ys.length)*bytes≤140737488355328)(hml:l+ys.length≤maxLen)
  (h:∀ q,aY P Y false K (aq rest ((A.aP d (.box (.agg ((xs.take l++(ys++List.replicate q z)).map enc)))).aN (some d) (.view d [] esz 0 (l+ys.length))))):aY P Y false K (eM A (some d) e esz bytes (enc z) (enc ys) rest (.view n [] esz 0 l)):=by
 have h1:=nk (A:=A) (esz:=esz) (lo:=0) (k:=l) ho (by omega);have h2:(I.agg (xs.map (enc (α:=α)))).at []=some (.agg (xs.map enc)):=rfl;have h4:(xs.take l).length=l:=by rw[Z7];omega
 simp only[eM,h1,List.drop_zero,ky A esz ys hs,eb];rw[if_neg (by simpa using hy)];simp only[ho,h2,Z2,Z5];rw[if_neg (by omega)];simp only[eL,hf,Z2,h4];rw[if_pos ⟨hb,hml⟩];refine .any rfl fun q _ =>?_;have:=h q;simp only[zy4,List.map_replicate] at this;exact this
theorem aY.F7{d e q0:Nat}(z:α){l:List α}(hs:Enc.sz α=esz)(hl:l≠[])(hf:A.o d=none)(hb:l.length*bytes≤140737488355328)(hml:l.length≤maxLen)
  (h:∀ m,aY P Y false K (aq rest ((A.aP d (.box (.agg ((l++List.replicate m z).map enc)))).aN (some d) (.view d [] esz 0 l.length)))):aY P Y false K (eM A (some d) e esz bytes (enc z) (enc l) rest (.nils q0)):=by
 have hne:l.map (enc (α:=α))≠[]:=by simpa using hl
 have h1:cR A esz (.nils q0)=some []:=rfl;simp only[eM,h1,ky A esz l hs,eb,if_neg hne,eL,hf,zy6,Z5,Z2,if_pos (y6 hb hml),zy7];refine .any rfl fun m _ =>?_;have:=h m;simp only[zy4,List.map_replicate] at this;exact this
end
theorem YJ{n:Nat}{p:List Nat}{sz k total i:Nat}(h:i≤k)(hk:k≤total):∃ y,iG n p sz 0 k total (some (.int .i64 i)) none none=some y:=by
 simp only[iG,gR];rw[if_pos ⟨by omega,by omega,by omega⟩];split <;>exact ⟨_,rfl⟩
theorem Bj(k:Nat):b8 [] k=.cX:=rfl
def fY(ao:List Nat):List (Nat×I)→List (Nat×I)
 | []=>[]
 |(s,v)::ts=>if ao.contains s=true then (s,v)::fY ao ts else fY ao ts
theorem VD(ao:List Nat):fY ao []=[]:=rfl
theorem VC(ao:List Nat)(s:Nat)(v:I)(ts:List (Nat×I)):fY ao ((s,v)::ts)=if ao.contains s=true then (s,v)::fY ao ts else fY ao ts:=rfl
theorem Bi(ao:List Nat)(t:Nat):∀ ts,b8 (fY ao ts) t=.cX∨b8 (fY ao ts) t=b8 ts t
 | []=>.inl rfl
 |(s,v)::ts=>by
  simp only[fY];have ih:=Bi ao t ts;by_cases hs:ao.contains s=true
  ·rw[if_pos hs];simp only[b8];split
   ·exact .inr rfl
   ·exact ih
  ·rw[if_neg hs];simp only[b8];split
   ·rename_i e;subst e
    left
    have:∀ ts,b8 (fY ao ts) t=.cX:=by
     intro ts
     induction ts with
     |nil=>rfl
     |cons q ts ih2 =>
      obtain ⟨s',v'⟩:=q;simp only[fY];split
      ·rename_i h';simp only[b8];have:t≠s':=fun e=>hs (e▸h');rw[if_neg this];exact ih2
      ·exact ih2
    exact this ts
   ·exact ih
theorem U.pS(ao:List Nat){c:cd}{x:bj}{Q:Exit→ab→Prop}{ts:List (Nat×I)}{os:List (Nat×ai)}(h:U c x Q (ay (fY ao ts) os)):U c x Q (ay ts os):=by
 refine U.sub ?_ h;rintro cc a w ⟨D,E,hs⟩;refine ⟨D,E,hs.sz,hs.ee,fun t =>?_,hs.di,hs.cJ,hs.cM,hs.bx,hs.cv,hs.dx,hs.eE,hs.cu,hs.eH,hs.eY⟩;simp only[ay];rcases Bi ao t ts with e | e
 ·rw[e];simp[aQ]
 ·rw[e];exact hs.dz t
theorem AX:(∀ ao,fY ao []=[])∧(∀ ao s v ts,fY ao ((s,v)::ts)=if ao.contains s=true then (s,v)::fY ao ts else fY ao ts)∧(∀ (a:Nat) l b,(a::l).contains b=(b==a||l.contains b))∧(∀ b:Nat,([]:List Nat).contains b=false)∧(∀ b,(false||b)=b)∧(∀ b,(true||b)=true)∧(∀ b,(b||true)=true)∧(∀ b,(b||false)=b)∧((false=true)=False) :=
 ⟨VD,VC,fun _ _ _=>List.contains_cons,fun _=>rfl,fun _=>rfl,fun _=>rfl,fun b=>by cases b <;>rfl,fun b=>by cases b <;>rfl,by simp⟩
end Go.Abs
namespace Go.Abs
open Go Go.RowKit
open Enc (enc)
def vn:Option ai→Option (List I×List I)
 |some (.bZ ks vs)=>some (ks,vs)
 |_=>none
noncomputable def vA(A:ab)(n:Nat)(rest:List av):Option (List I×List I)→bW
 |some (ks,vs)=>aq rest (A.aP n (.bZ ks vs))
 |none=>.fail
noncomputable def vz(A:ab)(n:Nat)(ty:bX)(k v:I)(rest:List av):Option ai→bW
 |some (.bZ ks vs)=>vA A n rest (p5 ty k v ks vs)
 |_=>.fail
noncomputable def vy(A:ab)(ty:bX)(k v:I)(rest:List av):I→bW
 | .mref n=>vz A n ty k v rest (A.o n)
 |_=>.fail
noncomputable def vu(A:ab)(d:Nat)(rest:List av):Option ai→bW
 |none=>aq rest ((A.aP d (.bZ [] [])).put d (.mref d))
 |some _=>.fail
open Classical in
noncomputable def sr(A:ab)(d bytes:Nat)(z:I)(rest:List av):I→bW
 | .int _ n=>if 0≤n∧n.toNat*bytes≤281474976710656∧n.toNat≤maxLen then aq rest ((A.aP d (.box (.agg (List.replicate n.toNat z)))).put d (.view d [] 1 0 n.toNat)) else .fail
 |_=>.fail
noncomputable def sq(A:ab)(d bytes:Nat)(z n:I)(rest:List av):Option ai→bW
 |none=>sr A d bytes z rest n
 |some _=>.fail
noncomputable def wb(A:ab)(d:Nat)(rest:List av):I→bW
 | .cZ ks vs=>aq rest ((A.aP d (.it ks vs (List.range ks.length) none)).put d (.cU d))
 |_=>.fail
noncomputable def sX(A:ab)(d:Nat)(x:I)(rest:List av):Option ai→bW
 |none=>wb A d rest x
 |some _=>.fail
def uC:Option ai→Option I
 |some (.it ks vs _ cur)=>rB ks vs cur
 |_=>none
def uB(A:ab):I→Option I
 | .cU n=>uC (A.o n)
 |_=>none
open Classical in
noncomputable def Bx(A:ab)(d:Option Nat)(n:Nat)(rest:List av):Option ai→bW
 |some (.it ks vs left _)=>if left=[] then aq rest (A.aN d (.tuple [.bool false])) else
   .any (fun i=>i∈left) fun i=>match ks[i]?,vs[i]? with
    |some kk,some x=>aq rest ((A.aP n (.it ks vs (left.filter (· != i)) (some i))).aN d (.tuple [.bool true,kk,x]))
    |_,_=>.fail
 |_=>.fail
noncomputable def vE(A:ab)(d:Option Nat)(rest:List av):I→bW
 | .cU n=>Bx A d n rest (A.o n)
 |_=>.fail
section
variable (d:Option Nat) (rest:List av) (A:ab)
theorem WW(x:aw):bn A d (.nilC x) rest=b7 (mH (af A x)) (cC d rest A):=rfl
theorem W5(neg:Bool)(x y:aw):bn A d (.ptrE neg x y) rest=b7 (lZ neg (gX (af A x)) (gX (af A y))) (cC d rest A):=rfl
theorem WQ(ty:bX)(z:I)(ok:Bool)(m k:aw):bn A d (.lk ty z ok m k) rest=b7 (pV ty z ok (af A k) (fK A (af A m))) (cC d rest A):=rfl
theorem V8(n:Nat):fK A (.mref n)=vn (A.o n):=by
 simp only[fK];cases A.o n with
 |none=>rfl
 |some y=>cases y <;>rfl
theorem WU(ty:bX)(m k v:aw):bn A none (.jO ty m k v) rest=vy A ty (af A k) (af A v) rest (af A m):=by
 simp only[bn,aV];cases af A m <;>rfl
theorem WS(d:Nat):bn A (some d) .ki rest=vu A d rest (A.o d):=by
 simp only[bn,aV];cases A.o d <;>rfl
theorem WT(d e bytes:Nat)(z:I)(n:aw):bn A (some d) (.jq e bytes z n) rest=sq A d bytes z (af A n) rest (A.o d):=by
 simp only[bn,aV];cases A.o d with
 |some _=>rfl
 |none=>simp only[sq];cases af A n <;>rfl
theorem W6(d:Nat)(x:aw):bn A (some d) (.jW x) rest=sX A d (af A x) rest (A.o d):=by
 simp only[bn,aV];cases A.o d with
 |some _=>rfl
 |none=>simp only[sX];cases af A x <;>rfl
theorem WD(x:aw):bn A d (.ent x) rest=b7 (uB A (af A x)) (cC d rest A):=by
 simp only[bn,aV,aU];cases af A x <;>rfl
theorem WY(x:aw):bn A d (.jP x) rest=vE A d rest (af A x):=by
 simp only[bn,aV];cases af A x <;>rfl
end
theorem lR :
  (∀ d rest A x,bn A d (.nilC x) rest=b7 (mH (af A x)) (cC d rest A))∧(∀ n p,mH (.ptr n p)=some (.ptr n p))∧(∀ x,mH (.ref x)=some (.ref x)) ∧
  (∀ d rest A neg x y,bn A d (.ptrE neg x y) rest=b7 (lZ neg (gX (af A x)) (gX (af A y))) (cC d rest A))∧(gX .nilp=some true)∧(∀ n p,gX (.ptr n p)=some false)∧(∀ x,gX (.ref x)=some false) ∧
  (lZ false (some true) (some true)=some (.bool true))∧(lZ false (some false) (some true)=some (.bool false))∧(lZ true (some true) (some true)=some (.bool false))∧(lZ true (some false) (some true)=some (.bool true)) ∧
  (∀ d rest A ty z ok m k,bn A d (.lk ty z ok m k) rest=b7 (pV ty z ok (af A k) (fK A (af A m))) (cC d rest A))∧(∀ A n,fK A (.mref n)=vn (A.o n))∧(∀ A ks vs,fK A (.cZ ks vs)=some (ks,vs))∧(∀ ks vs,vn (some (.bZ ks vs))=some (ks,vs)) ∧
  (∀ ty z ok k ks vs,pV ty z ok k (some (ks,vs))=pW ok (pX ty z k ks vs))∧(∀ v b,pW false (some (v,b))=some v)∧(∀ v b,pW true (some (v,b))=some (.tuple [v,.bool b])) ∧
  (∀ rest A ty m k v,bn A none (.jO ty m k v) rest=vy A ty (af A k) (af A v) rest (af A m))∧(∀ A ty k v rest n,vy A ty k v rest (.mref n)=vz A n ty k v rest (A.o n))∧(∀ A n ty k v rest ks vs,vz A n ty k v rest (some (.bZ ks vs))=vA A n rest (p5 ty k v ks vs)) ∧
  (∀ A n rest ks vs,vA A n rest (some (ks,vs))=aq rest (A.aP n (.bZ ks vs))) ∧
  (∀ rest A d,bn A (some d) .ki rest=vu A d rest (A.o d))∧(∀ A d rest,vu A d rest none=aq rest ((A.aP d (.bZ [] [])).put d (.mref d))) ∧
  (∀ rest A d e bytes z n,bn A (some d) (.jq e bytes z n) rest=sq A d bytes z (af A n) rest (A.o d))∧(∀ A d bytes z n rest,sq A d bytes z n rest none=sr A d bytes z rest n) ∧
  (∀ rest A d x,bn A (some d) (.jW x) rest=sX A d (af A x) rest (A.o d))∧(∀ A d x rest,sX A d x rest none=wb A d rest x)∧(∀ A d rest ks vs,wb A d rest (.cZ ks vs)=aq rest ((A.aP d (.it ks vs (List.range ks.length) none)).put d (.cU d))) ∧
  (∀ d rest A x,bn A d (.ent x) rest=b7 (uB A (af A x)) (cC d rest A))∧(∀ A n,uB A (.cU n)=uC (A.o n))∧(∀ ks vs l cur,uC (some (.it ks vs l cur))=rB ks vs cur) ∧
  (∀ d rest A x,bn A d (.jP x) rest=vE A d rest (af A x))∧(∀ A d rest n,vE A d rest (.cU n)=Bx A d n rest (A.o n)) :=
 ⟨WW,fun _ _=>rfl,fun _=>rfl,W5,rfl,fun _ _=>rfl,fun _=>rfl,rfl,rfl,rfl,rfl,WQ,V8,fun _ _ _=>rfl,fun _ _=>rfl,fun _ _ _ _ _ _=>rfl,fun _ _=>rfl,fun _ _=>rfl,
  fun rest A ty m k v=>WU rest A ty m k v,fun _ _ _ _ _ _=>rfl,fun _ _ _ _ _ _ _ _=>rfl,fun _ _ _ _ _=>rfl,fun rest A d=>WS rest A d,fun _ _ _=>rfl,fun rest A d e bytes z n=>WT rest A d e bytes z n,fun _ _ _ _ _ _=>rfl,
  fun rest A d x=>W6 rest A d x,fun _ _ _ _=>rfl,fun _ _ _ _ _=>rfl,WD,fun _ _=>rfl,fun _ _ _ _=>rfl,WY,fun _ _ _ _=>rfl⟩
theorem su{A:ab}{d bytes:Nat}{z:I}{rest:List av}{n:Nat}(h1:n*bytes≤281474976710656)(h2:n≤maxLen):sr A d bytes z rest (.int .i64 n)=aq rest ((A.aP d (.box (.agg (List.replicate n z)))).put d (.view d [] 1 0 n)):=by
 simp only[sr,Int.toNat_natCast];rw[if_pos ⟨Int.natCast_nonneg n,h1,h2⟩]
section
variable {α:Type} [Enc α]
theorem Em{A:ab}{n i:Nat}{xs:List α}(v u:α){rest:List av}(hA:Enc.gq α=false)(h:i<xs.length):ev A none n [i] (.agg (xs.map enc)) (enc v) rest (some (enc u))=aq rest (A.aP n (.box (.agg ((xs.set i v).map enc)))):=by
 rw[fq (fh v) (by rw[LO,hA];rfl) ((eD v).trans (eD u).symm)];have h2:(xs.map (enc (α:=α)))[i]?=some (enc (xs[i])):=by simp[h]
 simp only[I.du,h2,List.map_set]
end
theorem AW{m sz lo l i:Nat}{fs:List I}(h:i<l):mC m [] sz lo l sz (i:Int) (some fs)=some (.ptr m [lo+i]):=by rw[Vv h];rfl
theorem zl:(∀ {α:Type} [Enc α] (x:α),(enc x).bu=true)∧(∀ n p z lo k,(I.view n p z lo k).bu=false)∧(∀ n,(I.mref n).bu=false)∧(∀ n p,(I.ptr n p).bu=false)∧(∀ n k,(I.own n k).bu=false) :=
 ⟨@j8,fun _ _ _ _ _=>rfl,fun _=>rfl,fun _ _=>rfl,fun _ _=>rfl⟩
end Go.Abs
namespace Go.Abs
open Go Go.RowKit
def rm(on:List (List Nat)):List Nat:=on.foldl (fun acc ks=>acc++[nt acc ks]) []
def uy(d:Option (List (List Nat)))(gs:List av):Bool:=match d with
 |none=>true
 |some on=>ry on gs (rm on)
section
variable {c:cd} {Q:Exit→ab→Prop} {A:ab} {d:Option (List (List Nat))} {on:List (List Nat)} {gs:List av}
theorem U.hG(hd:uy d gs=true)(h:∀ K:ab→Prop,(∀ B,Q .normal B→K B)→aY c.P c.Y d.isSome K (aq gs A)):U c (.bQ d gs) Q A:=by
 cases d with
 |none=>exact U.bQ (cl:=[]) rfl h
 |some on=>exact U.bQ (cl:=rm on) hd h
theorem U.dP{y:bj}(hd:uy d gs=true)(h:∀ K:ab→Prop,(∀ B,U c y Q B→K B)→aY c.P c.Y d.isSome K (aq gs A)):U c (.seq (.bQ d gs) y) Q A :=
 U.seq (U.hG hd h)
theorem U.jt(hs:List FuncId)(ao:ea)(σ:List Nat)(hd:sH hs ao on gs (rm on) σ=true)(hi:dq ao A)(h:∀ K:ab→Prop,(∀ B,Q .normal B→K B)→bH c.P c.Y hs K (aq (iA σ gs) A)):U c (.bQ (some on) gs) Q A :=
 U.X8 hs ao (rm on) σ hd hi h
def fF(c:cd):bj→(Exit→ab→Prop)→ab→Prop
 | .seq x y,Q,A=>fF c x (cT (fun B=>U c y Q B) Q) A
 | .block id x,Q,A=>fF c x (kL id Q) A
 | .skip,Q,A=>Q .normal A
 | .exit id,Q,A=>Q (.exit id) A
 | .ret,Q,A=>Q .ret A
 | .cond b x y,Q,A=>au (af A b) (U c x Q A) (U c y Q A)
 |x,Q,A=>U c x Q A
def Vt:bj→Bool
 | .seq _ _ | .block _ _ | .skip | .exit _ | .ret | .cond _ _ _=>true
 |_=>false
theorem fF.tX:∀ (x:bj) {Q:Exit→ab→Prop} {A:ab},fF c x Q A→U c x Q A
 | .seq x y,_,_,h=>U.seq (fF.tX x h)
 | .block id x,_,_,h=>U.block (fF.tX x h)
 | .skip,_,_,h=>U.skip h
 | .exit _,_,_,h=>U.exit h
 | .ret,_,_,h=>U.ret h
 | .cond _ _ _,_,_,h=>U.gG h
 | .bQ _ _,_,_,h | .loop _,_,_,h | .scope _,_,_,h | .label,_,_,h | .pj,_,_,h | .mY _ _ _ _,_,_,h=>h
theorem U.of{x:bj}(_:Vt x=true)(h:fF c x Q A):U c x Q A:=fF.tX x h
theorem aF :
  (∀ c x y Q A,fF c (.seq x y) Q A=fF c x (cT (fun B=>U c y Q B) Q) A)∧(∀ c id x Q A,fF c (.block id x) Q A=fF c x (kL id Q) A)∧(∀ c Q A,fF c .skip Q A=Q .normal A)∧(∀ c id Q A,fF c (.exit id) Q A=Q (.exit id) A)∧(∀ c Q A,fF c .ret Q A=Q .ret A) ∧
  (∀ c b x y Q A,fF c (.cond b x y) Q A=au (af A b) (U c x Q A) (U c y Q A))∧(∀ c d gs Q A,fF c (.bQ d gs) Q A=U c (.bQ d gs) Q A)∧(∀ c x Q A,fF c (.loop x) Q A=U c (.loop x) Q A)∧(∀ c f ps x y Q A,fF c (.mY f ps x y) Q A=U c (.mY f ps x y) Q A) ∧
  (∀ k Q A,cT k Q .normal A=k A)∧(∀ k Q A,cT k Q .ret A=Q .ret A)∧(∀ k Q A i,cT k Q (.exit i) A=Q (.exit i) A)∧(∀ i Q A,kL i Q .normal A=Q .normal A)∧(∀ i Q A,kL i Q .ret A=Q .ret A)∧(∀ i Q A j,kL i Q (.exit j) A=if j=i then Q .normal A else Q (.exit j) A) ∧
  (∀ p q,au (.bool true) p q=p)∧(∀ p q,au (.bool false) p q=q)∧(type_of% @AX) :=
 ⟨fun _ _ _ _ _=>rfl,fun _ _ _ _ _=>rfl,fun _ _ _=>rfl,fun _ _ _ _=>rfl,fun _ _ _=>rfl,fun _ _ _ _ _ _=>rfl,fun _ _ _ _ _=>rfl,fun _ _ _ _=>rfl,fun _ _ _ _ _ _ _=>rfl,fun _ _ _=>rfl,fun _ _ _=>rfl,fun _ _ _ _=>rfl,fun _ _ _=>rfl,fun _ _ _=>rfl,fun _ _ _ _=>rfl,
  fun p q=>by simp[au],fun p q=>by simp[au],AX⟩
theorem au.aD{t:Bool}{p q:Prop}(h1:t=true→p)(h2:t=false→q):au (.bool t) p q:=⟨h1,h2⟩
theorem U.aE{g:av}{r:List av}(hd:uy d gs=true)(e:gs=g::r)(h:∀ K:ab→Prop,(∀ B,Q .normal B→K B)→aY c.P c.Y d.isSome K (aq (g::r) A)):U c (.bQ d gs) Q A :=
 U.hG hd (e▸h)
theorem aY.aA(ao:List Nat){P:Program}{Y:Value→List I→List (Nat×ai)→bY→Prop}{dr:Bool}{x:bj}{K:ab→Prop}{ts:List (Nat×I)}{os:List (Nat×ai)}(hK:∀ B,U c x Q B→K B)(h:U c x Q (ay (fY ao ts) os)):aY P Y dr K (.done (ay ts os)) :=
 .done (hK _ (U.pS ao h))
theorem bH.aA(ao:List Nat){P:Program}{Y:Value→List I→List (Nat×ai)→bY→Prop}{hs:List FuncId}{x:bj}{K:ab→Prop}{ts:List (Nat×I)}{os:List (Nat×ai)}(hK:∀ B,U c x Q B→K B)(h:U c x Q (ay (fY ao ts) os)):bH P Y hs K (.done (ay ts os)) :=
 .done (hK _ (U.pS ao h))
end
section
variable {c:cd} {A:ab} {o:Oper}
theorem za{P:Program}{m:Nat}{bh:Array Oper}{l:List Oper}{gs:List av}(h:ff P m bh (o::l)=some gs):∃ g gs',gs=g::gs'∧kM P m bh o=some g∧ff P m bh l=some gs':=by
 simp only[ff] at h;split at h
 ·rename_i g gs' h1 h2;simp only[v6] at h;exact ⟨g,gs',h.symm,h1,h2⟩
 ·cases h
end
def sZ(P:Program)(f:FuncId)(ch:List PanicEntry)(vs:Array Value)(w:World)(R:Ending→World→Prop):Prop :=
 Calls P f vs w fun e w'=>e=.panicked ch∧R (.returned (.tuple #[])) w'
theorem sZ.mono{P:Program}{f:FuncId}{ch:List PanicEntry}{vs:Array Value}{w:World}{R R':Ending→World→Prop}(h:sZ P f ch vs w R)(hr:∀ e w',R e w'→R' e w'):sZ P f ch vs w R' :=
 Calls.mono h fun _ _ q=>⟨q.1,hr _ _ q.2⟩
def oC(post:List (Nat×ai)→Prop):bY:=fun r os'=>r=.tuple []∧post os'
def oW(P:Program)(f:FuncId)(ch:List PanicEntry)(args:List I)(os:List (Nat×ai))(post:List (Nat×ai)→Prop):Prop :=
 dO P f=true∧ml (sZ P f ch) (fun w _ E=>eB P w (bS E)) args os (oC post)
def vP(ch:List PanicEntry)(post:List (Nat×ai)→Prop):Exit→ab→Prop
 | .panic ch',A=>ch'=ch∧iL [] (oC post) A
 |_,_=>False
theorem Bb{P:Program}{n:Nat}{w:World}{D:aI}{E:aO}{Y:Value→List I→List (Nat×ai)→bY→Prop}{post:List (Nat×ai)→Prop}{fn:Func}{A:ab}{D':aI}{E':aO}{ch:List PanicEntry}(h:iL [] (oC post) A){R:World→Prop}(hR:∀ v w',kH w D E (oC post) v w'→R w') :
  ∀ (ds:List Deferred) (a:Act) (w':World),a.defers=ds→aL ⟨P,w,D,n,bS E,E,Y,none,none⟩ A a w' D' E'→LeavesInM Fence.wide 9 P fn a.tmps (fun e w'=>e=.panicked ch∧R w') ds (.panicking ch) w'
 | [],a,w',_,hs=>by
  obtain ⟨v,h1,h2⟩:=hs.r6 (fn := { fn with results := #[] }) (rs:=[]) rfl h;exact ⟨rfl,hR v w' h2⟩
 |d::ds,a,w',hd,hs=>by
  obtain ⟨Bs,h1,_⟩:=hs.ee;rw[hd] at h1;cases Bs with
  |nil=>cases h1
  |cons B Bs =>
   simp only[Z4,zz8] at h1;obtain ⟨rfl,rfl⟩:=h1;obtain ⟨k1,k2⟩:=hs.zm rfl hd;exact ⟨by simp,.inl ⟨B,_,rfl,run_takeDeferred k1,Bb h hR _ { a with defers:=Bs.map _ } _ rfl k2⟩⟩
theorem VV{w:World}{D:aI}{E:aO}{post:List (Nat×ai)→Prop}{v:Value}{w':World}(h:kH w D E (oC post) v w'):∃ v' D' E' r os',Ending.returned (.tuple #[])=.returned v'∧oC post r os'∧aQ w' D' E' r v'∧iZ (fun b=>w.heap.size≤b∨bS E b) w' D' E' (aJ os') ∧
   ew (fun b=>w.heap.size≤b∨bS E b) w w'∧(∀ b o,D b o→D' b o)∧(∀ b o,D' b o→b<w'.heap.size)∧(∀ b o,D' b o→b<w.heap.size→¬ bS E b→D b o) ∧
   (∀ n e,E n=some e→aH os' n=true→∃ e',E' n=some e'∧e.fi e')∧fO w D w':=by
 obtain ⟨D',E',r,os',h1,h2,h3⟩:=h;refine ⟨_,D',E',r,os',rfl,h1,?_,h3⟩;obtain ⟨rfl,_⟩:=h1;simp only[aQ];exact ⟨[],by simp,by simp[al]⟩
theorem oW.mk{P:Program}{f:FuncId}{fn:Func}{x:bj}{ch:List PanicEntry}{args:List I}{os:List (Nat×ai)}{post:List (Nat×ai)→Prop}(hf:P.funcs[f]?=some fn)(hcall:dO P f=true)(hc:(fn.body.bind (dN P fn.ntmps))=some x)
  (hn:args.length≤fn.ntmps) (hn2:fn.ntmps≤1000000) (hos:∀ m,aH os m=true→1000000≤m) (h:I.fE args→∀ (w:World) (D:aI) (E:aO),U ⟨P,w,D,fn.ntmps,bS E,E,fy,none,none⟩ x (vP ch post) (ay (bB 0 args) os)):oW P f ch args os post:=by
 obtain ⟨body,hb,hc'⟩:=zx3.1 hc;refine ⟨hcall,fun w D E vs hl hD ho hv =>?_⟩;have hlen:=qA hv;have hsim:=wF (P:=P) (n:=fn.ntmps) (Y:=fy) hD ho hv (by omega) (fun m hm=>⟨Nat.le_trans hn2 (hos m hm),hos m hm⟩) (oT hl);refine (callsIn_wide (n:=9)).1 (callsIn_of_wp_marks hf hb trivial ?_);refine wpIn_mono (((h (oK _ _ hv) w D E).sub (tj args os)) body hc' _ w ⟨D,E,hsim⟩) ?_;rintro e a w' ⟨A,hq,D',E',hs⟩;cases e <;>simp only[vP] at hq
 obtain ⟨rfl,hq⟩:=hq;exact Bb hq (fun v w' h=>VV h) a.defers a w' rfl hs
section
variable {c:cd} {A:ab} {Q:Exit→ab→Prop}
theorem rS{dr:Bool}{K:ab→Prop}{bh:Array Oper}{Q:Exit→Act→World→Prop}{l2:List Oper}(hQ:∀ B a w,K B→bA c B a w→wpListIn c.bl 9 c.P bh Q l2 a w):∀ (l:List Oper) (gs:List av) (A:ab) (a:Act) (w:World),ff c.P c.n bh l=some gs→aY c.P c.Y dr K (aq gs A) →
  bA c A a w→wpListIn c.bl 9 c.P bh Q (l++l2) a w
 | [],gs,A,a,w,hc,hwp,hs=>by
  simp only[ff,v6] at hc;subst hc;simp only[aq] at hwp;cases hwp with
  |done hk=>exact hQ A a w hk hs
 |o::l,gs,A,a,w,hc,hwp,hs=>by
  simp only[ff] at hc;split at hc
  case h_2=>cases hc
  rename_i g gs' hg hgs;simp only[v6] at hc;subst hc;obtain ⟨h1,h2,h3,h4⟩:=nK hg;have step:aY c.P c.Y dr K (aV A g.dst g.op gs' (aq gs'))→o.wpIn c.bl 9 c.P a w (wpListIn c.bl 9 c.P bh Q (l++l2)) Q:=fun h =>
   rP h1 h2.symm (by rw[h2];exact h3) h hs (fun B a' w' hw hs'=>rS hQ l gs' B a' w' hgs hw hs')
  simp only[zz4,wpListIn];simp only[aq] at hwp;rcases h4 with ⟨h5,h6⟩ | ⟨j,b,t,h5,h6,h7⟩
  ·rw[h6] at hwp;have hw:Region.wanted o (yielded bh a.tmps)=true:=by simp[Region.wanted,h5]
   rw[hw,if_pos rfl];exact step hwp
  ·rw[h7] at hwp;simp only at hwp;split at hwp
   ·rename_i b' hb';rw[rU hs h5 h6 hb'];split at hwp
    ·rename_i hbb;subst hbb;simp only[BEq.rfl,if_true];exact step hwp
    ·rename_i hbb;have:(b'==b)=false:=by simpa using hbb
     rw[this];simp only[Z8,if_false];exact ⟨fun f _=>kT c f,rS hQ l gs' _ _ w hgs hwp (by rw[h2];exact hs.l8 h3)⟩
   ·rename_i hb';rw[rV hs h5 h6 hb'];simp only[Z8,if_false];exact ⟨fun f _=>kT c f,rS hQ l gs' _ _ w hgs hwp (by rw[h2];exact hs.l8 h3)⟩
   ·cases hwp
theorem y9{P:Program}{m:Nat}{bh:Array Oper}{g:av}{gs2:List av} : ∀ {l:List Oper} {gs1:List av},ff P m bh l=some (gs1++g::gs2)→∃ l1 o l2,l=l1++o::l2∧ff P m bh l1=some gs1∧kM P m bh o=some g
 | [],gs1,h=>by simp[ff] at h
 |o::l,[],h=>by
  obtain ⟨g',gs',e,h1,h2⟩:=za h;simp only[zy7,zz8] at e;obtain ⟨rfl,rfl⟩:=e;exact ⟨[],o,l,rfl,rfl,h1⟩
 |o::l,k::gs1,h=>by
  obtain ⟨g',gs',e,h1,h2⟩:=za h;simp only[zz4,zz8] at e;obtain ⟨rfl,rfl⟩:=e;obtain ⟨l1,o',l2,rfl,q1,q2⟩:=y9 h2;exact ⟨o::l1,o',l2,rfl,by simp only[ff,h1,q1],q2⟩
inductive o9 (P:Program) (Q:Exit→ab→Prop) (f:FuncId) (avs:List I):ab→Prop where
 |mk {ts:List (Nat×I)} {os0:List (Nat×ai)} (aG:Bool) (ρ:List (Nat×Nat)) (os:List (Nat×ai)) (cargs:List I) (ch:List PanicEntry) (post:List (Nat×ai)→Prop):oW P f ch cargs os post→eK ρ os os0→fP aG (ay ts (dQ (iy ρ os) os0)) ρ os avs cargs →
  (∀ os',post os'→dF aG ρ os os0 (.tuple []) os')→(∀ os',post os'→Q (.panic ch) (ay ts (c7 ρ os'++os0)))→o9 P Q f avs (ay ts os0)
inductive lE (P:Program) (Q:Exit→ab→Prop):br→ab→Prop where
 |call {f:FuncId} {args:List aw} {A:ab} : o9 P Q f (args.map (af A)) A→lE P Q (.call f args) A
 |eV {x:aw} {args:List aw} {f:Nat} {caps:List I} {A:ab} : af A x=.func f caps→o9 P Q (ka f) (gE f (args.map (af A)) caps) A→lE P Q (.eV x args) A
 |kl {x:aw} {t:TypeId} {A:ab} : af A x=.iface t (.agg [])→Q (.panic [{ v:=.iface t (.agg #[]),recovered:=false }]) A→lE P Q (.prim .kl [x]) A
theorem vQ{o:Oper}{g:br}{f:FuncId}{avs:List I}{vs:List Value}{a:Act}{w:World}{D:aI}{E:aO}{Kw:Act→World→Prop}(hop0:cw c.P o=some g)(h:o9 c.P Q f avs A)(hs:aL c A a w D E)(hall:dY (aQ w D E) avs vs)
  (hrun:dO c.P f=true→(execOp a.eval o).run c.P w=.ok (.enter f vs.toArray) w):o.wpIn c.bl 9 c.P a w Kw (r8 c Q):=by
 cases h with
 |mk aG ρ os cargs ch post hspec hgv ha hb hrest =>
  have hu:=hspec.2.use hs aG (fun h=>h.mono) ⟨fun _ _=>hs.oh,fun _=>hs.oh⟩ hgv ha (fun r os' hp=>by obtain ⟨rfl,hp⟩:=hp;exact hb os' hp) hall;refine ⟨jb,?_⟩;rw[jv hop0,hrun hspec.1,Oper.uponIn_enter];refine ⟨uv c,zi (Calls.mono hu ?_)⟩;rintro e w' ⟨rfl,v,r,os',D2,E2,he,⟨rfl,hp⟩,hs',hv,_⟩;exact ⟨_,hrest os' hp,D2,E2,hs'⟩
theorem XD{o:Oper}{g:br}{a:Act}{w:World}{Kw:Act→World→Prop}(hop:cw c.P o=some g)(h:lE c.P Q g A)(hsim:bA c A a w):o.wpIn c.bl 9 c.P a w Kw (r8 c Q):=by
 have hop0:=hop;obtain ⟨D,E,hs⟩:=hsim;cases h with
 |call h =>
  unfold cw at hop;split at hop <;>try (first | (simp at hop;done) | ((repeat' split at hop) <;>simp at hop;done))
  rename_i f' xs ts ho;split at hop
  case isFalse=>simp at hop
  simp only[t7,br.call.injEq] at hop;obtain ⟨ys,hys,rfl,rfl⟩:=hop;have e:xs.map a.eval=(xs.toList.map a.eval).toArray:=by apply Array.ext';simp
  refine vQ (vs:=xs.toList.map a.eval) hop0 h hs (j2 hs xs.toList ts.toList ys hys) fun hc =>?_;simp only[execOp,ho,resolve,Act.eval,Deferred.ofValue,Sem.run_bind,Sem.run_pure,Result.andThen_ok,invoke,Array.append_empty,Array.empty_append,l9 hc];rw[←e]
 |eV hx h =>
  rename_i x args f caps;unfold cw at hop;split at hop <;>try (first | (simp at hop;done) | ((repeat' split at hop) <;>simp at hop;done))
  rename_i y xs ts _ ho;split at hop
  case h_2=>cases hop
  rename_i y' ys h1 h2;simp only[v6,br.eV.injEq] at hop;obtain ⟨rfl,rfl⟩:=hop;have hv:=bo hs h1;rw[hx] at hv;obtain ⟨cs,q1,q2⟩:=hv;simp only[ae] at q2;obtain ⟨vs,q3,q4⟩:=q2;have hval:a.eval y=iQ f vs:=by simpa[aX,I.isAgg,q3] using q1.symm
  have e:xs.map a.eval=(xs.toList.map a.eval).toArray:=by apply Array.ext';simp
  have hargs:=j2 hs xs.toList ts.toList ys h2;rcases Nat.lt_or_ge f 1000000 with hf | hf
  ·rw[uL hf,uK hf] at h;rw[lN hf] at hval;refine vQ (vs:=xs.toList.map a.eval++vs) hop0 h hs (hargs.append (oI q4)) fun hc =>?_;simp only[execOp,ho,resolve,hval,Deferred.ofValue,Sem.run_bind,Sem.run_pure,Result.andThen_ok,invoke,Array.empty_append,l9 hc];rw[e];simp
  ·obtain ⟨g,rfl⟩:∃ g:Nat,f=g+1000000:=⟨Nat.sub f 1000000,(Nat.sub_add_cancel hf).symm⟩
   rw[zX,zW] at h;rw[pG] at hval;refine vQ (vs:=vs++xs.toList.map a.eval) hop0 h hs ((oI q4).append hargs) fun hc =>?_;simp only[execOp,ho,resolve,hval,Deferred.ofValue,Sem.run_bind,Sem.run_pure,Result.andThen_ok,invoke,Array.append_empty,l9 hc];rw[e];simp

 |kl hx hq =>
  rename_i x t;unfold cw at hop;split at hop <;>try (first | (simp at hop;done) | ((repeat' split at hop) <;>simp at hop;done))
  rename_i x0 ho;simp only[t7,br.prim.injEq,zz8,and_true,true_and] at hop;obtain ⟨y,hy,rfl⟩:=hop;have hv:=bo hs hy;rw[hx] at hv;obtain ⟨cs,q1,q2⟩:=hv;simp only[ae] at q2;obtain ⟨u,cs',q3,q4,q5⟩:=q2;simp only[aB] at q5;subst q5;have hu:u=.agg #[]:=by simpa[aX,I.isAgg] using q4
  have hval:a.eval x0=.iface t (.agg #[]):=by simpa[aX,I.isAgg,q3,hu] using q1.symm
  have hrun:(execOp a.eval o).run c.P w=.halt (.panic (.iface t (.agg #[]))) w:=by simp[execOp,ho,hval,Instr.panic,goPanic]
  refine ⟨jb,?_⟩;rw[jv hop0,hrun,Oper.uponIn_panic];exact ⟨A,hq,D,E,hs⟩
theorem U.X7{gs:List av}(k:Nat){g:br}{dst:Option Nat}(hk:gs=gs.take k++⟨dst,g,none⟩::gs.drop (k+1))(h:∀ K:ab→Prop,(∀ B,lE c.P Q g B→K B)→aY c.P c.Y false K (aq (gs.take k) A)):U c (.bQ none gs) Q A:=by
 intro code hc a w hs;cases code <;>simp only[dN] at hc <;>try (first | (cases hc;done) | ((repeat' split at hc) <;>cases hc;done))
 rename_i id bh draw;split at hc
 case h_2=>cases hc
 rename_i gs' hgs;split at hc
 case isFalse=>cases hc
 simp only[v6,bj.bQ.injEq] at hc;obtain ⟨hdr,rfl⟩:=hc;cases draw with
 |true=>simp at hdr
 |false =>
  refine wpIn_region_list ?_;rw[hk] at hgs;obtain ⟨l1,o,l2,hl,h1,h2⟩:=y9 hgs;rw[hl];refine rS (K:=lE c.P Q g) (fun B a' w' hp hs' =>?_) l1 _ A a w h1 (h _ fun _ hb=>hb) hs;obtain ⟨q1,q2,q3,q4⟩:=nK h2;have wn:Region.wanted o (yielded bh a'.tmps)=true:=by
   rcases q4 with ⟨a5,_⟩ | ⟨_,_,_,_,_,a5⟩
   ·simp[Region.wanted,a5]
   ·simp at a5
  simp only[wpListIn,wn,if_true];exact XD q1 hp hs'
theorem U.lj{gs gs1 gs2:List av}{g:br}{dst:Option Nat}(e:gs=gs1++⟨dst,g,none⟩::gs2)(h:∀ K:ab→Prop,(∀ B,lE c.P Q g B→K B)→aY c.P c.Y false K (aq gs1 A)):U c (.bQ none gs) Q A:=by
 subst e;refine U.X7 gs1.length (g:=g) (dst:=dst) ?_ fun K hK =>?_
 ·simp
 ·simpa using h K hK
end
section
variable {P:Program} {n:Nat} {w:World} {D:aI} {E:aO} {rs:List bq} {post:bY} {fn:Func} {ch:List PanicEntry} {f:FuncId} {N b:Nat}
theorem oi{bl:Fence}{m:Nat}{tmps:Array Value}{R R':Ending→World→Prop}(hr:∀ e w,R e w→R' e w):∀ (ds:List Deferred) (u:FrameMode) (w:World),LeavesInM bl m P fn tmps R ds u w→LeavesInM bl m P fn tmps R' ds u w
 | [],u,w,h=>by
  cases u with
  |run=>exact h
  |returning=>obtain ⟨v,h1,h2⟩:=h;exact ⟨v,h1,hr _ _ h2⟩
  |panicking c=>exact hr _ _ h
 |d::ds,u,w,h=>by
  obtain ⟨h1,h2⟩:=h;refine ⟨h1,?_⟩;rcases h2 with ⟨r,w',k1,k2,k3⟩ | ⟨k1,fv,cap,g,args,k2,k3,k4,k5⟩
  ·exact .inl ⟨r,w',k1,k2,oi hr ds u w' k3⟩
  ·refine .inr ⟨k1,fv,cap,g,args,k2,k3,k4,k5.mono fun e u' w' h =>?_⟩;cases e with
   |returned v=>exact oi hr ds _ w' h
   |panicked c=>exact oi hr ds _ w' h
   |outgrown=>exact hr _ _ h
def qz(P:Program)(fn:Func)(rest:Code)(slots:List Nat)(a:Act)(vs:Array Value)(w:World)(R:Ending→World→Prop):Prop :=
 vs.toList=slots.map (fun t=>a.tmps.getD t undef)→rest.wpIn Fence.wide 9 P (bodyPostM Fence.wide 9 P fn R) a w
theorem qz.mono{rest:Code}{slots:List Nat}{a:Act}{vs:Array Value}{w:World}{R R':Ending→World→Prop}(h:qz P fn rest slots a vs w R)(hr:∀ e w,R e w→R' e w):qz P fn rest slots a vs w R':=fun hv=>by
 refine wpIn_mono (h hv) fun e a' w' q =>?_;cases e <;>simp only[bodyPostM] at q ⊢ <;>first
  |exact oi hr _ _ _ q
  |exact hr _ _ q
  |exact q
theorem Ey{w:World}{D:aI}{E:aO}(g:Nat→Value):∀ (slots:List Nat) (args:List I),al w D E args (slots.map g)→∀ t,aQ w D E (b8 (slots.zip args) t) (g t)
 | [],args,h,t=>by simp[b8,aQ]
 |s::slots,[],h,t=>by simp[b8,aQ]
 |s::slots,x::args,h,t=>by
  simp only[al,Z4] at h;obtain ⟨v,rest,cs,e,h1,h2,h3⟩:=h;simp only[zz8] at e;obtain ⟨rfl,rfl⟩:=e;simp only[List.zip_cons_cons,b8];split
  ·rename_i hk;subst hk;exact fj h1 h2
  ·exact Ey g slots args h3 t
end
abbrev rr(P:Program)(w:World)(D:aI)(n:Nat)(E:aO)(b:Option (List Deferred)):cd:=⟨P,w,D,n,bS E,E,fy,none,b⟩
theorem aL.VT{P:Program}{n:Nat}{w:World}{D:aI}{E:aO}{dM:Option (List Deferred)}{post:bY}{A:ab}{a:Act}{w':World}{D':aI}{E':aO}{r:I}{v:Value}{os:List (Nat×ai)}
  (hs:aL (rr P w D n E dM) A a w' D' E') (h1:∀ m z,aJ os m=some z→A.o m=some z∧z.only (aH os)=true∧z.ep=true) (hf:r.flat=true) (hv:aQ w' D' E' r v) (hp:post r os):kH w D E post v w':=by
 obtain ⟨D2,E2,hw,e2,e2n,q1,q2,q3,q4,q5,q6⟩:=hs.vk h1;exact ⟨D2,E2,r,os,hp,aQ.flat hf hv,q1,q2,q3,q4,q5,q6⟩
end Go.Abs
