/-
  A part of the proof that the law RollLines returns true for every input; five variables of Go's library start as the text lays them (the card ties them); conditions: none beyond the statement's own. (part 3 of 6)
-/
import Derived.Test.YtoffnnjbplgnaaaGreatDoorChecked
import Derived.KernelRfl
import Derived.RangeFuncIn
import Derived.Laws.Externs
import Derived.RecoverIn
import Derived.ProofKit
import Derived.SizedLaws
import Derived.Test.YtoffnnjbplgnaaaGreatDoorNcb
set_option linter.unusedSimpArgs false
set_option linter.unusedVariables false
set_option maxHeartbeats 16000000
set_option maxRecDepth 100000
namespace Go.Abs
open Go Go.RowKit
def cG(ts:List (Nat×I)):List (Nat×I)→Prop
 | []=>True
 |(k,v)::r=>b7 ts k=v∧cG ts r
def cN(os:List (Nat×ah)):List (Nat×ah)→Prop
 | []=>True
 |(k,v)::r=>aE os k=some v∧cN os r
def cL(p:Nat→Bool):List (Nat×I)→Prop
 | []=>True
 |(_,v)::r=>v.only p=true∧cL p r
theorem wB{ts:List (Nat×I)} : ∀ {ts':List (Nat×I)},cG ts ts'→∀ k,b7 ts' k=.cS∨b7 ts' k=b7 ts k
 | [],_,k=>.inl rfl
 |(j,v)::r,h,k=>by
  simp only[cG] at h;simp only[b7];split
  ·rename_i hk;subst hk;exact .inr h.1.symm
  ·exact wB h.2 k
theorem DL{os:List (Nat×ah)} : ∀ {os':List (Nat×ah)},cN os os'→∀ k,aE os' k=none∨aE os' k=aE os k
 | [],_,k=>.inl rfl
 |(j,v)::r,h,k=>by
  simp only[cN] at h;simp only[aE];split
  ·rename_i hk;subst hk;exact .inr h.1.symm
  ·exact DL h.2 k
theorem By{p:Nat→Bool} : ∀ {ts:List (Nat×I)},cL p ts→∀ k,(b7 ts k).only p=true
 | [],_,k=>by simp[b7,I.only]
 |(j,v)::r,h,k=>by
  simp only[cL] at h;simp only[b7];split
  ·exact h.1
  ·exact By h.2 k
theorem Bx{p:Nat→Bool} : ∀ {os:List (Nat×ah)},cg p os→∀ k x,aE os k=some x→x.only p=true
 | [],_,k,x,hx=>by simp[aE] at hx
 |(j,v)::r,h,k,x,hx=>by
  simp only[cg] at h;simp only[aE] at hx;split at hx
  ·simp only[v6] at hx;subst hx;exact h.1
  ·exact Bx h.2 k x hx
theorem bG.df{ts ts':List (Nat×I)}{os os':List (Nat×ah)}(h1:cG ts ts')(h2:cN os os')(h3:cL (aC os') ts')(h4:cg (aC os') os'):bG (aw ts os) (aw ts' os'):=by
 rintro c a w ⟨D,E,hs⟩;have hp:∀ n,aC os' n=true→(if aC os' n then E n else none)=E n:=fun n hn=>by simp[hn]
 refine ⟨D,fun n=>if aC os' n then E n else none,hs.sz,hs.eb,fun t =>?_,hs.db,hs.cC,hs.cI,fun n =>?_,fun n m e e' b h1 h2 h3 h4 =>?_,fun n e hn =>?_,hs.eD,hs.cj,hs.eF,hs.fi⟩
 ·have:=wB h1 t;rcases this with h | h
  ·simp only[aw];rw[h];simp[aO]
  ·refine aO.du (p:=aC os') hp (By h3 t) ?_;have:=hs.dw t;simp only[aw] at *;rw[h];exact this
 ·have ho:=hs.bx n;simp only[aw] at *;rcases DL h2 n with h | h
  ·rw[h];simp[cW,aC,h]
  ·rw[h];by_cases hin:aE os n=none
   ·rw[hin];simp[cW,aC,h,hin]
   ·have aq:(if aC os' n then E n else none)=E n:=hp n (by simp[aC,h];cases hh:aE os n <;>simp_all);cases hx:aE os n with
    |none=>exact absurd hx hin
    |some x =>
     have hon:=Bx h4 n x (h.trans hx);rw[hx] at ho;cases x with
     |box x =>
      obtain ⟨b,cs,T,k1,k2,k3,k4,k5⟩:=ho;exact ⟨b,cs,T,aq.trans k1,k2,k3,ae.du hp _ _ (by simpa[ah.only] using hon) k4,k5⟩
     |bE T sz es =>
      obtain ⟨az,k1,k2,k3⟩:=ho;refine ⟨az,aq.trans k1,k2,?_⟩;cases az with
      |none=>exact k3
      |some bc =>
       obtain ⟨b,cap⟩:=bc;obtain ⟨cs,pre,rest,q1,q2,q3,q4,q5⟩:=k3;exact ⟨cs,pre,rest,q1,q2,q3,ay.du hp _ _ (by simpa[ah.only] using hon) q4,q5⟩
     |dG T xs =>
      obtain ⟨az,k1,k2,k3⟩:=ho;exact ⟨az,aq.trans k1,k2,k3⟩
     |cZ x =>
      obtain ⟨b,k1,k2⟩:=ho;exact ⟨b,aq.trans k1,k2⟩
     |bW ks vs =>
      obtain ⟨b,es,ck,k1,k2,k3,k4,k5,k6,k7⟩:=ho;simp only[ah.only,Z0] at hon;exact ⟨b,es,ck,aq.trans k1,k2,k3,k4,al.du hp _ _ hon.1 k5,al.du hp _ _ hon.2 k6,k7⟩
     |it ks vs left cur =>
      obtain ⟨r,b,es,ck,di,se,la,k1,k2,k3,k4,k5,k6,k7⟩:=ho;simp only[ah.only,Z0] at hon;exact ⟨r,b,es,ck,di,se,la,aq.trans k1,k2,k3,k4,al.du hp _ _ hon.1 k5,al.du hp _ _ hon.2 k6,k7⟩
 ·refine hs.ct n m e e' b ?_ ?_ h3 h4
  ·split at h1
   ·exact h1
   ·cases h1
  ·split at h2
   ·exact h2
   ·cases h2
 ·by_cases hi:aC os' n=true
  ·simp only[hi,if_true];exact hs.dp n e hn
  ·simp only[hi];exact .inl rfl
def bC:Nat→List I→List (Nat×I)
 |_,[]=>[]
 |k,a::aS9=>(k,a)::bC (k+1) aS9
theorem AW:∀ (aS9:List I) (k t:Nat),b7 (bC k aS9) t=if t<k then .cS else (aS9[t-k]?).getD .cS
 | [],k,t=>by simp[bC,b7]
 |a::aS9,k,t=>by
  simp only[bC,b7,AW aS9 (k+1) t];by_cases h:t=k
  ·subst h;simp
  ·rw[if_neg h];by_cases h2:t<k
   ·rw[if_pos (by omega),if_pos h2]
   ·rw[if_neg (by omega),if_neg h2,show t-k=(t-(k+1))+1 from by omega];simp
theorem sY(args:List I)(os:List (Nat×ah)):bG (mU args os) (aw (bC 0 args) os):=by
 rintro c a w ⟨D,E,hs⟩;refine ⟨D,E,hs.sz,hs.eb,fun t =>?_,hs.db,hs.cC,hs.cI,hs.bx,hs.ct,hs.dp,hs.eD,hs.cj,hs.eF,hs.fi⟩;have:=hs.dw t;simp only[aw,AW,mU,Nat.not_lt_zero,if_false,Nat.sub_zero] at *;cases h:args[t]? with
 |none=>simp[aO]
 |some x=>simpa[Y8,h] using this
theorem WO(args:List I):bG (mT args) (aw (bC 0 args) []):=sY args []
theorem A4(ts:List (Nat×I))(os:List (Nat×ah))(d:Nat)(v:I):(aw ts os).put d v=aw ((d,v)::ts) os:=rfl
theorem A5(ts:List (Nat×I))(os:List (Nat×ah))(d:Nat)(v:I):(aw ts os).aK (some d) v=aw ((d,v)::ts) os:=rfl
theorem Uc(A:ab)(v:I):A.aK none v=A:=rfl
theorem vg(ts:List (Nat×I))(os:List (Nat×ah))(d:Nat)(x:ah):(aw ts os).aP d x=aw ts ((d,x)::os):=rfl
theorem Ud(ts:List (Nat×I))(os:List (Nat×ah))(k:Nat):(aw ts os).t k=b7 ts k:=rfl
theorem Ub(ts:List (Nat×I))(os:List (Nat×ah))(k:Nat):(aw ts os).o k=aE os k:=rfl
theorem cF(j:Nat)(v:I)(r:List (Nat×I))(k:Nat):b7 ((j,v)::r) k=if k=j then v else b7 r k:=rfl
theorem eB(j:Nat)(v:ah)(r:List (Nat×ah))(k:Nat):aE ((j,v)::r) k=if k=j then some v else aE r k:=rfl
theorem TX(k:Nat):aE [] k=none:=rfl
theorem KG(A:ab)(k:Nat):af A (.t k)=A.t k:=rfl
theorem KF(A:ab)(x:I):af A (.c x)=x:=rfl
noncomputable def cw(d:Option Nat)(rest:List ar)(A:ab)(v:I):bR:=ao rest (A.aK d v)
theorem Ty(d:Option Nat)(rest:List ar)(A:ab)(v:I):cw d rest A v=ao rest (A.aK d v):=rfl
theorem F2(v:I)(k:I→bR):bZ (some v) k=k v:=rfl
theorem Fh(A:ab):ao [] A=.done A:=rfl
noncomputable def bn(A:ab)(d:Option Nat)(op:bq)(rest:List ar):bR:=aU A d op rest (ao rest)
noncomputable def fO(x:I)(b:Bool)(d:Option Nat)(op:bq)(rest:List ar)(A:ab):bR :=
 match x with
 | .bool b'=>if b'=b then bn A d op rest else ao rest (A.aK d .undef)
 | .undef=>ao rest (A.aK d .undef)
 |_=>.fail
theorem aX.guard{P:Program}{Y:Value→List I→List (Nat×ah)→bV→Prop}{dr:Bool}{K:ab→Prop}{x b:Bool}{d:Option Nat}{op:bq}{rest:List ar}{A:ab}(h1:x=b→aX P Y dr K (bn A d op rest))(h2:x = !b→aX P Y dr K (ao rest (A.aK d .undef))):aX P Y dr K (fO (.bool x) b d op rest A):=by
 unfold fO;by_cases h:x=b
 ·simp only[if_pos h];exact h1 h
 ·simp only[if_neg h];exact h2 (by cases x <;>cases b <;>simp_all)
def I.cX:I→Option (List I)
 | .agg fs=>some fs
 |_=>none
def nj(p:List Nat):Option I→Option I
 |some f=>f.at p
 |none=>none
def kr(i:Nat)(p:List Nat):Option (List I)→Option I
 |some fs=>nj p fs[i]?
 |none=>none
theorem qH(c:I):c.at []=some c:=by cases c <;>rfl
theorem FB(c:I)(i:Nat)(p:List Nat):c.at (i::p)=kr i p c.cX:=by
 cases c <;>first | rfl | (rename_i fs;simp only[I.at,kr,I.cX,nj])
def oi(fs:List I)(i:Nat)(p:List Nat)(v:I):Option I→I
 |some f=>.agg (fs.set i (f.dh p v))
 |none=>.agg fs
def mN(c:I)(i:Nat)(p:List Nat)(v:I):Option (List I)→I
 |some fs=>oi fs i p v fs[i]?
 |none=>c
theorem fg(c v:I):c.dh [] v=v:=by cases c <;>rfl
theorem sR(c:I)(i:Nat)(p:List Nat)(v:I):c.dh (i::p) v=mN c i p v c.cX:=by
 cases c <;>first | rfl | (rename_i fs;simp only[I.dh,mN,I.cX];cases fs[i]? <;>rfl)
def dz(p:List Nat):Option ah→Option I
 |some (.box c)=>c.at p
 |_=>none
def fo(A:ab):I→Option I
 | .ref x=>some x
 | .ptr n p=>dz p (A.o n)
 |_=>none
theorem jr(A:ab)(x:I):bL A x=fo A x:=by
 cases x <;>first | rfl | (rename_i n p;simp only[bL,fo];cases A.o n with | none=>rfl | some y=>cases y <;>rfl)
def lJ(s:Option Nat)(x:I):Option I:=if bQ s x=true then some x else none
def fw(s:Option Nat):Option I→Option I
 |some x=>lJ s x
 |none=>none
open Classical in
noncomputable def fu(fs:List I)(f off:Nat)(y:I):Option I:=if f<fs.length∧I.sizes (fs.take f)=off then some y else none
noncomputable def o7(n:Nat)(p:List Nat)(f off:Nat):Option (List I)→Option I
 |some fs=>fu fs f off (.ptr n (p++[f]))
 |none=>none
noncomputable def oZ(fs:List I)(f off:Nat):Option I→Option I
 |some v=>fu fs f off (.ref v)
 |none=>none
noncomputable def rf(f off:Nat):Option (List I)→Option I
 |some fs=>oZ fs f off fs[f]?
 |none=>none
def ej:Option I→Option (List I)
 |some x=>x.cX
 |none=>none
noncomputable def lB(A:ab)(f off:Nat):I→Option I
 | .ref c=>rf f off c.cX
 | .ptr n p=>o7 n p f off (ej (dz p (A.o n)))
 |_=>none
theorem VE(A:ab)(f off:Nat)(x:av):aT A (.fa f off x)=lB A f off (af A x):=by
 simp only[aT];generalize af A x=y;cases y with
 |ref c =>
  cases c <;>simp only[lB,I.cX,rf]
  rename_i fs;cases h:fs[f]? with
  |none=>simp[oZ]
  |some v =>
   have hl:f<fs.length:=(Z6.1 h).1;simp only[oZ,fu,hl,true_and]

 |ptr n p =>
  simp only[lB,jr,fo];cases dz p (A.o n) with
  |none=>simp[ej,o7]
  |some c =>
   cases c <;>simp only[ej,I.cX,o7]
   simp only[fu]

 |_=>simp only[lB]
noncomputable def rl(f off:Nat)(s:Option Nat):Option (List I)→Option I
 |some fs=>match fs[f]? with
  |some v=>(fu fs f off v).bind (lJ s)
  |none=>none
 |none=>none
theorem VF(A:ab)(f off:Nat)(s:Option Nat)(x:av):aT A (.fl f off s x)=rl f off s (af A x).cX:=by
 simp only[aT];generalize af A x=y;cases y <;>simp only[rl,I.cX]
 rename_i fs;cases h:fs[f]? with
 |none=>rfl
 |some v =>
  have hl:f<fs.length:=(Z6.1 h).1;simp only[fu,hl,true_and];by_cases h1:I.sizes (fs.take f)=off <;>by_cases h2:bQ s v=true <;>simp[h1,h2,lJ]
open Classical in
noncomputable def ik(k:Int)(n:Nat)(y:Option I):Option I:=if 0≤k∧k<n then y else none
noncomputable def iG(n esz:Nat)(fs:List I)(y:Option I):Option I:=if gx n esz fs=true then y else none
noncomputable def nH(n esz:Nat)(k:Int):Option (List I)→Option I
 |some fs=>iG n esz fs ((fs[k.toNat]?).map .ref)
 |none=>none
noncomputable def pg(n esz m:Nat)(p:List Nat)(k:Int):Option (List I)→Option I
 |some fs=>iG n esz fs (some (.ptr m (p++[k.toNat])))
 |none=>none
noncomputable def mc(A:ab)(n esz:Nat)(k:Int):I→Option I
 | .ref c=>ik k n (nH n esz k c.cX)
 | .ptr m p=>ik k n (pg n esz m p k (ej (dz p (A.o m))))
 |_=>none
noncomputable def pf(A:ab)(n esz:Nat)(x:I):I→Option I
 | .int _ k=>mc A n esz k x
 |_=>none
theorem VG(A:ab)(n esz:Nat)(x i:av):aT A (.ia n esz x i)=pf A n esz (af A x) (af A i):=by
 simp only[aT];generalize af A x=y;generalize af A i=z;cases z <;>simp only[pf]
 rename_i kk k;cases y with
 |ref c =>
  simp only[mc,ik];split
  ·cases c <;>simp only[I.cX,nH,iG]
  ·rfl
 |ptr m p =>
  simp only[mc,ik,jr,fo];split
  ·cases dz p (A.o m) with
   |none=>simp[ej,pg]
   |some c=>cases c <;>simp only[ej,I.cX,pg,iG]
  ·rfl
 |_=>simp only[mc];split <;>rfl
open Classical in
noncomputable def mf(m:Nat)(p:List Nat)(sz lo l esz:Nat)(k:Int):Option (List I)→Option I
 |some _=>if sz=esz∧0≤k∧k<l then some (.ptr m (p++[lo+k.toNat])) else none
 |none=>none
open Classical in
noncomputable def iX(A:ab)(esz:Nat)(k:Int):I→Option I
 | .slice sz es=>if sz=esz∧0≤k∧k<es.length then (es[k.toNat]?).map .ref else none
 | .own m l=>match A.o m with
  |some (.bE _ sz es)=>if l=es.length∧sz=esz∧0≤k∧k<es.length then (es[k.toNat]?).map .ref else none
  |_=>none
 | .view m p sz lo l=>mf m p sz lo l esz k (ej (dz p (A.o m)))
 |_=>none
noncomputable def pn(A:ab)(esz:Nat)(x:I):I→Option I
 | .int _ k=>iX A esz k x
 |_=>none
theorem VH(A:ab)(esz:Nat)(x i:av):aT A (.is esz x i)=pn A esz (af A x) (af A i):=by
 simp only[aT];generalize af A x=y;generalize af A i=z;cases z <;>simp only[pn]
 cases y <;>simp only[iX]
 ·split <;>simp_all
 ·rename_i m p sz lo l;simp only[jr,fo];cases dz p (A.o m) with
  |none=>rfl
  |some c=>cases c <;>simp only[ej,I.cX,mf]
noncomputable def mg(n esz:Nat)(s:Option Nat)(k:Int):Option (List I)→Option I
 |some fs=>ik k n (iG n esz fs (fw s fs[k.toNat]?))
 |none=>none
noncomputable def pt(n esz:Nat)(s:Option Nat)(x:I):I→Option I
 | .int _ k=>mg n esz s k x.cX
 |_=>none
theorem VI(A:ab)(n esz:Nat)(s:Option Nat)(x i:av):aT A (.ix n esz s x i)=pt n esz s (af A x) (af A i):=by
 simp only[aT];generalize af A x=y;generalize af A i=z;cases z <;>simp only[pt]
 rename_i kk k;cases y <;>simp only[I.cX,mg]
 case agg fs =>
  simp only[ik,iG];split
  ·split
   ·cases fs[k.toNat]? <;>rfl
   ·rfl
  ·rfl
 all_goals (split <;>rfl)
def jz(A:ab):I→Option I
 | .slice _ es=>some (.int .i64 es.length)
 | .nils _=>some (.int .i64 0)
 | .c0 _=>some (.int .i64 0)
 | .own m l=>match A.o m with | some (.bE _ _ es)=>if l=es.length then some (.int .i64 es.length) else none | _=>none
 | .view _ _ _ _ k=>some (.int .i64 k)
 |_=>none
theorem VK(A:ab)(x:av):aT A (.len x)=jz A (af A x):=by
 simp only[aT];generalize af A x=y;cases y <;>rfl
open Classical in
noncomputable def ql(n esz:Nat)(fs:List I)(y:I):Option I:=if gx n esz fs=true∧n≤maxLen∧n≠0 then some y else none
noncomputable def qm(n esz m:Nat)(p:List Nat):Option (List I)→Option I
 |some fs=>ql n esz fs (.view m p esz 0 n)
 |none=>none
noncomputable def DX(n esz:Nat):Option (List I)→Option I
 |some fs=>ql n esz fs (.slice esz fs)
 |none=>none
noncomputable def mY(A:ab)(n esz:Nat):I→Option I
 | .ptr m p=>qm n esz m p (ej (dz p (A.o m)))
 | .ref c=>DX n esz c.cX
 |_=>none
theorem VL(A:ab)(n esz:Nat)(x:av):aT A (.va n esz x)=mY A n esz (af A x):=by
 simp only[aT];generalize af A x=y;cases y with
 |ptr m p =>
  simp only[mY,jr,fo];cases dz p (A.o m) with
  |none=>simp[ej,qm]
  |some c=>cases c <;>simp only[ej,I.cX,qm,ql] <;>(split <;>simp_all)
 |ref c=>cases c <;>simp only[mY,I.cX,DX,ql] <;>(split <;>simp_all)
 |_=>simp only[mY]
theorem VJ(A:ab)(s:Option Nat)(x:av):aT A (.ld s x)=fw s (fo A (af A x)):=by
 simp only[aT,jr];cases fo A (af A x) <;>simp only[fw,lJ]
noncomputable def pL(A:ab)(d:Option Nat)(a b:av)(rest:List ar):I→bR
 | .bool t=>ao rest (A.aK d (if t then af A a else af A b))
 |_=>.fail
noncomputable def qk(op:UnOp)(x:I):Option I:=match op,x with
  | .not,.bool b=>some (.bool !b)
  | .neg,.int k n=>some (.int k (k.wrap (0-n)))
  | .xor,.int k n=>some (.int k (nt k n))
  |_,_=>none
def uv(i:Nat):I→Option I
 | .tuple fs=>fs[i]?
 |_=>none
def ua(k:IntKind):I→Option I
 | .int _ n=>some (.int k (k.wrap n))
 |_=>none
noncomputable def tD(A:ab)(d:Nat)(z:I)(rest:List ar):Option ah→bR
 |none=>ao rest ((A.aP d (.box z)).put d (.ptr d []))
 |some _=>.fail
noncomputable def qK(A:ab)(d:Nat)(z:I)(rest:List ar)(v:Bool):bR:=if v=true then ao rest ((A.aP d (.box z)).put d (.ptr d [])) else .fail
noncomputable def qJ(A:ab)(d:Nat)(z:I)(rest:List ar):Option ah→bR
 |none=>qK A d z rest z.cq
 |some _=>.fail
open Classical in
noncomputable def ep(A:ab)(s:Option Nat)(n:Nat)(p:List Nat)(b v:I)(rest:List ar):Option I→bR
 |some old=>if vy s v old then ao rest (A.aP n (.box (b.dh p v))) else .fail
 |none=>.fail
noncomputable def sX(A:ab)(s:Option Nat)(n:Nat)(p:List Nat)(v:I)(rest:List ar):Option ah→bR
 |some (.box b)=>ep A s n p b v rest (b.at p)
 |_=>.fail
noncomputable def sW(A:ab)(s:Option Nat)(v:I)(rest:List ar):I→bR
 | .ptr n p=>sX A s n p v rest (A.o n)
 |_=>.fail
noncomputable def oP(A:ab)(d:Option Nat)(args:List I)(rest:List ar):I→bR
 | .func f caps=>.call (jX f) (gy f args caps) (bA true A (gy f args caps)) (bA false A (gy f args caps)) d rest A
 | .raw v=>.kE v args d rest A
 |_=>.fail
section
variable (d:Option Nat) (rest:List ar) (A:ab)
theorem E6(op:bq):ao (⟨d,op,none⟩::rest) A=bn A d op rest:=rfl
theorem E7(op:bq)(t:Nat)(b:Bool):ao (⟨d,op,some (t,b)⟩::rest) A=fO (A.t t) b d op rest A:=rfl
theorem Sq(op:bq):fO (.bool true) true d op rest A=bn A d op rest:=by simp[fO]
theorem Sm(op:bq):fO (.bool false) false d op rest A=bn A d op rest:=by simp[fO]
theorem Sp(op:bq):fO (.bool true) false d op rest A=ao rest (A.aK d .undef):=by simp[fO]
theorem Sn(op:bq):fO (.bool false) true d op rest A=ao rest (A.aK d .undef):=by simp[fO]
theorem Sr(op:bq)(b:Bool):fO .undef b d op rest A=ao rest (A.aK d .undef):=rfl
theorem UR(x:av):bn A d (.mv x) rest=ao rest (A.aK d (af A x)):=rfl
theorem UW(c a b:av):bn A d (.pick c a b) rest=pL A d a b rest (af A c):=by
 simp only[bn,aU,aT];cases af A c <;>simp only[bZ,pL]
theorem Us(op:BinOp)(x y:av):bn A d (.bin op x y) rest=bZ (bB op (af A x) (af A y)) (cw d rest A):=rfl
theorem UC(ty:bU)(neg:Bool)(x y:av):bn A d (.eqv ty neg x y) rest=bZ ((bP ty (af A x) (af A y)).map fun b=>.bool (if neg then !b else b)) (cw d rest A):=rfl
theorem U4(op:UnOp)(x:av):bn A d (.un op x) rest=bZ (qk op (af A x)) (cw d rest A):=rfl
theorem UA(k:IntKind)(x:av):bn A d (.conv k x) rest=bZ (ua k (af A x)) (cw d rest A):=by
 simp only[bn,aU,aT];cases af A x <;>rfl
theorem UJ(s:Option Nat)(x:av):bn A d (.ld s x) rest=bZ (fw s (fo A (af A x))) (cw d rest A):=by rw[←VJ];rfl
theorem UE(f off:Nat)(x:av):bn A d (.fa f off x) rest=bZ (lB A f off (af A x)) (cw d rest A):=by rw[←VE];rfl
theorem UF(f off:Nat)(s:Option Nat)(x:av):bn A d (.fl f off s x) rest=bZ (rl f off s (af A x).cX) (cw d rest A):=by rw[←VF];rfl
theorem UG(n esz:Nat)(x i:av):bn A d (.ia n esz x i) rest=bZ (pf A n esz (af A x) (af A i)) (cw d rest A):=by rw[←VG];rfl
theorem UH(esz:Nat)(x i:av):bn A d (.is esz x i) rest=bZ (pn A esz (af A x) (af A i)) (cw d rest A):=by rw[←VH];rfl
theorem UI(n esz:Nat)(s:Option Nat)(x i:av):bn A d (.ix n esz s x i) rest=bZ (pt n esz s (af A x) (af A i)) (cw d rest A):=by rw[←VI];rfl
theorem UK(x:av):bn A d (.len x) rest=bZ (jz A (af A x)) (cw d rest A):=by rw[←VK];rfl
theorem U5(n esz:Nat)(x:av):bn A d (.va n esz x) rest=bZ (mY A n esz (af A x)) (cw d rest A):=by rw[←VL];rfl
theorem Ut(zs:List I)(ps:List (Nat×av)):bn A d (.bld zs ps) rest=bZ ((fA zs (ps.map fun p=>(p.1,af A p.2))).map .agg) (cw d rest A):=rfl
theorem UD(x:av)(i:Nat):bn A d (.ext x i) rest=bZ (uv i (af A x)) (cw d rest A):=by
 simp only[bn,aU,aT];cases af A x <;>rfl
theorem UN(f:FuncId)(caps:List av):bn A d (.mk f caps) rest=bZ (if ((caps.map (af A)).all fun y=>y.cq)=true then some (.func f (caps.map (af A))) else none) (cw d rest A):=rfl
theorem Up(d:Nat)(z:I):bn A (some d) (.alloc z) rest=tD A d z rest (A.o d):=by
 simp only[bn,aU];cases A.o d <;>rfl
theorem Uu(d:Nat)(x:av):bn A (some d) (.box x) rest=qJ A d (af A x) rest (A.o d):=by
 simp only[bn,aU];cases A.o d <;>simp only[qJ,qK]
theorem U0(s:Option Nat)(x v:av):bn A none (.aV s x v) rest=sW A s (af A v) rest (af A x):=by
 simp only[bn,aU];cases af A x <;>simp only[sW]
 rename_i n p;cases A.o n with
 |none=>rfl
 |some y =>
  cases y <;>simp only[sX]
  rename_i b;cases b.at p <;>simp only[ep]
theorem Uw(f:FuncId)(args:List av):bn A d (.call f args) rest=.call f (args.map (af A)) (bA true A (args.map (af A))) (bA false A (args.map (af A))) d rest A:=rfl
theorem Ux(x:av)(args:List av):bn A d (.eR x args) rest=oP A d (args.map (af A)) rest (af A x):=by
 simp only[bn,aU];cases af A x <;>rfl
end
end Go.Abs
namespace Go.Abs
open Go Go.RowKit
mutual
/-- Closed,and as a result is told: no nil slice but as the empty one. -/
def I.done:I→Bool
 | .agg fs=>I.ig fs
 | .slice _ es=>I.b6 es
 | .ref x=>x.br
 | .func f caps=>decide (f<1000000)&&I.ig caps
 | .iface _ v=>v.br
 | .cU ks vs=>I.b6 ks&&I.b6 vs
 | .bool _ | .int _ _ | .aj _ | .nilp | .cY | .cJ | .any | .raw _=>true
 |_=>false
def I.ig:List I→Bool
 | []=>true
 |x::xs=>x.done&&I.ig xs
end
mutual
theorem uf:∀ x:I,x.done=true→x.br=true
 | .agg fs,h=>by simp only[I.done,I.br] at *;exact ug fs h
 | .slice _ es,h=>by simpa only[I.done,I.br] using h
 | .ref x,h=>by simpa only[I.done,I.br] using h
 | .func _ caps,h=>by simp only[I.done,I.br,Z0] at *;exact ug caps h.2
 | .iface _ v,h=>by simpa only[I.done,I.br] using h
 | .bool _,_ | .int _ _,_ | .aj _,_ | .nilp,_ | .cY,_ | .cJ,_ | .any,_ | .raw _,_=>by simp[I.br]
 | .cU _ _,h=>by simpa only[I.done,I.br] using h
 | .nils _,h | .c0 _,h | .ptr _ _,h | .own _ _,h | .view _ _ _ _ _,h | .mref _,h | .cP _,h | .undef,h | .cS,h | .tuple _,h=>by simp[I.done] at h
theorem ug:∀ xs:List I,I.ig xs=true→I.b6 xs=true
 | [],_=>rfl
 |x::xs,h=>by
  simp only[I.ig,I.b6,Z0] at *;exact ⟨uf x h.1,ug xs h.2⟩
end
mutual
theorem zG(aA:Bool)(A:ab):∀ x:I,x.done=true→ba aA A x=some x
 | .agg fs,h=>by simp only[I.done,ba] at *;rw[uG aA A fs h];rfl
 | .slice _ es,h=>by simp only[I.done] at h;simp[ba,h]
 | .ref x,h=>by simp only[I.done] at h;simp[ba,h]
 | .func _ caps,h=>by simp only[I.done,ba,Z0,decide_eq_true_eq] at *;rw[if_pos h.1,uG aA A caps h.2];rfl
 | .iface _ v,h=>by simp only[I.done] at h;simp[ba,h]
 | .bool _,_ | .int _ _,_ | .aj _,_ | .nilp,_ | .cY,_ | .cJ,_ | .any,_ | .raw _,_=>by simp[ba]
 | .cU _ _,h=>by simp only[I.done] at h;simp[ba,h]
 | .nils _,h | .c0 _,h | .ptr _ _,h | .own _ _,h | .view _ _ _ _ _,h | .mref _,h | .cP _,h | .undef,h | .cS,h | .tuple _,h=>by simp[I.done] at h
theorem uG(aA:Bool)(A:ab):∀ xs:List I,I.ig xs=true→bA aA A xs=some xs
 | [],_=>by simp[bA]
 |x::xs,h=>by
  simp only[I.ig,Z0] at h;simp only[bA,zG aA A x h.1,uG aA A xs h.2]
end
theorem Km{x:I}(h:x.done=true):x.cq=true:=by cases x <;>simp_all[I.done,I.cq]
class Enc (α:Type) where
 enc:α→I
 sz:Nat
 aF:bJ
 gf:Bool
 done:∀ x,(enc x).done=true
 size:∀ x,(enc x).size=sz
 hG:∀ x,(enc x).aF=aF
 agg:∀ x,(enc x).isAgg=gf
open Enc (enc)
instance:Enc Int where
 enc n:=.int .i64 n
 sz:=1
 aF:=.one
 gf:=false
 done _:=rfl
 size _:=by simp[I.size]
 hG _:=by simp[I.aF]
 agg _:=rfl
instance:Enc Bool where
 enc b:=.bool b
 sz:=1
 aF:=.one
 gf:=false
 done _:=rfl
 size _:=by simp[I.size]
 hG _:=by simp[I.aF]
 agg _:=rfl
theorem oQ{α:Type}[Enc α](l:List α):I.b6 (l.map enc)=true:=by
 induction l with
 |nil=>rfl
 |cons x l ih=>simp only[Z3,I.b6,uf _ (Enc.done x),ih,Bool.and_self]
theorem Kn{α:Type}[Enc α](l:List α):I.ig (l.map enc)=true:=by
 induction l with
 |nil=>rfl
 |cons x l ih=>simp only[Z3,I.ig,Enc.done x,ih,Bool.and_self]
theorem WC{α:Type}[Enc α](l:List α):I.sizes (l.map enc)=l.length*Enc.sz α:=by
 rw[I.fV (sz:=Enc.sz α) _ (by simp only[X1];rintro x ⟨y,_,rfl⟩;exact Enc.size y)];simp
theorem wh{α:Type}[Enc α](l:List α):I.cB (l.map enc)=List.replicate l.length (Enc.aF α):=by
 induction l with
 |nil=>rfl
 |cons x l ih=>simp only[Z3,I.cB,Enc.hG x,ih,Y5,List.replicate_succ]
instance {α:Type} [Enc α]:Enc (List α) where
 enc l:=.slice (Enc.sz α) (l.map enc)
 sz:=1
 aF:=.one
 gf:=false
 done l:=by simp only[I.done];exact oQ l
 size _:=by simp[I.size]
 hG _:=by simp[I.aF]
 agg _:=rfl
structure dP (n:Nat) (α:Type) where
 l:List α
 h:l.length=n
instance {n:Nat} {α:Type} [Enc α]:Enc (dP n α) where
 enc x:=.agg (x.l.map enc)
 sz:=n*Enc.sz α
 aF:=.eC (List.replicate n (Enc.aF α))
 gf:=true
 done x:=by simp only[I.done];exact Kn x.l
 size x:=by simp only[I.size,WC,x.h]
 hG x:=by simp only[I.aF,wh,x.h]
 agg _:=rfl
section
variable {α:Type} [Enc α]
theorem iU(aA:Bool)(A:ab)(x:α):ba aA A (enc x)=some (enc x):=zG aA A _ (Enc.done x)
theorem jV(x:α):(enc x).br=true:=uf _ (Enc.done x)
theorem bN(p:Nat→Bool)(x:α):(enc x).only p=true:=lK p _ (jV x)
theorem eY(x:α):(enc x).cq=true:=Km (Enc.done x)
theorem Kx(x:α):bQ none (enc x) = !(Enc.gf α):=by simp[bQ,Enc.agg]
theorem gM(n:Nat)(x:α):bQ (some n) (enc x)=(Enc.gf α&&Enc.sz α==n):=by simp[bQ,Enc.agg,Enc.size]
theorem kH(x:α):(enc x).size=Enc.sz α:=Enc.size x
theorem eh(x:α):(enc x).aF=Enc.aF α:=Enc.hG x
theorem qY(n:Int):(enc n:I)=.int .i64 n:=rfl
theorem Ks(n:Bool):(enc n:I)=.bool n:=rfl
theorem iV(l:List α):(enc l:I)=.slice (Enc.sz α) (l.map enc):=rfl
theorem ur(n esz:Nat)(l:List α)(h:l.length=n)(h2:Enc.sz α=esz):gx n esz (l.map enc)=true:=by
 simp only[gx,Z2,h,BEq.rfl,Bool.true_and,X3,X1];rintro x ⟨y,_,rfl⟩;simp[Enc.size,h2]
end
theorem dH(n:Int)(h1:-9223372036854775808≤n)(h2:n≤9223372036854775807):IntKind.i64.wrap n=n:=IntWalk.i64_in n ⟨h1,h2⟩
theorem aR.mk{P:Program}{f:FuncId}{fn:Func}{x:bm}{rs:List bu}{args:List I}{r:I}(hf:P.funcs[f]?=some fn)(hcall:dJ P f=true)(hc:(fn.body.bind (dI P fn.ntmps))=some x)
  (hrs:fJ P fn.results.toList=some rs) (hn:args.length≤fn.ntmps) (h:∀ (w:World) (D:aD) (E:aN),U ⟨P,w,D,fn.ntmps,bM E,E,fq,none,none⟩ x (jI rs r) (aw (bC 0 args) [])):aR P f args r:=by
 obtain ⟨body,hb,hc'⟩:=Option.bind_eq_some_iff.1 hc;exact aR.sg hf hb hcall hc' hrs hn (fun w D E=>(h w D E).sub (WO args))
end Go.Abs
namespace Go.Abs.C
open Go Go.Abs
abbrev o(a:Nat)(x:bq):ar:=⟨some a,x,none⟩
abbrev bX(a:Nat)(x:bq)(k:Nat):ar:=⟨some a,x,some (k,true)⟩
abbrev on(a:Nat)(x:bq)(k:Nat):ar:=⟨some a,x,some (k,false)⟩
abbrev p(x:bq):ar:=⟨none,x,none⟩
abbrev aY(n:Int):av:=.c (.int .i64 n)
abbrev T:av:=.c (.bool true)
abbrev bl:av:=.c (.bool false)
abbrev m(a b:Nat):ar:=⟨some a,.mv (.t b),none⟩
abbrev dq(a b k:Nat):ar:=⟨some a,.mv (.t b),some (k,true)⟩
abbrev dX(a b k:Nat):ar:=⟨some a,.mv (.t b),some (k,false)⟩
abbrev bh(a:Nat)(n:Int):ar:=⟨some a,.mv (.c (.int .i64 n)),none⟩
abbrev l(a b:Nat):ar:=⟨some a,.ld none (.t b),none⟩
abbrev gR(a b k:Nat):ar:=⟨some a,.ld none (.t b),some (k,true)⟩
abbrev gi(a b k:Nat):ar:=⟨some a,.ld none (.t b),some (k,false)⟩
abbrev au(a s b:Nat):ar:=⟨some a,.ld (some s) (.t b),none⟩
abbrev f(a b c d:Nat):ar:=⟨some a,.fa b c (.t d),none⟩
abbrev en(a b c d k:Nat):ar:=⟨some a,.fa b c (.t d),some (k,true)⟩
abbrev fn(a b c d k:Nat):ar:=⟨some a,.fa b c (.t d),some (k,false)⟩
abbrev ad(a b:Nat)(n:Int):ar:=⟨some a,.bin .add (.t b) (.c (.int .i64 n)),none⟩
abbrev lt(a b c:Nat):ar:=⟨some a,.bin .lss (.t b) (.t c),none⟩
abbrev and(a b c:Nat):ar:=⟨some a,.pick (.t b) (.t c) (.c (.bool false)),none⟩
abbrev or(a b c:Nat):ar:=⟨some a,.pick (.t b) (.c (.bool true)) (.t c),none⟩
abbrev no(a b:Nat):ar:=⟨some a,.un .not (.t b),none⟩
abbrev b(a c:Nat):ar:=⟨some a,.box (.t c),none⟩
abbrev s(x y:bm):bm:=.seq x y
abbrev r(g:List ar):bm:=.bS none g
abbrev bY(P:Program)(f:Func)(c:bm):Prop:=f.body.bind (dI P f.ntmps)=some c
abbrev bT(P:Program)(f:Func)(r:List bu):Prop:=fJ P f.results.toList=some r
abbrev bI(P:Program)(n:FuncId):Prop:=dJ P n=true
theorem e{α:Type}{a b:α}(h:a=b):a=b:=h
end Go.Abs.C
namespace Go.Proofs.YtoffnnjbplgnaaaGreatDoor
open Go Go.Abs Go.Abs.C
def PF:=[b 2 0,b 3 1,o 4 (.mv bl)]
def PG:=[o 21 (.call 14 []),m 5 21]
def PJ:=[f 23 0 0 3,l 24 23,au 25 8 2,o 26 (.call 29 [.t 24,.t 25]),m 22 26,o 27 (.ext (.t 22) 0),o 28 (.ext (.t 22) 1),o 29 (.ext (.t 22) 2),m 6 27,m 7 28,m 8 29]
def PK:=[f 31 0 0 3,l 32 31,au 33 8 2,o 34 (.call 30 [.t 32,.t 33]),m 30 34,o 35 (.ext (.t 30) 0),o 36 (.ext (.t 30) 1),o 37 (.ext (.t 30) 2),m 9 35,m 10 36,m 11 37]
def PL:=[f 39 0 0 3,l 40 39,f 41 1 1 3,l 42 41,o 43 (.call 31 [.t 40,.t 42]),m 38 43,o 44 (.ext (.t 38) 0),o 45 (.ext (.t 38) 1),o 46 (.ext (.t 38) 2),o 12 (.alloc (.agg [.agg [.int .i64 0,.int .i64 0],.int .i64 0,.int .i64 0,.int .i64 0,.agg [.int .i64 0,.int .i64 0],.aj ⟨#[]⟩])),p (.aV (some 8) (.t 12) (.t 44)),m 13 45,m 14 46]
def PM:=[f 48 0 0 3,l 49 48,f 50 1 1 3,l 51 50,o 52 (.call 32 [.t 49,.t 51]),m 47 52,o 53 (.ext (.t 47) 0),o 54 (.ext (.t 47) 1),o 55 (.ext (.t 47) 2),o 15 (.alloc (.agg [.agg [.int .i64 0,.int .i64 0],.int .i64 0,.int .i64 0,.int .i64 0,.agg [.int .i64 0,.int .i64 0],.aj ⟨#[]⟩])),p (.aV (some 8) (.t 15) (.t 53)),m 16 54,m 17 55]
def PN:=[m 56 5,no 57 56,m 58 57,on 59 (.ld (some 8) (.t 2)) 58,on 60 (.call 33 [.t 59]) 58,on 61 (.ld (some 8) (.t 2)) 58,on 62 (.call 34 [.t 61]) 58,on 63 (.bin .neq (.t 60) (.t 62)) 58,or 64 58 63,m 65 64,dX 66 6 65,dX 67 9 65,on 68 (.bin .neq (.t 66) (.t 67)) 65,or 69 65 68,m 70 69,dX 71 7 70,dX 72 10 70,on 73 (.bin .neq (.t 71) (.t 72)) 70,or 74 70 73,m 75 74,dX 76 8 75,dX 77 11 75,on 78 (.bin .neq (.t 76) (.t 77)) 75,or 79 75 78,m 80 79,on 81 (.ld (some 8) (.t 12)) 80,on 82 (.ld (some 8) (.t 15)) 80,on 83 (.eqv (.aV [(.aV [(.i .i64),(.i .i64)]),(.i .i64),(.i .i64),(.i .i64),(.aV [(.i .i64),(.i .i64)]),.s]) true (.t 81) (.t 82)) 80,or 84 80 83,m 85 84,dX 86 13 85,dX 87 16 85,on 88 (.bin .neq (.t 86) (.t 87)) 85,or 89 85 88,m 90 89,dX 91 14 90,dX 92 17 90,on 93 (.bin .neq (.t 91) (.t 92)) 90,or 94 90 93]
def JS:=some [[],[0],[1],[2],[3,2,2],[2],[5,4,2],[4,6,2],[2,7],[8,6],[9],[9],[10,11,9],[9,12],[13,9],[14],[14],[15,16,14],[14,17],[18,14],[19],[19],[20,21,19],[19,22],[23,19],[24],[24],[25,26,24],[24,27],[28,24],[29],[29],[30,31,29],[29,32],[33,29],[34],[34],[35,36,34],[34,37]]
def PO:=[o 4 (.mv bl)]
def PQ:=[m 95 8,o 96 (.bin .neq (.t 95) (aY 0))]
def PR:=[o 4 (.mv T)]
def PH:=[f 98 0 0 3,l 99 98,m 100 6,o 101 (.call 31 [.t 99,.t 100]),m 97 101,o 102 (.ext (.t 97) 0),o 103 (.ext (.t 97) 1),o 104 (.ext (.t 97) 2),o 18 (.alloc (.agg [.agg [.int .i64 0,.int .i64 0],.int .i64 0,.int .i64 0,.int .i64 0,.agg [.int .i64 0,.int .i64 0],.aj ⟨#[]⟩])),p (.aV (some 8) (.t 18) (.t 102)),m 19 103,m 20 104]
def PI:=[m 105 20,o 106 (.bin .eql (.t 105) (aY 0)),m 107 106,bX 108 (.ld (some 8) (.t 18)) 107,bX 109 (.ld (some 8) (.t 2)) 107,bX 110 (.eqv (.aV [(.aV [(.i .i64),(.i .i64)]),(.i .i64),(.i .i64),(.i .i64),(.aV [(.i .i64),(.i .i64)]),.s]) false (.t 108) (.t 109)) 107,and 111 107 110,m 112 111,dq 113 19 112,dq 114 7 112,bX 115 (.bin .eql (.t 113) (.t 114)) 112,and 116 112 115,m 4 116]
def qN:bm:=(s (r PF) (s (r PG) (s (r PJ) (s (r PK) (s (r PL) (s (r PM) (s (s (.bS JS PN) (.cond (.t 94) (s (r PO) .ret) .skip)) (s (s (r PQ) (.cond (.t 96) (s (r PR) .ret) .skip)) (s (r PH) (s (r PI) .ret))))))))))
def Cu:List bu:=[.tmp 4]
theorem HW:bY Tryz.prog Tryz.f6 qN:=e (by kernel_rfl)
theorem Jb:bT Tryz.prog Tryz.f6 Cu:=e (by kernel_rfl)
theorem GQ:bI Tryz.prog 6:=e (by kernel_rfl)
def Mm:=[o 0 (.mv bl)]
def Mn:=[o 21 (.bld [.int .i64 0,.int .i64 0] [(0,(aY 2))]),o 22 (.bld [.agg [.int .i64 0,.int .i64 0],.int .i64 0,.int .i64 0,.int .i64 0,.agg [.int .i64 0,.int .i64 0],.aj ⟨#[]⟩] [(0,(.t 21)),(1,(aY 5)),(2,(aY 10)),(3,(aY 12)),(5,(.c (.aj ⟨#[97]⟩)))]),o 1 (.alloc (.agg [.agg [.int .i64 0,.int .i64 0],.int .i64 0,.int .i64 0,.int .i64 0,.agg [.int .i64 0,.int .i64 0],.aj ⟨#[]⟩])),p (.aV (some 8) (.t 1) (.t 22))]
def Mq:=[au 24 8 1,o 25 (.call 29 [(aY 1),.t 24]),m 23 25,o 26 (.ext (.t 23) 0),o 27 (.ext (.t 23) 1),o 28 (.ext (.t 23) 2),m 2 26,m 3 27,m 4 28]
def Mr:=[m 30 2,o 31 (.call 31 [(aY 1),.t 30]),m 29 31,o 32 (.ext (.t 29) 0),o 33 (.ext (.t 29) 1),o 34 (.ext (.t 29) 2),o 5 (.alloc (.agg [.agg [.int .i64 0,.int .i64 0],.int .i64 0,.int .i64 0,.int .i64 0,.agg [.int .i64 0,.int .i64 0],.aj ⟨#[]⟩])),p (.aV (some 8) (.t 5) (.t 32)),m 6 33,m 7 34]
def Ms:=[o 36 (.bld [.agg [.aj ⟨#[]⟩,.aj ⟨#[]⟩],.agg [.aj ⟨#[]⟩,.aj ⟨#[]⟩]] []),au 37 8 1,o 38 (.call 35 [.t 36,(.c (.nils 8)),.t 37]),m 35 38,o 39 (.ext (.t 35) 0),o 40 (.ext (.t 35) 1),o 41 (.ext (.t 35) 2),o 8 (.alloc (.agg [.agg [.aj ⟨#[]⟩,.aj ⟨#[]⟩],.agg [.aj ⟨#[]⟩,.aj ⟨#[]⟩]])),p (.aV (some 4) (.t 8) (.t 39)),m 9 40,m 10 41]
def Mt:=[au 43 4 8,o 44 (.call 22 [.t 43,(.c (.nils 1))]),o 45 (.call 18 [.t 44]),m 42 45,o 46 (.ext (.t 42) 0),o 47 (.ext (.t 42) 1),o 11 (.alloc (.agg [.agg [.aj ⟨#[]⟩,.aj ⟨#[]⟩],.agg [.aj ⟨#[]⟩,.aj ⟨#[]⟩]])),p (.aV (some 4) (.t 11) (.t 46)),m 12 47]
def Mu:=[au 49 4 8,f 50 0 0 8,f 51 1 1 50,l 52 51,o 53 (.lenT (.t 52)),o 54 (.bs 3 1 [.t 53,(aY 0),(aY 0)]),o 55 (.call 22 [.t 49,.t 54]),o 56 (.call 18 [.t 55]),m 48 56,o 57 (.ext (.t 48) 0),o 58 (.ext (.t 48) 1),o 13 (.alloc (.agg [.agg [.aj ⟨#[]⟩,.aj ⟨#[]⟩],.agg [.aj ⟨#[]⟩,.aj ⟨#[]⟩]])),p (.aV (some 4) (.t 13) (.t 57)),m 14 58]
def Mv:=[au 60 4 8,f 61 0 0 8,f 62 1 1 61,l 63 62,o 64 (.lenT (.t 63)),o 65 (.bs 3 1 [.t 64,(aY 1),(aY 3)]),o 66 (.call 22 [.t 60,.t 65]),o 67 (.call 18 [.t 66]),m 59 67,o 68 (.ext (.t 59) 0),o 69 (.ext (.t 59) 1),o 15 (.alloc (.agg [.agg [.aj ⟨#[]⟩,.aj ⟨#[]⟩],.agg [.aj ⟨#[]⟩,.aj ⟨#[]⟩]])),p (.aV (some 4) (.t 15) (.t 68)),m 16 69]
def Mw:=[au 71 4 8,o 72 (.call 20 [.t 71]),o 73 (.call 24 [.t 72,bl]),o 74 (.call 18 [.t 73]),m 70 74,o 75 (.ext (.t 70) 0),o 76 (.ext (.t 70) 1),o 17 (.alloc (.agg [.agg [.aj ⟨#[]⟩,.aj ⟨#[]⟩],.agg [.aj ⟨#[]⟩,.aj ⟨#[]⟩]])),p (.aV (some 4) (.t 17) (.t 75)),m 18 76]
def Mx:=[m 77 4,o 78 (.bin .eql (.t 77) (aY 0)),m 79 78,dq 80 7 79,bX 81 (.bin .eql (.t 80) (aY 0)) 79,and 82 79 81,m 83 82,dq 84 10 83,bX 85 (.bin .eql (.t 84) (aY 0)) 83,and 86 83 85,m 87 86,dq 88 9 87,bX 89 (.len (.t 88)) 87,bX 90 (.bin .eql (.t 89) (aY 1)) 87,and 91 87 90,m 19 91]
def Mo:=[m 92 2,o 93 (.lenT (.t 92)),o 94 (.bin .gtr (.t 93) (aY 18)),m 95 94,dq 96 2 95,dq 97 2 95,bX 98 (.lenT (.t 97)) 95,bX 99 (.bin .sub (.t 98) (aY 18)) 95,bX 100 (.prim (.ss true false) [.t 96,.t 99]) 95,bX 101 (.bin .eql (.t 100) (.c (.aj ⟨#[50,32,48,32,53,32,49,48,32,49,50,32,48,32,48,32,97,10]⟩))) 95,and 102 95 101,m 20 102]
def Mp:=[m 103 19,m 104 103,dq 105 20 104,and 106 104 105,m 107 106,bX 108 (.ld (some 8) (.t 5)) 107,bX 109 (.ld (some 8) (.t 1)) 107,bX 110 (.eqv (.aV [(.aV [(.i .i64),(.i .i64)]),(.i .i64),(.i .i64),(.i .i64),(.aV [(.i .i64),(.i .i64)]),.s]) false (.t 108) (.t 109)) 107,and 111 107 110,m 112 111,dq 113 6 112,dq 114 3 112,bX 115 (.bin .eql (.t 113) (.t 114)) 112,and 116 112 115,m 117 116,en 118 0 0 8 117,en 119 1 1 118 117,gR 120 119 117,dq 121 2 117,bX 122 (.bin .eql (.t 120) (.t 121)) 117,and 123 117 122,m 124 123,en 125 1 2 8 124,bX 126 (.ld (some 2) (.t 125)) 124,bX 127 (.bld [.aj ⟨#[]⟩,.aj ⟨#[]⟩] []) 124,bX 128 (.eqv (.aV [.s,.s]) false (.t 126) (.t 127)) 124,and 129 124 128,m 130 129,dq 131 12 130,bX 132 (.len (.t 131)) 130,bX 133 (.bin .eql (.t 132) (aY 0)) 130,and 134 130 133,m 135 134,dq 136 14 135,bX 137 (.len (.t 136)) 135,bX 138 (.bin .eql (.t 137) (aY 1)) 135,and 139 135 138,m 140 139,dq 141 16 140,bX 142 (.len (.t 141)) 140,bX 143 (.bin .eql (.t 142) (aY 0)) 140,and 144 140 143,m 145 144,dq 146 18 145,bX 147 (.len (.t 146)) 145,bX 148 (.bin .eql (.t 147) (aY 1)) 145,and 149 145 148,m 150 149,en 151 0 0 17 150,en 152 0 0 151 150,gR 153 152 150,dq 154 2 150,bX 155 (.bin .eql (.t 153) (.t 154)) 150,and 156 150 155,m 157 156,en 158 1 2 17 157,en 159 0 0 158 157,gR 160 159 157,dq 161 2 157,bX 162 (.bin .eql (.t 160) (.t 161)) 157,and 163 157 162,m 0 163]
def xT:bm:=(s (r Mm) (s (r Mn) (s (r Mq) (s (r Mr) (s (r Ms) (s (r Mt) (s (r Mu) (s (r Mv) (s (r Mw) (s (r Mx) (s (r Mo) (s (r Mp) .ret))))))))))))
def B8:List bu:=[.tmp 0]
theorem Hz:bY Tryz.prog Tryz.f14 xT:=e (by kernel_rfl)
theorem IN:bT Tryz.prog Tryz.f14 B8:=e (by kernel_rfl)
theorem Gs:bI Tryz.prog 14:=e (by kernel_rfl)
def MI:=[o 2 (.mv (.c (.nils 8))),o 3 (.mv (.c (.aj ⟨#[]⟩)))]
def MJ:=[o 4 (.alloc (.nils 8))]
def ML:=[o 5 (.alloc (.int .i64 0)),o 6 (.alloc (.int .i64 0)),p (.aV none (.t 5) (aY 1)),p (.aV none (.t 6) (aY 0))]
def MN:=[m 11 0,o 12 (.call 69 [.t 11])]
def MO:=[m 7 13]
def MP:=[l 15 5,m 16 7,o 17 (.call 70 [.t 15,.t 16]),m 14 17,o 18 (.ext (.t 14) 0),o 19 (.ext (.t 14) 1),o 20 (.ext (.t 14) 2),o 8 (.alloc (.agg [.agg [.int .i64 0,.int .i64 0],.int .i64 0,.int .i64 0,.int .i64 0,.agg [.int .i64 0,.int .i64 0],.aj ⟨#[]⟩])),p (.aV (some 8) (.t 8) (.t 18)),m 9 19,m 10 20]
def MQ:=[m 21 10,no 22 21,m 23 22,gi 24 4 23,on 25 (.ld (some 8) (.t 8)) 23,on 26 (.call 71 [.t 24,.t 25]) 23,on 27 (.un .not (.t 26)) 23,or 28 23 27]
def MR:=[l 29 4,au 30 8 8,o 31 (.bs 50 8 [.t 30]),o 32 (.dM 50 8 72 (.agg [.agg [.int .i64 0,.int .i64 0],.int .i64 0,.int .i64 0,.int .i64 0,.agg [.int .i64 0,.int .i64 0],.aj ⟨#[]⟩]) (.t 29) (.t 31)),p (.aV none (.t 4) (.t 32))]
def MS:=[m 33 9,p (.aV none (.t 5) (.t 33))]
def MT:=[l 34 6,m 35 7,o 36 (.lenT (.t 35)),o 37 (.bin .add (.t 34) (.t 36)),p (.aV none (.t 6) (.t 37))]
def MK:=[l 38 4,m 39 0,l 40 6,o 41 (.prim (.ss false true) [.t 39,.t 40]),m 2 38,m 3 41]
def JL:=some [[],[],[],[1,2],[0,0],[3,4,0,1,2,3,4]]
def xV:bm:=(s (r MI) (s (r MJ) (s (r ML) (s (s (r MN) (.block 0 (.mI (.t 12) [13] (r MO) (.block 1 (s (r MP) (s (s (r MQ) (.cond (.t 28) (.exit 0) .skip)) (s (r MR) (s (r MS) (r MT))))))))) (s (.bS JL MK) .ret)))))
def Ca:List bu:=[.tmp 2,.tmp 3]
theorem HB:bY Tryz.prog Tryz.f15 xV:=e (by kernel_rfl)
theorem IQ:bT Tryz.prog Tryz.f15 Ca:=e (by kernel_rfl)
theorem Gu:bI Tryz.prog 15:=e (by kernel_rfl)
def N4:=[b 1 0,o 2 (.alloc (.agg [.agg [.aj ⟨#[]⟩,.aj ⟨#[]⟩],.agg [.aj ⟨#[]⟩,.aj ⟨#[]⟩]])),o 3 (.mv (.c (.nils 8)))]
def N5:=[f 10 0 0 1,au 11 2 10,o 12 (.call 73 [.t 11]),o 13 (.call 15 [.t 12]),m 9 13,o 14 (.ext (.t 9) 0),o 15 (.ext (.t 9) 1),m 4 14,m 5 15]
def N6:=[f 17 1 2 1,au 18 2 17,o 19 (.call 73 [.t 18]),o 20 (.call 15 [.t 19]),m 16 20,o 21 (.ext (.t 16) 0),o 22 (.ext (.t 16) 1),m 6 21,m 7 22]
def N7:=[m 23 6,o 24 (.len (.t 23)),m 25 4,o 26 (.len (.t 25)),o 27 (.bin .gtr (.t 24) (.t 26))]
def N8:=[m 28 6,m 29 7,m 4 28,m 5 29]
def N9:=[m 30 5,o 31 (.call 74 [.t 30]),o 32 (.bld [.aj ⟨#[]⟩,.aj ⟨#[]⟩] [(0,(.t 31))]),o 8 (.alloc (.agg [.aj ⟨#[]⟩,.aj ⟨#[]⟩])),p (.aV (some 2) (.t 8) (.t 32))]
def Oa:=[au 33 2 8,au 34 2 8,o 35 (.bld [.agg [.aj ⟨#[]⟩,.aj ⟨#[]⟩],.agg [.aj ⟨#[]⟩,.aj ⟨#[]⟩]] [(0,(.t 33)),(1,(.t 34))]),m 36 4,p (.aV (some 4) (.t 2) (.t 35)),m 3 36]
def x9:bm:=(s (r N4) (s (r N5) (s (s (r N6) (s (r N7) (.cond (.t 27) (r N8) .skip))) (s (r N9) (s (r Oa) .ret)))))
def Ch:List bu:=[.cell 2 (some 4),.tmp 3]
theorem HJ:bY Tryz.prog Tryz.f18 x9:=e (by kernel_rfl)
theorem IY:bT Tryz.prog Tryz.f18 Ch:=e (by kernel_rfl)
theorem GC:bI Tryz.prog 18:=e (by kernel_rfl)
def Ob:=[b 1 0,o 2 (.alloc (.agg [.agg [.aj ⟨#[]⟩,.aj ⟨#[]⟩],.agg [.aj ⟨#[]⟩,.aj ⟨#[]⟩]]))]
def Oc:=[f 4 0 0 1,au 5 2 4,o 6 (.call 73 [.t 5]),o 7 (.bld [.aj ⟨#[]⟩,.aj ⟨#[]⟩] [(0,(.t 6))]),o 3 (.alloc (.agg [.aj ⟨#[]⟩,.aj ⟨#[]⟩])),p (.aV (some 2) (.t 3) (.t 7))]
def Od:=[au 8 2 3,au 9 2 3,o 10 (.bld [.agg [.aj ⟨#[]⟩,.aj ⟨#[]⟩],.agg [.aj ⟨#[]⟩,.aj ⟨#[]⟩]] [(0,(.t 8)),(1,(.t 9))]),p (.aV (some 4) (.t 2) (.t 10))]
def c20:bm:=(s (r Ob) (s (r Oc) (s (r Od) .ret)))
def Cj:List bu:=[.cell 2 (some 4)]
theorem HL:bY Tryz.prog Tryz.f20 c20:=e (by kernel_rfl)
theorem I0:bT Tryz.prog Tryz.f20 Cj:=e (by kernel_rfl)
theorem GF:bI Tryz.prog 20:=e (by kernel_rfl)
def Oe:=[b 2 0,o 4 (.alloc (.agg [.agg [.aj ⟨#[]⟩,.aj ⟨#[]⟩],.agg [.aj ⟨#[]⟩,.aj ⟨#[]⟩]]))]
def Of:=[f 5 0 0 2,au 6 2 5,m 7 1,o 8 (.call 75 [.t 6,.t 7,(aY 0)]),f 9 1 2 2,au 10 2 9,m 11 1,o 12 (.call 75 [.t 10,.t 11,(aY 3)]),o 13 (.bld [.agg [.aj ⟨#[]⟩,.aj ⟨#[]⟩],.agg [.aj ⟨#[]⟩,.aj ⟨#[]⟩]] [(0,(.t 8)),(1,(.t 12))]),p (.aV (some 4) (.t 4) (.t 13))]
def JN:=some [[],[0],[],[1,2],[],[4],[],[5,6,3],[3,7],[8,7,0,1,2,3,4,5,6,7,8]]
def yb:bm:=(s (r Oe) (s (.bS JN Of) .ret))
def Ck:List bu:=[.cell 4 (some 4)]
theorem HM:bY Tryz.prog Tryz.f22 yb:=e (by kernel_rfl)
theorem I1:bT Tryz.prog Tryz.f22 Ck:=e (by kernel_rfl)
theorem GG:bI Tryz.prog 22:=e (by kernel_rfl)
def Og:=[b 2 0,o 4 (.alloc (.agg [.agg [.aj ⟨#[]⟩,.aj ⟨#[]⟩],.agg [.aj ⟨#[]⟩,.aj ⟨#[]⟩]]))]
def Oh:=[m 5 1]
def Oi:=[o 6 (.bld [.aj ⟨#[]⟩,.aj ⟨#[]⟩] []),f 7 1 2 2,p (.aV (some 2) (.t 7) (.t 6))]
def Oj:=[o 8 (.bld [.aj ⟨#[]⟩,.aj ⟨#[]⟩] []),f 9 0 0 2,p (.aV (some 2) (.t 9) (.t 8))]
def Ol:=[au 10 4 2,p (.aV (some 4) (.t 4) (.t 10))]
def yc:bm:=(s (r Og) (s (s (r Oh) (.cond (.t 5) (r Oi) (r Oj))) (s (r Ol) .ret)))
def Cl:List bu:=[.cell 4 (some 4)]
theorem HN:bY Tryz.prog Tryz.f24 yc:=e (by kernel_rfl)
theorem I2:bT Tryz.prog Tryz.f24 Cl:=e (by kernel_rfl)
theorem GH:bI Tryz.prog 24:=e (by kernel_rfl)
def Om:=[b 3 1,o 4 (.mv (.c (.aj ⟨#[]⟩))),bh 5 0,bh 6 0]
def On:=[m 10 0,o 11 (.call 79 [.t 10]),no 12 11,m 9 12]
def Oo:=[o 4 (.mv (.c (.aj ⟨#[]⟩))),bh 5 0,bh 6 1]
def Oq:=[au 14 8 3,o 15 (.call 80 [.t 14]),no 16 15,m 13 16]
def Ot:=[o 4 (.mv (.c (.aj ⟨#[]⟩))),bh 5 0,bh 6 80]
def Ou:=[m 18 0,au 19 8 3,o 20 (.call 81 [.t 18,.t 19]),m 17 20,o 21 (.ext (.t 17) 0),o 22 (.ext (.t 17) 1),m 7 21,m 8 22]
def Ov:=[m 23 7,m 24 8,m 4 23,m 5 24,bh 6 0]
def yd:bm:=(s (r Om) (s (.block 0 (s (r On) (.cond (.t 9) (s (r Oo) .ret) (s (r Oq) (.cond (.t 13) (s (r Ot) .ret) .skip))))) (s (r Ou) (s (r Ov) .ret))))
def Cm:List bu:=[.tmp 4,.tmp 5,.tmp 6]
theorem HO:bY Tryz.prog Tryz.f29 yd:=e (by kernel_rfl)
theorem I3:bT Tryz.prog Tryz.f29 Cm:=e (by kernel_rfl)
theorem GI:bI Tryz.prog 29:=e (by kernel_rfl)
def Ow:=[b 3 1,o 4 (.mv (.c (.aj ⟨#[]⟩))),bh 5 0,bh 6 0]
def Ox:=[m 9 0,o 10 (.call 82 [.t 9,(aY 0),(aY 1000002)]),no 11 10]
def Oy:=[o 4 (.mv (.c (.aj ⟨#[]⟩))),bh 5 0,bh 6 1]
def Oz:=[au 12 8 3,o 13 (.call 34 [.t 12]),o 14 (.bin .neq (.t 13) (aY 0))]
def OA:=[o 4 (.mv (.c (.aj ⟨#[]⟩))),bh 5 0,bh 6 80]
def OB:=[m 16 0,au 17 8 3,o 18 (.call 83 [.t 16,.t 17]),m 15 18,o 19 (.ext (.t 15) 0),o 20 (.ext (.t 15) 1),m 7 19,m 8 20]
def OC:=[m 21 7,m 22 8,m 4 21,m 5 22,bh 6 0]
def yf:bm:=(s (r Ow) (s (s (r Ox) (.cond (.t 11) (s (r Oy) .ret) .skip)) (s (s (r Oz) (.cond (.t 14) (s (r OA) .ret) .skip)) (s (r OB) (s (r OC) .ret)))))
def Cn:List bu:=[.tmp 4,.tmp 5,.tmp 6]
theorem HP:bY Tryz.prog Tryz.f30 yf:=e (by kernel_rfl)
theorem I4:bT Tryz.prog Tryz.f30 Cn:=e (by kernel_rfl)
theorem GJ:bI Tryz.prog 30:=e (by kernel_rfl)
def OD:=[o 4 (.alloc (.agg [.agg [.int .i64 0,.int .i64 0],.int .i64 0,.int .i64 0,.int .i64 0,.agg [.int .i64 0,.int .i64 0],.aj ⟨#[]⟩])),bh 5 0,bh 6 0]
def OE:=[m 10 0,o 11 (.call 79 [.t 10]),no 12 11]
def OF:=[o 13 (.bld [.agg [.int .i64 0,.int .i64 0],.int .i64 0,.int .i64 0,.int .i64 0,.agg [.int .i64 0,.int .i64 0],.aj ⟨#[]⟩] []),p (.aV (some 8) (.t 4) (.t 13)),bh 5 0,bh 6 1]
def OG:=[m 15 0,m 16 1,o 17 (.call 70 [.t 15,.t 16]),m 14 17,o 18 (.ext (.t 14) 0),o 19 (.ext (.t 14) 1),o 20 (.ext (.t 14) 2),o 7 (.alloc (.agg [.agg [.int .i64 0,.int .i64 0],.int .i64 0,.int .i64 0,.int .i64 0,.agg [.int .i64 0,.int .i64 0],.aj ⟨#[]⟩])),p (.aV (some 8) (.t 7) (.t 18)),m 8 19,m 9 20]
def OH:=[m 21 9,no 22 21]
def OI:=[o 23 (.bld [.agg [.int .i64 0,.int .i64 0],.int .i64 0,.int .i64 0,.int .i64 0,.agg [.int .i64 0,.int .i64 0],.aj ⟨#[]⟩] []),p (.aV (some 8) (.t 4) (.t 23)),bh 5 0,bh 6 87]
def OJ:=[au 24 8 7,m 25 8,p (.aV (some 8) (.t 4) (.t 24)),m 5 25,bh 6 0]
def yg:bm:=(s (r OD) (s (s (r OE) (.cond (.t 12) (s (r OF) .ret) .skip)) (s (r OG) (s (s (r OH) (.cond (.t 22) (s (r OI) .ret) .skip)) (s (r OJ) .ret)))))
def Co:List bu:=[.cell 4 (some 8),.tmp 5,.tmp 6]
theorem HQ:bY Tryz.prog Tryz.f31 yg:=e (by kernel_rfl)
theorem I5:bT Tryz.prog Tryz.f31 Co:=e (by kernel_rfl)
theorem GK:bI Tryz.prog 31:=e (by kernel_rfl)
def OK:=[o 4 (.alloc (.agg [.agg [.int .i64 0,.int .i64 0],.int .i64 0,.int .i64 0,.int .i64 0,.agg [.int .i64 0,.int .i64 0],.aj ⟨#[]⟩])),bh 5 0,bh 6 0]
def OL:=[m 16 0,o 17 (.call 82 [.t 16,(aY 0),(aY 1000002)]),no 18 17]
def OW:=[o 19 (.bld [.agg [.int .i64 0,.int .i64 0],.int .i64 0,.int .i64 0,.int .i64 0,.agg [.int .i64 0,.int .i64 0],.aj ⟨#[]⟩] []),p (.aV (some 8) (.t 4) (.t 19)),bh 5 0,bh 6 1]
def OZ:=[o 7 (.alloc (.agg [.int .i64 0,.int .i64 0,.int .i64 0,.int .i64 0,.int .i64 0,.int .i64 0,.int .i64 0,.int .i64 0]))]
def O0:=[bh 8 0]
def O1:=[bh 9 0]
def O2:=[m 20 9,o 21 (.bin .lss (.t 20) (aY 8))]
def O3:=[m 25 1,m 26 8,o 27 (.call 84 [.t 25,.t 26]),m 24 27,o 28 (.ext (.t 24) 0),o 29 (.ext (.t 24) 1),o 30 (.ext (.t 24) 2),m 10 28,m 11 29,m 12 30]
def O4:=[m 31 12,no 32 31]
def O5:=[o 33 (.bld [.agg [.int .i64 0,.int .i64 0],.int .i64 0,.int .i64 0,.int .i64 0,.agg [.int .i64 0,.int .i64 0],.aj ⟨#[]⟩] []),p (.aV (some 8) (.t 4) (.t 33)),bh 5 0,bh 6 87]
def OM:=[m 34 9,m 35 10,o 36 (.ia 8 1 (.t 7) (.t 34)),p (.aV none (.t 36) (.t 35))]
def ON:=[m 37 11,m 8 37]
def OO:=[m 22 9,ad 23 22 1,m 9 23]
def OP:=[m 38 1,m 39 1,o 40 (.lenT (.t 39)),o 41 (.bin .sub (.t 40) (aY 1)),o 42 (.prim .di [.t 38,.t 41]),o 43 (.bin .neq (.t 42) (.c (.int .u8 10))),m 44 43,dX 45 8 44,dX 46 1 44,on 47 (.lenT (.t 46)) 44,on 48 (.bin .sub (.t 47) (aY 1)) 44,on 49 (.bin .gtr (.t 45) (.t 48)) 44,or 50 44 49]
def OQ:=[o 51 (.bld [.agg [.int .i64 0,.int .i64 0],.int .i64 0,.int .i64 0,.int .i64 0,.agg [.int .i64 0,.int .i64 0],.aj ⟨#[]⟩] []),p (.aV (some 8) (.t 4) (.t 51)),bh 5 0,bh 6 87]
def OR:=[o 52 (.ia 8 1 (.t 7) (aY 1)),l 53 52,o 54 (.ia 8 1 (.t 7) (aY 2)),l 55 54,o 56 (.bld [.int .i64 0,.int .i64 0] [(0,(.t 53)),(1,(.t 55))]),o 57 (.ia 8 1 (.t 7) (aY 3)),l 58 57,o 59 (.ia 8 1 (.t 7) (aY 4)),l 60 59,o 61 (.ia 8 1 (.t 7) (aY 5)),l 62 61,o 63 (.ia 8 1 (.t 7) (aY 6)),l 64 63,o 65 (.ia 8 1 (.t 7) (aY 7)),l 66 65,o 67 (.bld [.int .i64 0,.int .i64 0] [(0,(.t 64)),(1,(.t 66))]),m 68 1,m 69 8,m 70 1,o 71 (.lenT (.t 70)),o 72 (.bin .sub (.t 71) (aY 1)),o 73 (.prim (.ss true true) [.t 68,.t 69,.t 72]),o 74 (.bld [.agg [.int .i64 0,.int .i64 0],.int .i64 0,.int .i64 0,.int .i64 0,.agg [.int .i64 0,.int .i64 0],.aj ⟨#[]⟩] [(0,(.t 56)),(1,(.t 58)),(2,(.t 60)),(3,(.t 62)),(4,(.t 67)),(5,(.t 73))]),o 13 (.alloc (.agg [.agg [.int .i64 0,.int .i64 0],.int .i64 0,.int .i64 0,.int .i64 0,.agg [.int .i64 0,.int .i64 0],.aj ⟨#[]⟩])),p (.aV (some 8) (.t 13) (.t 74))]
def JO:=some [[],[0],[],[2],[1,3],[],[5],[],[7],[],[9],[],[11],[],[13],[12,14],[],[],[],[18],[19],[16,17,20],[4,6,8,10,15,21],[],[23,22,0,1,2,3,4,5,6,7,8,9,10,11,12,13,14,15,16,17,18,19,20,21,22,23]]
def OS:=[au 75 8 13,o 76 (.call 34 [.t 75]),o 77 (.bin .neq (.t 76) (aY 0))]
def OT:=[o 78 (.bld [.agg [.int .i64 0,.int .i64 0],.int .i64 0,.int .i64 0,.int .i64 0,.agg [.int .i64 0,.int .i64 0],.aj ⟨#[]⟩] []),p (.aV (some 8) (.t 4) (.t 78)),bh 5 0,bh 6 87]
def OU:=[m 80 0,au 81 8 13,o 82 (.call 83 [.t 80,.t 81]),m 79 82,o 83 (.ext (.t 79) 0),o 84 (.ext (.t 79) 1),m 14 83,m 15 84]
def OV:=[m 85 14,m 86 1,o 87 (.bin .neq (.t 85) (.t 86))]
def OX:=[o 88 (.bld [.agg [.int .i64 0,.int .i64 0],.int .i64 0,.int .i64 0,.int .i64 0,.agg [.int .i64 0,.int .i64 0],.aj ⟨#[]⟩] []),p (.aV (some 8) (.t 4) (.t 88)),bh 5 0,bh 6 87]
def OY:=[au 89 8 13,m 90 15,p (.aV (some 8) (.t 4) (.t 89)),m 5 90,bh 6 0]
def yh:bm:=(s (r OK) (s (s (r OL) (.cond (.t 18) (s (r OW) .ret) .skip)) (s (r OZ) (s (r O0) (s (s (r O1) (.block 0 (.loop (s (s (r O2) (.cond (.t 21) .skip (.exit 0))) (s (.block 1 (s (r O3) (s (s (r O4) (.cond (.t 32) (s (r O5) .ret) .skip)) (s (r OM) (r ON))))) (r OO)))))) (s (s (r OP) (.cond (.t 50) (s (r OQ) .ret) .skip)) (s (.bS JO OR) (s (s (r OS) (.cond (.t 77) (s (r OT) .ret) .skip)) (s (r OU) (s (s (r OV) (.cond (.t 87) (s (r OX) .ret) .skip)) (s (r OY) .ret)))))))))))
def Cp:List bu:=[.cell 4 (some 8),.tmp 5,.tmp 6]
theorem HR:bY Tryz.prog Tryz.f32 yh:=e (by kernel_rfl)
theorem I6:bT Tryz.prog Tryz.f32 Cp:=e (by kernel_rfl)
theorem GL:bI Tryz.prog 32:=e (by kernel_rfl)
def O6:=[b 1 0,bh 2 0]
def O7:=[au 3 8 1,o 4 (.call 80 [.t 3]),no 5 4]
def O8:=[bh 2 80]
def O9:=[bh 2 0]
def yi:bm:=(s (r O6) (s (s (r O7) (.cond (.t 5) (s (r O8) .ret) .skip)) (s (r O9) .ret)))
def Cq:List bu:=[.tmp 2]
theorem HS:bY Tryz.prog Tryz.f33 yi:=e (by kernel_rfl)
theorem I7:bT Tryz.prog Tryz.f33 Cq:=e (by kernel_rfl)
theorem GM:bI Tryz.prog 33:=e (by kernel_rfl)
def Pa:=[b 1 0,bh 2 0]
def Pb:=[f 3 0 0 1,au 4 2 3,o 5 (.call 85 [.t 4]),no 6 5,m 7 6,fn 8 1 2 1 7,gi 9 8 7,on 10 (.call 82 [.t 9,(aY 0),(aY 40)]) 7,on 11 (.un .not (.t 10)) 7,or 12 7 11,m 13 12,fn 14 2 3 1 13,gi 15 14 13,on 16 (.call 82 [.t 15,(aY 0),(aY 100000)]) 13,on 17 (.un .not (.t 16)) 13,or 18 13 17,m 19 18,fn 20 3 4 1 19,gi 21 20 19,on 22 (.call 82 [.t 21,(aY 0),(aY 100000)]) 19,on 23 (.un .not (.t 22)) 19,or 24 19 23,m 25 24,fn 26 5 7 1 25,gi 27 26 25,on 28 (.call 86 [.t 27]) 25,on 29 (.un .not (.t 28)) 25,or 30 25 29]
def Pc:=[bh 2 80]
def Pd:=[f 31 1 2 1,l 32 31,o 33 (.bin .eql (.t 32) (aY 0))]
def Pe:=[f 34 2 3 1,l 35 34,o 36 (.bin .neq (.t 35) (aY 0)),m 37 36,fn 38 5 7 1 37,gi 39 38 37,on 40 (.bin .neq (.t 39) (.c (.aj ⟨#[]⟩))) 37,or 41 37 40,m 42 41,fn 43 4 5 1 42,on 44 (.ld (some 2) (.t 43)) 42,on 45 (.call 85 [.t 44]) 42,on 46 (.un .not (.t 45)) 42,or 47 42 46,m 48 47,fn 49 4 5 1 48,fn 50 0 0 49 48,gi 51 50 48,fn 52 0 0 1 48,fn 53 0 0 52 48,gi 54 53 48,on 55 (.bin .neq (.t 51) (.t 54)) 48,or 56 48 55,m 57 56,fn 58 4 5 1 57,fn 59 1 1 58 57,gi 60 59 57,fn 61 0 0 1 57,fn 62 1 1 61 57,gi 63 62 57,on 64 (.bin .geq (.t 60) (.t 63)) 57,or 65 57 64]
def Pf:=[bh 2 80]
def Pg:=[bh 2 0]
def Ph:=[f 66 4 5 1,au 67 2 66,o 68 (.bld [.int .i64 0,.int .i64 0] []),o 69 (.eqv (.aV [(.i .i64),(.i .i64)]) true (.t 67) (.t 68))]
def Pj:=[bh 2 80]
def Pk:=[bh 2 0]
def yj:bm:=(s (r Pa) (s (s (r Pb) (.cond (.t 30) (s (r Pc) .ret) .skip)) (s (s (r Pd) (.cond (.t 33) (s (s (r Pe) (.cond (.t 65) (s (r Pf) .ret) .skip)) (s (r Pg) .ret)) .skip)) (s (s (r Ph) (.cond (.t 69) (s (r Pj) .ret) .skip)) (s (r Pk) .ret)))))
def Cr:List bu:=[.tmp 2]
theorem HT:bY Tryz.prog Tryz.f34 yj:=e (by kernel_rfl)
theorem I8:bT Tryz.prog Tryz.f34 Cr:=e (by kernel_rfl)
theorem GN:bI Tryz.prog 34:=e (by kernel_rfl)
def Pl:=[b 3 0,b 5 2,o 6 (.alloc (.agg [.agg [.aj ⟨#[]⟩,.aj ⟨#[]⟩],.agg [.aj ⟨#[]⟩,.aj ⟨#[]⟩]])),o 7 (.mv (.c (.nils 8))),bh 8 0]
def Pm:=[au 9 4 3,m 10 1,o 11 (.call 87 [.t 9,.t 10]),no 12 11]
def Pn:=[o 13 (.bld [.agg [.aj ⟨#[]⟩,.aj ⟨#[]⟩],.agg [.aj ⟨#[]⟩,.aj ⟨#[]⟩]] []),p (.aV (some 4) (.t 6) (.t 13)),o 7 (.mv (.c (.nils 8))),bh 8 84]
def Po:=[au 14 4 3,m 15 1,au 16 8 5,o 17 (.call 88 [.t 14,.t 15,.t 16]),o 18 (.ext (.t 17) 0),o 19 (.ext (.t 17) 1),o 20 (.ext (.t 17) 2),p (.aV (some 4) (.t 6) (.t 18)),m 7 19,m 8 20]
def yk:bm:=(s (r Pl) (s (s (r Pm) (.cond (.t 12) (s (r Pn) .ret) .skip)) (s (r Po) .ret)))
def Cs:List bu:=[.cell 6 (some 4),.tmp 7,.tmp 8]
theorem HU:bY Tryz.prog Tryz.f35 yk:=e (by kernel_rfl)
theorem I9:bT Tryz.prog Tryz.f35 Cs:=e (by kernel_rfl)
theorem GO:bI Tryz.prog 35:=e (by kernel_rfl)
def Pp:=[b 2 0,b 3 1,o 4 (.alloc (.agg [.nils 8])),bh 5 0]
def Pq:=[au 9 1 2,o 10 (.call 92 [.t 9]),no 11 10,m 8 11]
def Pv:=[o 12 (.bld [.nils 8] []),p (.aV (some 1) (.t 4) (.t 12)),bh 5 81]
def Pw:=[au 14 8 3,o 15 (.call 80 [.t 14]),no 16 15,m 13 16]
def Px:=[o 17 (.bld [.nils 8] []),p (.aV (some 1) (.t 4) (.t 17)),bh 5 80]
def Py:=[au 19 1 2,f 20 0 0 3,au 21 2 20,o 22 (.call 94 [.t 19,.t 21]),m 18 22,o 23 (.ext (.t 18) 0),o 24 (.ext (.t 18) 1),m 6 23,m 7 24]
def Pz:=[m 26 7,m 27 26,en 28 0 0 2 27,gR 29 28 27,dq 30 6 27,bX 31 (.is 8 (.t 29) (.t 30)) 27,bX 32 (.ld (some 8) (.t 31)) 27,bX 33 (.ld (some 8) (.t 3)) 27,bX 34 (.eqv (.aV [(.aV [(.i .i64),(.i .i64)]),(.i .i64),(.i .i64),(.i .i64),(.aV [(.i .i64),(.i .i64)]),.s]) false (.t 32) (.t 33)) 27,and 35 27 34,m 25 35]
def JR:=some [[],[0],[1],[2,1],[1],[3,4,1],[5,1],[1],[6,7,1],[1,8],[9,1]]
def PA:=[f 36 0 0 2,l 37 36,o 38 (.call 93 [.t 37]),o 39 (.bld [.nils 8] [(0,(.t 38))]),p (.aV (some 1) (.t 4) (.t 39)),bh 5 0]
def PB:=[m 41 7,m 40 41]
def PC:=[o 42 (.bld [.nils 8] []),p (.aV (some 1) (.t 4) (.t 42)),bh 5 82]
def Pr:=[f 44 0 0 2,l 45 44,o 46 (.call 100 [.t 45]),f 47 0 0 3,f 48 0 0 47,l 49 48,o 50 (.ix 6 1 none (.t 46) (.t 49)),f 51 0 0 3,f 52 1 1 51,l 53 52,lt 54 50 53,m 43 54]
def JP:=some [[],[0],[1],[],[3],[4],[2,5],[],[7],[8],[6,9],[10,2]]
def Ps:=[o 55 (.bld [.nils 8] []),p (.aV (some 1) (.t 4) (.t 55)),bh 5 83]
def Pt:=[f 57 0 0 2,l 58 57,o 59 (.len (.t 58)),o 60 (.bin .eql (.t 59) (aY 60)),m 56 60]
def Pu:=[o 61 (.bld [.nils 8] []),p (.aV (some 1) (.t 4) (.t 61)),bh 5 2]
def uI:=[f 62 0 0 2,l 63 62,o 64 (.call 93 [.t 63]),m 65 6,au 66 8 3,o 67 (.bs 50 8 [.t 66]),o 68 (.call 101 [.t 64,.t 65,.t 67]),o 69 (.bld [.nils 8] [(0,(.t 68))]),p (.aV (some 1) (.t 4) (.t 69)),bh 5 0]
def JQ:=some [[],[0],[1],[],[],[4],[2,3,5,2],[6],[7,6,0,1,2,3,4,5,6,7],[8,0,1,2,3,4,5,6,7,8]]
def yl:bm:=(s (r Pp) (s (.block 0 (s (r Pq) (.cond (.t 8) (s (r Pv) .ret) (s (r Pw) (.cond (.t 13) (s (r Px) .ret) .skip))))) (s (r Py) (s (.block 1 (s (.bS JR Pz) (.cond (.t 25) (s (r PA) .ret) (s (r PB) (.cond (.t 40) (s (r PC) .ret) (s (.bS JP Pr) (.cond (.t 43) (s (r Ps) .ret) (s (r Pt) (.cond (.t 56) (s (r Pu) .ret) .skip))))))))) (s (.bS JQ uI) .ret)))))
def Ct:List bu:=[.cell 4 (some 1),.tmp 5]
theorem HV:bY Tryz.prog Tryz.f44 yl:=e (by kernel_rfl)
theorem Ja:bT Tryz.prog Tryz.f44 Ct:=e (by kernel_rfl)
theorem GP:bI Tryz.prog 44:=e (by kernel_rfl)
def PD:=[b 1 0,o 2 (.mv (.c (.cY)))]
def PE:=[o 3 (.mk 122 [.t 1]),m 2 3]
def ym:bm:=(s (r PD) (s (r PE) .ret))
def Cv:List bu:=[.tmp 2]
theorem HX:bY Tryz.prog Tryz.f69 ym:=e (by kernel_rfl)
theorem Jc:bT Tryz.prog Tryz.f69 Cv:=e (by kernel_rfl)
theorem GR:bI Tryz.prog 69:=e (by kernel_rfl)
def z7:=[o 4 (.alloc (.agg [.agg [.int .i64 0,.int .i64 0],.int .i64 0,.int .i64 0,.int .i64 0,.agg [.int .i64 0,.int .i64 0],.aj ⟨#[]⟩])),o 5 (.alloc (.int .i64 0)),o 6 (.alloc (.bool false))]
def PS:=[m 15 1,o 16 (.call 125 [.t 15,(.c (.aj ⟨#[10]⟩))]),m 14 16,o 17 (.ext (.t 14) 0),o 18 (.ext (.t 14) 1),m 7 17,m 8 18]
def PY:=[m 19 8,no 20 19]
def Ab:=[o 21 (.bld [] []),o 22 (.prim (.lH 176) [.t 21]),p (.prim .j7 [.t 22])]
def PZ:=[bh 9 0]
def P0:=[o 10 (.alloc (.agg [.int .i64 0,.int .i64 0,.int .i64 0,.int .i64 0,.int .i64 0,.int .i64 0,.int .i64 0]))]
def Ac:=[m 24 7,o 25 (.call 126 [.t 24]),m 23 25,o 26 (.ext (.t 23) 0),o 27 (.ext (.t 23) 1),m 9 26,m 7 27]
def P1:=[bh 28 0]
def P2:=[o 29 (.bin .lss (.t 28) (aY 7))]
def P3:=[m 30 28,m 11 30]
def z8:=[m 32 11,m 33 7,o 34 (.call 126 [.t 33]),m 31 34,o 35 (.ext (.t 31) 0),o 36 (.ext (.t 31) 1),o 37 (.ia 7 1 (.t 10) (.t 32)),p (.aV none (.t 37) (.t 35)),m 7 36]
def PT:=[ad 38 28 1,m 28 38]
def PU:=[o 39 (.ia 7 1 (.t 10) (aY 0)),l 40 39,o 41 (.ia 7 1 (.t 10) (aY 1)),l 42 41,o 43 (.bld [.int .i64 0,.int .i64 0] [(0,(.t 40)),(1,(.t 42))]),o 44 (.ia 7 1 (.t 10) (aY 2)),l 45 44,o 46 (.ia 7 1 (.t 10) (aY 3)),l 47 46,o 48 (.ia 7 1 (.t 10) (aY 4)),l 49 48,o 50 (.ia 7 1 (.t 10) (aY 5)),l 51 50,o 52 (.ia 7 1 (.t 10) (aY 6)),l 53 52,o 54 (.bld [.int .i64 0,.int .i64 0] [(0,(.t 51)),(1,(.t 53))]),m 55 7,o 56 (.bld [.agg [.int .i64 0,.int .i64 0],.int .i64 0,.int .i64 0,.int .i64 0,.agg [.int .i64 0,.int .i64 0],.aj ⟨#[]⟩] [(0,(.t 43)),(1,(.t 45)),(2,(.t 47)),(3,(.t 49)),(4,(.t 54)),(5,(.t 55))]),p (.aV (some 8) (.t 4) (.t 56))]
def PV:=[au 57 8 4,o 58 (.call 80 [.t 57]),no 59 58]
def Aa:=[o 60 (.bld [] []),o 61 (.prim (.lH 176) [.t 60]),p (.prim .j7 [.t 61])]
def PW:=[m 63 0,au 64 8 4,o 65 (.call 81 [.t 63,.t 64]),m 62 65,o 66 (.ext (.t 62) 0),o 67 (.ext (.t 62) 1),m 12 66,p (.aV none (.t 5) (.t 67))]
def PX:=[m 68 12,m 69 1,o 70 (.bin .neq (.t 68) (.t 69)),m 71 70,dX 72 9 71,gi 73 5 71,on 74 (.bin .neq (.t 72) (.t 73)) 71,or 75 71 74]
def uJ:=[o 76 (.bld [] []),o 77 (.prim (.lH 176) [.t 76]),p (.prim .j7 [.t 77])]
def uK:=[au 78 8 4,l 79 5,p (.aV (some 8) (.t 4) (.t 78)),p (.aV none (.t 5) (.t 79)),p (.aV none (.t 6) T)]
def JT:=some [[],[],[0,0],[1,2,0,1,2],[3,0,1,2,3]] -- DRAW BAD
def sB:List bu:=[.cell 4 (some 8),.cell 5 none,.cell 6 none]
theorem Jd:bT Tryz.prog Tryz.f70 sB:=e (by kernel_rfl)
theorem GS:bI Tryz.prog 70:=e (by kernel_rfl)
def P4:=[b 3 1,o 4 (.mv bl)]
def P5:=[m 5 0,o 6 (.len (.t 5)),o 7 (.bin .lss (.t 6) (aY 60)),m 8 7,dq 9 0 8,bX 10 (.call 100 [.t 9]) 8,en 11 0 0 3 8,en 12 0 0 11 8,gR 13 12 8,bX 14 (.ix 6 1 none (.t 10) (.t 13)) 8,en 15 0 0 3 8,en 16 1 1 15 8,gR 17 16 8,bX 18 (.bin .eql (.t 14) (.t 17)) 8,and 19 8 18,m 4 19]
def JU:=some [[],[0],[1],[2],[3],[4,3,3],[3],[6,3],[7,3],[5,8,3],[3],[10,3],[11,3],[9,12,3],[3,13],[14,5,0,1,2,3,4,5,6,7,8,9,10,11,12,13,14]]
def yn:bm:=(s (r P4) (s (.bS JU P5) .ret))
def Cw:List bu:=[.tmp 4]
theorem HY:bY Tryz.prog Tryz.f71 yn:=e (by kernel_rfl)
theorem Je:bT Tryz.prog Tryz.f71 Cw:=e (by kernel_rfl)
theorem GU:bI Tryz.prog 71:=e (by kernel_rfl)
def P6:=[b 1 0,o 2 (.mv (.c (.aj ⟨#[]⟩)))]
def P7:=[f 3 0 0 1,l 4 3,f 5 1 1 1,l 6 5,o 7 (.bin .add (.t 4) (.t 6)),m 2 7]
def yp:bm:=(s (r P6) (s (r P7) .ret))
def Cx:List bu:=[.tmp 2]
theorem HZ:bY Tryz.prog Tryz.f73 yp:=e (by kernel_rfl)
theorem Jf:bT Tryz.prog Tryz.f73 Cx:=e (by kernel_rfl)
theorem GV:bI Tryz.prog 73:=e (by kernel_rfl)
def P8:=[o 2 (.mv (.c (.aj ⟨#[]⟩)))]
def P9:=[m 3 0,o 4 (.call 127 [.t 3]),m 2 4]
def yq:bm:=(s (r P8) (s (r P9) .ret))
def Cy:List bu:=[.tmp 2]
theorem H0:bY Tryz.prog Tryz.f74 yq:=e (by kernel_rfl)
theorem Jg:bT Tryz.prog Tryz.f74 Cy:=e (by kernel_rfl)
theorem GW:bI Tryz.prog 74:=e (by kernel_rfl)
def Qa:=[b 3 0,o 6 (.alloc (.agg [.aj ⟨#[]⟩,.aj ⟨#[]⟩]))]
def kN:=[f 9 1 1 3,l 10 9,m 11 1,m 12 2,f 13 1 1 3,l 14 13,o 15 (.lenT (.t 14)),ad 16 15 1,o 17 (.call 121 [.t 11,.t 12,.t 16]),o 18 (.prim (.ss false true) [.t 10,.t 17]),o 19 (.ez (.t 18)),m 7 19]
def JV:=some [[],[0],[],[],[],[4],[5],[6],[2,3,7],[1,8],[9],[10,8,0,1,2,3,4,5,6,7,8,9,10]]
def Qb:=[m 20 1,m 21 2,ad 22 21 1,o 23 (.call 121 [.t 20,.t 22,(aY 2)]),o 24 (.bin .eql (.t 23) (aY 1)),m 25 24,dq 26 7 25,bX 27 (.len (.t 26)) 25,bX 28 (.bin .gtr (.t 27) (aY 0)) 25,and 29 25 28]
def Qc:=[m 30 7,m 31 1,m 32 2,ad 33 32 2,m 34 7,o 35 (.len (.t 34)),o 36 (.call 121 [.t 31,.t 33,.t 35]),o 37 (.is 1 (.t 30) (.t 36)),p (.aV none (.t 37) (.c (.int .u8 63)))]
def Qd:=[f 38 0 0 3,l 39 38,o 40 (.lenT (.t 39)),m 41 7,o 42 (.len (.t 41)),o 43 (.bin .add (.t 40) (.t 42)),o 44 (.jc 5 1 (.int .u8 0) (.t 43)),m 8 44]
def Qe:=[m 45 8,f 46 0 0 3,l 47 46,o 48 (.fK 1 (.t 45) (.t 47))]
def Qf:=[m 49 8,f 50 0 0 3,l 51 50,o 52 (.lenT (.t 51)),o 53 (.sl 1 (.t 49) (some (.t 52)) none none),m 54 7,o 55 (.fK 1 (.t 53) (.t 54))]
def Qg:=[m 56 8,o 57 (.b2s (.t 56)),o 58 (.bld [.aj ⟨#[]⟩,.aj ⟨#[]⟩] [(0,(.t 57))]),p (.aV (some 2) (.t 6) (.t 58))]
def c75:bm:=(s (r Qa) (s (.bS JV kN) (s (s (r Qb) (.cond (.t 29) (r Qc) .skip)) (s (r Qd) (s (r Qe) (s (r Qf) (s (r Qg) .ret)))))))
def Cz:List bu:=[.cell 6 (some 2)]
theorem H2:bY Tryz.prog Tryz.f75 c75:=e (by kernel_rfl)
theorem Jh:bT Tryz.prog Tryz.f75 Cz:=e (by kernel_rfl)
theorem GX:bI Tryz.prog 75:=e (by kernel_rfl)
def Qh:=[o 2 (.mv bl)]
def Qi:=[m 3 0,o 4 (.call 128 [.t 3,(aY 0),(aY 1000002)]),m 2 4]
def yr:bm:=(s (r Qh) (s (r Qi) .ret))
def CA:List bu:=[.tmp 2]
theorem H3:bY Tryz.prog Tryz.f79 yr:=e (by kernel_rfl)
theorem Ji:bT Tryz.prog Tryz.f79 CA:=e (by kernel_rfl)
theorem GY:bI Tryz.prog 79:=e (by kernel_rfl)
def Qj:=[b 1 0,o 2 (.mv bl)]
def Qk:=[f 3 0 0 1,au 4 2 3,o 5 (.call 129 [.t 4]),no 6 5,m 7 6,fn 8 1 2 1 7,gi 9 8 7,on 10 (.call 128 [.t 9,(aY 0),(aY 40)]) 7,on 11 (.un .not (.t 10)) 7,or 12 7 11,m 13 12,fn 14 2 3 1 13,gi 15 14 13,on 16 (.call 105 [.t 15]) 13,on 17 (.un .not (.t 16)) 13,or 18 13 17,m 19 18,fn 20 3 4 1 19,gi 21 20 19,on 22 (.call 105 [.t 21]) 19,on 23 (.un .not (.t 22)) 19,or 24 19 23,m 25 24,fn 26 5 7 1 25,gi 27 26 25,on 28 (.call 130 [.t 27]) 25,on 29 (.un .not (.t 28)) 25,or 30 25 29]
def Ql:=[o 2 (.mv bl)]
def Qm:=[f 31 1 2 1,l 32 31,o 33 (.bin .eql (.t 32) (aY 0))]
def Qn:=[f 34 2 3 1,l 35 34,o 36 (.bin .eql (.t 35) (aY 0)),m 37 36,en 38 5 7 1 37,gR 39 38 37,bX 40 (.bin .eql (.t 39) (.c (.aj ⟨#[]⟩))) 37,and 41 37 40,m 42 41,en 43 4 5 1 42,bX 44 (.ld (some 2) (.t 43)) 42,bX 45 (.call 129 [.t 44]) 42,and 46 42 45,m 47 46,en 48 4 5 1 47,en 49 0 0 48 47,gR 50 49 47,en 51 0 0 1 47,en 52 0 0 51 47,gR 53 52 47,bX 54 (.bin .eql (.t 50) (.t 53)) 47,and 55 47 54,m 56 55,en 57 4 5 1 56,en 58 1 1 57 56,gR 59 58 56,en 60 0 0 1 56,en 61 1 1 60 56,gR 62 61 56,bX 63 (.bin .lss (.t 59) (.t 62)) 56,and 64 56 63,m 2 64]
def Qo:=[f 65 4 5 1,au 66 2 65,o 67 (.bld [.int .i64 0,.int .i64 0] []),o 68 (.eqv (.aV [(.i .i64),(.i .i64)]) false (.t 66) (.t 67)),m 2 68]
def c80:bm:=(s (r Qj) (s (s (r Qk) (.cond (.t 30) (s (r Ql) .ret) .skip)) (s (s (r Qm) (.cond (.t 33) (s (r Qn) .ret) .skip)) (s (r Qo) .ret))))
def CB:List bu:=[.tmp 2]
theorem H4:bY Tryz.prog Tryz.f80 c80:=e (by kernel_rfl)
theorem Jj:bT Tryz.prog Tryz.f80 CB:=e (by kernel_rfl)
theorem GZ:bI Tryz.prog 80:=e (by kernel_rfl)
def Qp:=[b 3 1,o 4 (.mv (.c (.aj ⟨#[]⟩))),bh 5 0]
def Qq:=[au 9 8 3,o 10 (.call 131 [.t 9]),m 6 10]
def Qr:=[m 11 6,o 12 (.ez (.t 11)),o 13 (.len (.t 12)),bh 14 0]
def Qs:=[lt 15 14 13]
def Qt:=[o 16 (.is 1 (.t 12) (.t 14)),l 17 16,m 8 17]
def Qu:=[m 18 0,o 19 (.bin .mul (aY 257) (.t 18)),m 20 8,o 21 (.conv .i64 (.t 20)),o 22 (.bin .add (.t 19) (.t 21)),ad 23 22 1,o 24 (.bin .rem (.t 23) (aY 1000003)),m 0 24]
def Qv:=[ad 25 14 1,m 14 25]
def Qw:=[m 26 0,o 27 (.call 132 [.t 26]),o 28 (.bin .add (.t 27) (.c (.aj ⟨#[32]⟩))),m 29 6,o 30 (.bin .add (.t 28) (.t 29)),o 31 (.bin .add (.t 30) (.c (.aj ⟨#[10]⟩))),m 32 0,m 4 31,m 5 32]
def yu:bm:=(s (r Qp) (s (r Qq) (s (s (r Qr) (.block 0 (.loop (s (r Qs) (s (.cond (.t 15) .skip (.exit 0)) (s (.block 1 (s (r Qt) (r Qu))) (r Qv))))))) (s (r Qw) .ret))))
def CC:List bu:=[.tmp 4,.tmp 5]
theorem H5:bY Tryz.prog Tryz.f81 yu:=e (by kernel_rfl)
theorem Jk:bT Tryz.prog Tryz.f81 CC:=e (by kernel_rfl)
theorem G0:bI Tryz.prog 81:=e (by kernel_rfl)
def Qx:=[o 6 (.mv bl)]
def Qy:=[m 7 0,m 8 1,o 9 (.bin .geq (.t 7) (.t 8)),m 10 9,dq 11 0 10,dq 12 2 10,bX 13 (.bin .leq (.t 11) (.t 12)) 10,and 14 10 13,m 6 14]
def yw:bm:=(s (r Qx) (s (r Qy) .ret))
def CD:List bu:=[.tmp 6]
theorem H6:bY Tryz.prog Tryz.f82 yw:=e (by kernel_rfl)
theorem Jl:bT Tryz.prog Tryz.f82 CD:=e (by kernel_rfl)
theorem G1:bI Tryz.prog 82:=e (by kernel_rfl)
def Qz:=[b 3 1,o 4 (.mv (.c (.aj ⟨#[]⟩))),bh 5 0]
def QA:=[au 8 8 3,o 9 (.call 133 [.t 8]),m 6 9]
def QB:=[bh 7 0]
def QC:=[m 10 7,m 11 6,o 12 (.lenT (.t 11)),lt 13 10 12]
def QD:=[m 16 0,o 17 (.bin .mul (aY 257) (.t 16)),m 18 6,m 19 7,o 20 (.prim .di [.t 18,.t 19]),o 21 (.conv .i64 (.t 20)),o 22 (.bin .add (.t 17) (.t 21)),ad 23 22 1,o 24 (.bin .rem (.t 23) (aY 1000003)),m 0 24]
def QE:=[m 14 7,ad 15 14 1,m 7 15]
def QF:=[m 25 0,o 26 (.call 134 [.t 25]),o 27 (.bin .add (.t 26) (.c (.aj ⟨#[32]⟩))),m 28 6,o 29 (.bin .add (.t 27) (.t 28)),o 30 (.bin .add (.t 29) (.c (.aj ⟨#[10]⟩))),m 31 0,m 4 30,m 5 31]
def yx:bm:=(s (r Qz) (s (r QA) (s (s (r QB) (.block 0 (.loop (s (s (r QC) (.cond (.t 13) .skip (.exit 0))) (s (.block 1 (r QD)) (r QE)))))) (s (r QF) .ret))))
def CE:List bu:=[.tmp 4,.tmp 5]
theorem H7:bY Tryz.prog Tryz.f83 yx:=e (by kernel_rfl)
theorem Jm:bT Tryz.prog Tryz.f83 CE:=e (by kernel_rfl)
theorem G2:bI Tryz.prog 83:=e (by kernel_rfl)
def QG:=[bh 4 0,bh 5 0,o 6 (.mv bl)]
def QH:=[bh 7 0]
def QJ:=[m 9 1,m 8 9]
def QK:=[m 10 8,m 11 0,o 12 (.lenT (.t 11)),lt 13 10 12,m 14 13,dq 15 8 14,dq 16 1 14,bX 17 (.bin .add (.t 16) (aY 9)) 14,bX 18 (.bin .lss (.t 15) (.t 17)) 14,and 19 14 18]
def QL:=[m 22 0,m 23 8,o 24 (.prim .di [.t 22,.t 23]),o 25 (.bin .eql (.t 24) (.c (.int .u8 32)))]
def QM:=[m 26 7,m 27 8,ad 28 27 1,m 29 8,m 30 1,o 31 (.bin .gtr (.t 29) (.t 30)),m 4 26,m 5 28,m 6 31]
def QN:=[m 32 0,m 33 8,o 34 (.prim .di [.t 32,.t 33]),o 35 (.bin .lss (.t 34) (.c (.int .u8 48))),m 36 35,dX 37 0 36,dX 38 8 36,on 39 (.prim .di [.t 37,.t 38]) 36,on 40 (.bin .gtr (.t 39) (.c (.int .u8 57))) 36,or 41 36 40]
def QO:=[bh 4 0,bh 5 0,o 6 (.mv bl)]
def QP:=[m 42 7,o 43 (.bin .mul (aY 10) (.t 42)),m 44 0,m 45 8,o 46 (.prim .di [.t 44,.t 45]),o 47 (.bin .sub (.t 46) (.c (.int .u8 48))),o 48 (.conv .i64 (.t 47)),o 49 (.bin .add (.t 43) (.t 48)),m 7 49]
def QR:=[m 20 8,ad 21 20 1,m 8 21]
def QI:=[bh 4 0,bh 5 0,o 6 (.mv bl)]
def yz:bm:=(s (r QG) (s (r QH) (s (s (r QJ) (.block 0 (.loop (s (s (r QK) (.cond (.t 19) .skip (.exit 0))) (s (.block 1 (s (s (r QL) (.cond (.t 25) (s (r QM) .ret) .skip)) (s (s (r QN) (.cond (.t 41) (s (r QO) .ret) .skip)) (r QP)))) (r QR)))))) (s (r QI) .ret))))
def CF:List bu:=[.tmp 4,.tmp 5,.tmp 6]
theorem H8:bY Tryz.prog Tryz.f84 yz:=e (by kernel_rfl)
theorem Jn:bT Tryz.prog Tryz.f84 CF:=e (by kernel_rfl)
theorem G3:bI Tryz.prog 84:=e (by kernel_rfl)
def QS:=[b 1 0,o 2 (.mv bl)]
def QT:=[f 3 0 0 1,l 4 3,o 5 (.call 82 [.t 4,(aY 0),(aY 5)]),m 6 5,en 7 1 1 1 6,gR 8 7 6,bX 9 (.call 82 [.t 8,(aY 0),(aY 9999)]) 6,and 10 6 9,m 2 10]
def c85:bm:=(s (r QS) (s (r QT) .ret))
def CG:List bu:=[.tmp 2]
theorem H9:bY Tryz.prog Tryz.f85 c85:=e (by kernel_rfl)
theorem Jo:bT Tryz.prog Tryz.f85 CG:=e (by kernel_rfl)
theorem G4:bI Tryz.prog 85:=e (by kernel_rfl)
def QU:=[o 2 (.mv bl)]
def QV:=[m 4 0,o 5 (.lenT (.t 4)),o 6 (.bin .gtr (.t 5) (aY 160))]
def QW:=[o 2 (.mv bl)]
def QX:=[bh 3 0]
def QY:=[m 7 3,m 8 0,o 9 (.lenT (.t 8)),lt 10 7 9]
def QZ:=[m 13 0,m 14 3,o 15 (.prim .di [.t 13,.t 14]),o 16 (.bin .lss (.t 15) (.c (.int .u8 32))),m 17 16,dX 18 0 17,dX 19 3 17,on 20 (.prim .di [.t 18,.t 19]) 17,on 21 (.bin .gtr (.t 20) (.c (.int .u8 126))) 17,or 22 17 21,m 23 22,dX 24 0 23,dX 25 3 23,on 26 (.prim .di [.t 24,.t 25]) 23,on 27 (.bin .eql (.t 26) (.c (.int .u8 63))) 23,or 28 23 27]
def Q0:=[o 2 (.mv bl)]
def Q1:=[m 11 3,ad 12 11 1,m 3 12]
def Q2:=[o 2 (.mv T)]
def yA:bm:=(s (r QU) (s (s (r QV) (.cond (.t 6) (s (r QW) .ret) .skip)) (s (s (r QX) (.block 0 (.loop (s (s (r QY) (.cond (.t 10) .skip (.exit 0))) (s (.block 1 (s (r QZ) (.cond (.t 28) (s (r Q0) .ret) .skip))) (r Q1)))))) (s (r Q2) .ret))))
def CH:List bu:=[.tmp 2]
theorem Ia:bY Tryz.prog Tryz.f86 yA:=e (by kernel_rfl)
theorem Jp:bT Tryz.prog Tryz.f86 CH:=e (by kernel_rfl)
theorem G5:bI Tryz.prog 86:=e (by kernel_rfl)
def Q3:=[b 2 0,o 4 (.mv bl)]
def Q4:=[m 6 1,o 7 (.call 98 [.t 6]),no 8 7,m 9 8,fn 10 0 0 2 9,on 11 (.ld (some 2) (.t 10)) 9,on 12 (.call 73 [.t 11]) 9,dX 13 1 9,on 14 (.call 135 [.t 13]) 9,on 15 (.bin .neq (.t 12) (.t 14)) 9,or 16 9 15]
def Q5:=[o 4 (.mv bl)]
def Q6:=[m 17 1,o 18 (.len (.t 17)),ad 19 18 1,bh 20 0]
def Q7:=[lt 21 20 19]
def Q8:=[m 22 20,m 5 22]
def Q9:=[f 23 1 2 2,au 24 2 23,o 25 (.call 73 [.t 24]),m 26 1,m 27 5,o 28 (.sl 8 (.t 26) none (some (.t 27)) none),o 29 (.call 135 [.t 28]),o 30 (.bin .eql (.t 25) (.t 29))]
def JW:=some [[],[0],[1],[],[],[3,4],[5,2],[2,6]]
def Ra:=[o 4 (.mv T)]
def Rb:=[ad 31 20 1,m 20 31]
def Rc:=[o 4 (.mv bl)]
def yB:bm:=(s (r Q3) (s (s (r Q4) (.cond (.t 16) (s (r Q5) .ret) .skip)) (s (s (r Q6) (.block 0 (.loop (s (r Q7) (s (.cond (.t 21) .skip (.exit 0)) (s (.block 1 (s (r Q8) (s (.bS JW Q9) (.cond (.t 30) (s (r Ra) .ret) .skip)))) (r Rb))))))) (s (r Rc) .ret))))
def CI:List bu:=[.tmp 4]
theorem Ib:bY Tryz.prog Tryz.f87 yB:=e (by kernel_rfl)
theorem Jq:bT Tryz.prog Tryz.f87 CI:=e (by kernel_rfl)
theorem G6:bI Tryz.prog 87:=e (by kernel_rfl)
def Re:=[b 3 0,b 5 2,o 6 (.alloc (.agg [.agg [.aj ⟨#[]⟩,.aj ⟨#[]⟩],.agg [.aj ⟨#[]⟩,.aj ⟨#[]⟩]])),o 7 (.mv (.c (.nils 8))),bh 8 0]
def Rf:=[m 13 1,au 14 8 5,o 15 (.call 136 [.t 13,.t 14])]
def uL:=[au 16 4 3,m 17 1,o 18 (.call 93 [.t 17]),p (.aV (some 4) (.t 6) (.t 16)),m 7 18,bh 8 0]
def JX:=some [[],[],[1],[0,2,0],[2,3,0,1,2,3],[4,0,1,2,3,4]]
def Rg:=[m 20 1,o 21 (.call 95 [.t 20]),au 22 8 5,o 23 (.call 44 [.t 21,.t 22]),m 19 23,o 24 (.ext (.t 19) 0),o 25 (.ext (.t 19) 1),o 9 (.alloc (.agg [.nils 8])),p (.aV (some 1) (.t 9) (.t 24)),m 10 25]
def JY:=some [[],[0],[],[1,2,1],[3],[4],[4],[],[7,5,3,0,1,2,3,4,5,7],[6,8,0,1,2,3,4,5,6,7,8]]
def Rh:=[m 26 10,o 27 (.bin .neq (.t 26) (aY 0))]
def Ri:=[o 28 (.bld [.agg [.aj ⟨#[]⟩,.aj ⟨#[]⟩],.agg [.aj ⟨#[]⟩,.aj ⟨#[]⟩]] []),m 29 10,p (.aV (some 4) (.t 6) (.t 28)),o 7 (.mv (.c (.nils 8))),m 8 29]
def Rj:=[m 31 1,o 32 (.call 137 [.t 31]),au 33 8 5,o 34 (.call 81 [.t 32,.t 33]),m 30 34,o 35 (.ext (.t 30) 0),o 36 (.ext (.t 30) 1),m 11 35,m 12 36]
def JZ:=some [[],[0],[],[1,2,1],[3],[4],[4],[5,3,0,1,2,3,4,5],[6,7,0,1,2,3,4,5,6,7]]
def Rk:=[f 37 0 0 3,f 38 1 1 37,l 39 38,m 40 11,o 41 (.bin .add (.t 39) (.t 40)),f 42 0 0 3,f 43 1 1 42,p (.aV none (.t 43) (.t 41))]
def uM:=[au 44 4 3,m 45 1,o 46 (.call 93 [.t 45]),au 47 8 5,o 48 (.bs 50 8 [.t 47]),o 49 (.dM 50 8 72 (.agg [.agg [.int .i64 0,.int .i64 0],.int .i64 0,.int .i64 0,.int .i64 0,.agg [.int .i64 0,.int .i64 0],.aj ⟨#[]⟩]) (.t 46) (.t 48)),p (.aV (some 4) (.t 6) (.t 44)),m 7 49,bh 8 0]
def J0:=some [[],[],[1],[],[3],[2,4,2],[0,5,0],[5,6,0,1,2,3,4,5,6],[7,0,1,2,3,4,5,6,7]] -- DRAW BAD
def yC:bm:=(s (r Re) (s (s (r Rf) (.cond (.t 15) (s (.bS JX uL) .ret) .skip)) (s (s (.bS JY Rg) (s (r Rh) (.cond (.t 27) (s (r Ri) .ret) .skip))) (s (.bS JZ Rj) (s (r Rk) (s (.bS J0 uM) .ret))))))
def CJ:List bu:=[.cell 6 (some 4),.tmp 7,.tmp 8]
theorem Ic:bY Tryz.prog Tryz.f88 yC:=e (by kernel_rfl)
theorem Jr:bT Tryz.prog Tryz.f88 CJ:=e (by kernel_rfl)
theorem G7:bI Tryz.prog 88:=e (by kernel_rfl)
def Rl:=[o 2 (.mv (.c (.aj ⟨#[]⟩)))]
def Rm:=[o 3 (.mv (.c (.aj ⟨#[]⟩)))]
def Rn:=[bh 4 1]
def Ro:=[bh 5 0]
def Rp:=[m 8 5,m 9 0,o 10 (.len (.t 9)),lt 11 8 10]
def Rq:=[m 15 4,m 16 0,m 17 5,o 18 (.is 8 (.t 16) (.t 17)),au 19 8 18,o 20 (.call 83 [.t 15,.t 19]),m 14 20,o 21 (.ext (.t 14) 0),o 22 (.ext (.t 14) 1),m 6 21,m 7 22]
def Rr:=[m 23 3,m 24 6,o 25 (.bin .add (.t 23) (.t 24)),m 3 25]
def Rs:=[m 26 7,m 4 26]
def Rt:=[m 12 5,ad 13 12 1,m 5 13]
def Ru:=[m 27 3,m 2 27]
def yD:bm:=(s (r Rl) (s (r Rm) (s (r Rn) (s (s (r Ro) (.block 0 (.loop (s (s (r Rp) (.cond (.t 11) .skip (.exit 0))) (s (.block 1 (s (r Rq) (s (r Rr) (r Rs)))) (r Rt)))))) (s (r Ru) .ret)))))
def CK:List bu:=[.tmp 2]
theorem Ie:bY Tryz.prog Tryz.f90 yD:=e (by kernel_rfl)
theorem Js:bT Tryz.prog Tryz.f90 CK:=e (by kernel_rfl)
theorem G8:bI Tryz.prog 90:=e (by kernel_rfl)
def Rv:=[b 1 0,o 2 (.mv bl)]
def Rw:=[f 6 0 0 1,l 7 6,o 8 (.len (.t 7)),bh 9 0]
def RA:=[lt 10 9 8]
def RB:=[m 11 9,o 12 (.is 8 (.t 7) (.t 9)),au 13 8 12,o 4 (.alloc (.agg [.agg [.int .i64 0,.int .i64 0],.int .i64 0,.int .i64 0,.int .i64 0,.agg [.int .i64 0,.int .i64 0],.aj ⟨#[]⟩])),m 3 11,p (.aV (some 8) (.t 4) (.t 13))]
def RC:=[au 14 8 4,o 15 (.call 80 [.t 14]),no 16 15]
def RD:=[o 2 (.mv bl)]
def RE:=[o 17 (.bld [.int .i64 0,.int .i64 0] [(0,(.c (.int .i64 (-1))))]),o 5 (.alloc (.agg [.int .i64 0,.int .i64 0])),p (.aV (some 2) (.t 5) (.t 17))]
def RF:=[m 18 3,o 19 (.bin .gtr (.t 18) (aY 0))]
def RG:=[f 20 0 0 1,l 21 20,m 22 3,o 23 (.bin .sub (.t 22) (aY 1)),o 24 (.is 8 (.t 21) (.t 23)),f 25 0 0 24,au 26 2 25,p (.aV (some 2) (.t 5) (.t 26))]
def RH:=[f 27 0 0 4,au 28 2 27,f 29 0 0 5,l 30 29,f 31 1 1 5,l 32 31,ad 33 32 1,o 34 (.bld [.int .i64 0,.int .i64 0] [(0,(.t 30)),(1,(.t 33))]),o 35 (.eqv (.aV [(.i .i64),(.i .i64)]) true (.t 28) (.t 34)),m 36 35,en 37 0 0 4 36,en 38 0 0 37 36,gR 39 38 36,en 40 0 0 5 36,gR 41 40 36,bX 42 (.bin .leq (.t 39) (.t 41)) 36,dq 43 42 36,fn 44 0 0 4 43,fn 45 1 1 44 43,gi 46 45 43,on 47 (.bin .neq (.t 46) (aY 0)) 43,bX 48 (.pick (.t 43) T (.t 47)) 36,and 49 36 48]
def Rx:=[o 2 (.mv bl)]
def Ry:=[ad 50 9 1,m 9 50]
def Rz:=[f 51 0 0 1,l 52 51,o 53 (.len (.t 52)),o 54 (.bin .leq (.t 53) (aY 60)),m 2 54]
def yE:bm:=(s (r Rv) (s (s (r Rw) (.block 0 (.loop (s (r RA) (s (.cond (.t 10) .skip (.exit 0)) (s (.block 1 (s (r RB) (s (s (r RC) (.cond (.t 16) (s (r RD) .ret) .skip)) (s (r RE) (s (s (r RF) (.cond (.t 19) (r RG) .skip)) (s (r RH) (.cond (.t 49) (s (r Rx) .ret) .skip))))))) (r Ry))))))) (s (r Rz) .ret)))
def CL:List bu:=[.tmp 2]
theorem If:bY Tryz.prog Tryz.f92 yE:=e (by kernel_rfl)
theorem Jt:bT Tryz.prog Tryz.f92 CL:=e (by kernel_rfl)
theorem G9:bI Tryz.prog 92:=e (by kernel_rfl)
def uN:=[o 2 (.mv (.c (.nils 8)))]
def pc:=[m 3 0,o 4 (.nilS false (.t 3))]
def uO:=[o 2 (.mv (.c (.nils 8)))]
def pd:=[o 5 (.bs0 8),m 6 0,o 7 (.dM 50 8 72 (.agg [.agg [.int .i64 0,.int .i64 0],.int .i64 0,.int .i64 0,.int .i64 0,.agg [.int .i64 0,.int .i64 0],.aj ⟨#[]⟩]) (.t 5) (.t 6)),m 2 7]
def tP:bm:=(s (r uN) (s (s (r pc) (.cond (.t 4) (s (r uO) .ret) .skip)) (s (r pd) .ret)))
def vJ:List bu:=[.tmp 2]
theorem yT:bY Tryz.prog Tryz.f93 tP:=e (by kernel_rfl)
theorem y7:bT Tryz.prog Tryz.f93 vJ:=e (by kernel_rfl)
theorem yO:bI Tryz.prog 93:=e (by kernel_rfl)
def RI:=[b 2 0,b 3 1,bh 4 0,o 5 (.mv bl)]
def RJ:=[f 6 0 0 2,l 7 6,au 8 2 3,o 9 (.call 138 [.t 7,.t 8,(.c (.func 139 []))]),o 10 (.ext (.t 9) 0),o 11 (.ext (.t 9) 1),m 4 10,m 5 11]
def yF:bm:=(s (r RI) (s (r RJ) .ret))
def CM:List bu:=[.tmp 4,.tmp 5]
theorem Ig:bY Tryz.prog Tryz.f94 yF:=e (by kernel_rfl)
theorem Ju:bT Tryz.prog Tryz.f94 CM:=e (by kernel_rfl)
theorem Ha:bI Tryz.prog 94:=e (by kernel_rfl)
def RL:=[o 2 (.alloc (.agg [.nils 8]))]
def RM:=[m 4 0,o 5 (.call 93 [.t 4]),m 3 5]
def RN:=[m 6 3,o 7 (.call 141 [.t 6,(.c (.func 142 []))])]
def RO:=[m 8 3,o 9 (.bld [.nils 8] [(0,(.t 8))]),p (.aV (some 1) (.t 2) (.t 9))]
def yG:bm:=(s (r RL) (s (r RM) (s (r RN) (s (r RO) .ret))))
def CN:List bu:=[.cell 2 (some 1)]
theorem Ih:bY Tryz.prog Tryz.f95 yG:=e (by kernel_rfl)
theorem Jv:bT Tryz.prog Tryz.f95 CN:=e (by kernel_rfl)
theorem Hb:bI Tryz.prog 95:=e (by kernel_rfl)
def RP:=[o 2 (.mv bl)]
def RQ:=[m 5 0,o 6 (.len (.t 5)),bh 7 0]
def RS:=[lt 8 7 6]
def RT:=[m 9 7,o 10 (.is 8 (.t 5) (.t 7)),au 11 8 10,o 4 (.alloc (.agg [.agg [.int .i64 0,.int .i64 0],.int .i64 0,.int .i64 0,.int .i64 0,.agg [.int .i64 0,.int .i64 0],.aj ⟨#[]⟩])),m 3 9,p (.aV (some 8) (.t 4) (.t 11))]
def RU:=[au 12 8 4,o 13 (.call 80 [.t 12]),no 14 13,m 15 14,dX 16 0 15,dX 17 3 15,on 18 (.sl 8 (.t 16) none (some (.t 17)) none) 15,on 19 (.ld (some 8) (.t 4)) 15,on 20 (.call 71 [.t 18,.t 19]) 15,on 21 (.un .not (.t 20)) 15,or 22 15 21]
def J1:=some [[],[0],[1],[2,1],[3],[3],[4,5,3],[3],[6,7,3,3],[8,3],[3,9]]
def RV:=[o 2 (.mv bl)]
def RW:=[ad 23 7 1,m 7 23]
def RX:=[o 2 (.mv T)]
def yH:bm:=(s (r RP) (s (s (r RQ) (.block 0 (.loop (s (r RS) (s (.cond (.t 8) .skip (.exit 0)) (s (.block 1 (s (r RT) (s (.bS J1 RU) (.cond (.t 22) (s (r RV) .ret) .skip)))) (r RW))))))) (s (r RX) .ret)))
def CO:List bu:=[.tmp 2]
theorem Ii:bY Tryz.prog Tryz.f98 yH:=e (by kernel_rfl)
theorem Jw:bT Tryz.prog Tryz.f98 CO:=e (by kernel_rfl)
theorem Hc:bI Tryz.prog 98:=e (by kernel_rfl)
def K9:=[o 2 (.alloc (.agg [.int .i64 0,.int .i64 0,.int .i64 0,.int .i64 0,.int .i64 0,.int .i64 0]))]
def La:=[o 3 (.alloc (.agg [.int .i64 0,.int .i64 0,.int .i64 0,.int .i64 0,.int .i64 0,.int .i64 0]))]
def Lb:=[m 6 0,o 7 (.len (.t 6)),bh 8 0]
def Lc:=[lt 9 8 7]
def Ld:=[o 10 (.is 8 (.t 6) (.t 8)),au 11 8 10,o 5 (.alloc (.agg [.agg [.int .i64 0,.int .i64 0],.int .i64 0,.int .i64 0,.int .i64 0,.agg [.int .i64 0,.int .i64 0],.aj ⟨#[]⟩])),p (.aV (some 8) (.t 5) (.t 11))]
def Le:=[f 12 0 0 5,f 13 0 0 12,l 14 13,o 15 (.ia 6 1 (.t 3) (.t 14)),l 16 15,ad 17 16 1,o 18 (.ia 6 1 (.t 3) (.t 14)),p (.aV none (.t 18) (.t 17))]
def Lf:=[ad 19 8 1,m 8 19]
def Lg:=[au 20 6 3,p (.aV (some 6) (.t 2) (.t 20))]
def xG:bm:=(s (r K9) (s (r La) (s (s (r Lb) (.block 0 (.loop (s (r Lc) (s (.cond (.t 9) .skip (.exit 0)) (s (.block 1 (s (r Ld) (r Le))) (r Lf))))))) (s (r Lg) .ret))))
def BS:List bu:=[.cell 2 (some 6)]
theorem Hm:bY Tryz.prog Tryz.f100 xG:=e (by kernel_rfl)
theorem Iz:bT Tryz.prog Tryz.f100 BS:=e (by kernel_rfl)
theorem F9:bI Tryz.prog 100:=e (by kernel_rfl)
def rn:=[o 6 (.mv (.c (.nils 8)))]
def rp:=[m 10 0,m 11 1,o 12 (.sl 8 (.t 10) (some (.t 11)) none none)]
def rq:=[m 13 2,o 14 (.len (.t 13)),m 7 14]
def rr:=[m 15 7,o 16 (.bin .eql (.t 15) (aY 0))]
def Lk:=[m 17 0,m 6 17]
def ru:=[m 18 0,o 19 (.len (.t 18)),m 8 19]
def rv:=[m 20 1,m 21 8,o 22 (.bin .eql (.t 20) (.t 21))]
def pb:=[m 23 0,m 24 2,o 25 (.dM 50 8 72 (.agg [.agg [.int .i64 0,.int .i64 0],.int .i64 0,.int .i64 0,.int .i64 0,.agg [.int .i64 0,.int .i64 0],.aj ⟨#[]⟩]) (.t 23) (.t 24)),m 6 25]
def zZ:=[m 26 8,m 27 7,o 28 (.bin .add (.t 26) (.t 27)),m 29 0,o 30 (.cap (.t 29)),o 31 (.bin .gtr (.t 28) (.t 30))]
def z6:=[m 32 0,m 33 1,o 34 (.sl 8 (.t 32) none (some (.t 33)) none),m 35 8,m 36 7,o 37 (.bin .add (.t 35) (.t 36)),m 38 1,o 39 (.bin .sub (.t 37) (.t 38)),o 40 (.jl 50 8 72 (.agg [.agg [.int .i64 0,.int .i64 0],.int .i64 0,.int .i64 0,.int .i64 0,.agg [.int .i64 0,.int .i64 0],.aj ⟨#[]⟩]) (.t 34) (.t 39)),m 9 40]
def zR:=[m 41 9,m 42 1,o 43 (.sl 8 (.t 41) (some (.t 42)) none none),m 44 2,o 45 (.fK 8 (.t 43) (.t 44))]
def zS:=[m 46 9,m 47 1,m 48 7,o 49 (.bin .add (.t 47) (.t 48)),o 50 (.sl 8 (.t 46) (some (.t 49)) none none),m 51 0,m 52 1,o 53 (.sl 8 (.t 51) (some (.t 52)) none none),o 54 (.fK 8 (.t 50) (.t 53))]
def JD:=some [[],[],[],[1,2],[0,3],[],[],[5,6],[4,7]]
def zT:=[m 55 9,m 6 55]
def zU:=[m 56 0,m 57 8,m 58 7,o 59 (.bin .add (.t 57) (.t 58)),o 60 (.sl 8 (.t 56) none (some (.t 59)) none),m 0 60]
def zV:=[m 61 2,m 62 0,m 63 1,m 64 7,o 65 (.bin .add (.t 63) (.t 64)),o 66 (.sl 8 (.t 62) (some (.t 65)) none none),o 67 (.gu 143 [.t 61,.t 66]),no 68 67]
def zW:=[m 69 0,m 70 1,m 71 7,o 72 (.bin .add (.t 70) (.t 71)),o 73 (.sl 8 (.t 69) (some (.t 72)) none none),m 74 0,m 75 1,o 76 (.sl 8 (.t 74) (some (.t 75)) none none),o 77 (.fK 8 (.t 73) (.t 76))]
def JE:=some [[],[],[],[1,2],[0,3],[],[],[5,6],[4,7]]
def zX:=[m 78 0,m 79 1,o 80 (.sl 8 (.t 78) (some (.t 79)) none none),m 81 2,o 82 (.fK 8 (.t 80) (.t 81))]
def zY:=[m 83 0,m 6 83]
def Lh:=[m 84 0,m 85 8,o 86 (.sl 8 (.t 84) (some (.t 85)) none none),m 87 2,o 88 (.fK 8 (.t 86) (.t 87))]
def Li:=[m 89 0,m 90 1,o 91 (.sl 8 (.t 89) (some (.t 90)) none none),m 92 7,o 93 (.call 144 [.t 91,.t 92])]
def Lj:=[m 94 0,m 6 94]
def qM:bm:=(s (r rn) (s (r rp) (s (r rq) (s (s (r rr) (.cond (.t 16) (s (r Lk) .ret) .skip)) (s (r ru) (s (s (r rv) (.cond (.t 22) (s (r pb) .ret) .skip)) (s (s (r zZ) (.cond (.t 31) (s (r z6) (s (r zR) (s (.bS JD zS) (s (r zT) .ret)))) .skip)) (s (r zU) (s (s (r zV) (.cond (.t 68) (s (.bS JE zW) (s (r zX) (s (r zY) .ret))) .skip)) (s (r Lh) (s (r Li) (s (r Lj) .ret))))))))))))
def sy:List bu:=[.tmp 6]
theorem tU:bY Tryz.prog Tryz.f101 qM:=e (by kernel_rfl)
theorem ub:bT Tryz.prog Tryz.f101 sy:=e (by kernel_rfl)
theorem tQ:bI Tryz.prog 101:=e (by kernel_rfl)
def Ll:=[o 2 (.mv bl)]
def Lm:=[m 3 0,o 4 (.call 128 [.t 3,(aY 0),(aY 100000)]),m 2 4]
def xH:bm:=(s (r Ll) (s (r Lm) .ret))
def BT:List bu:=[.tmp 2]
theorem Hn:bY Tryz.prog Tryz.f105 xH:=e (by kernel_rfl)
theorem IA:bT Tryz.prog Tryz.f105 BT:=e (by kernel_rfl)
theorem Ga:bI Tryz.prog 105:=e (by kernel_rfl)
def Ln:=[bh 6 0]
def Lo:=[m 7 0,o 8 (.len (.t 7)),o 9 (.bin .eql (.t 8) (aY 0))]
def Lp:=[bh 6 0]
def Lq:=[m 10 0,m 11 1,m 12 0,o 13 (.len (.t 12)),o 14 (.bin .rem (.t 11) (.t 13)),o 15 (.is 1 (.t 10) (.t 14)),l 16 15,m 17 2,o 18 (.bin .rem (.t 16) (.t 17)),m 19 2,o 20 (.bin .add (.t 18) (.t 19)),m 21 2,o 22 (.bin .rem (.t 20) (.t 21)),m 6 22]
def xI:bm:=(s (r Ln) (s (s (r Lo) (.cond (.t 9) (s (r Lp) .ret) .skip)) (s (r Lq) .ret)))
def BU:List bu:=[.tmp 6]
theorem Ho:bY Tryz.prog Tryz.f121 xI:=e (by kernel_rfl)
theorem IB:bT Tryz.prog Tryz.f121 BU:=e (by kernel_rfl)
theorem Gb:bI Tryz.prog 121:=e (by kernel_rfl)
def Lr:=[l 4 1,o 5 (.bin .neq (.t 4) (.c (.aj ⟨#[]⟩)))]
def Ls:=[l 6 1,o 7 (.call 123 [.t 6,(.c (.int .u8 10))]),m 3 7]
def Lt:=[m 8 3,o 9 (.bin .lss (.t 8) (aY 0)),m 10 9,dX 11 0 10,gi 12 1 10,dX 13 3 10,on 14 (.bin .add (.t 13) (aY 1)) 10,on 15 (.prim (.ss false true) [.t 12,.t 14]) 10,on 16 (.eR (.t 11) [.t 15]) 10,on 17 (.un .not (.t 16)) 10,or 18 10 17]
def Lu:=[l 19 1,m 20 3,ad 21 20 1,o 22 (.prim (.ss true false) [.t 19,.t 21]),p (.aV none (.t 1) (.t 22))]
def xJ:bm:=(.block 0 (.loop (s (s (r Lr) (.cond (.t 5) .skip (.exit 0))) (.block 1 (s (r Ls) (s (s (r Lt) (.cond (.t 18) .ret .skip)) (r Lu)))))))
def BV:List bu:=[]
theorem Hp:bY Tryz.prog Tryz.f122 xJ:=e (by kernel_rfl)
theorem IC:bT Tryz.prog Tryz.f122 BV:=e (by kernel_rfl)
theorem yK:bI Tryz.prog 122:=e (by kernel_rfl)
theorem Gc:bI Tryz.prog 123:=e (by kernel_rfl)
theorem yL:bI Tryz.prog 124:=e (by kernel_rfl)
theorem Gd:bI Tryz.prog 125:=e (by kernel_rfl)
def Lv:=[bh 2 0,o 3 (.mv (.c (.aj ⟨#[]⟩)))]
def Lw:=[m 10 0,o 11 (.call 154 [.t 10,(.c (.aj ⟨#[32]⟩))]),m 9 11,o 12 (.ext (.t 9) 0),o 13 (.ext (.t 9) 1),o 14 (.ext (.t 9) 2),m 4 12,m 5 13,m 6 14]
def Lx:=[m 16 4,o 17 (.call 155 [.t 16]),m 15 17,o 18 (.ext (.t 15) 0),o 19 (.ext (.t 15) 1),m 7 18,m 8 19]
def Ly:=[m 20 6,no 21 20,m 22 21,dX 23 8 22,on 24 (.prim (.mn true) [.t 23]) 22,or 25 22 24]
def ry:=[o 26 (.bld [] []),o 27 (.prim (.lH 176) [.t 26]),p (.prim .j7 [.t 27])]
def Lz:=[m 28 7,m 29 5,m 2 28,m 3 29]
def tO:bm:=(s (r Lv) (s (r Lw) (s (r Lx) (s (s (r Ly) (.cond (.t 25) (r ry) .skip)) (s (r Lz) .ret)))))
def BW:List bu:=[.tmp 2,.tmp 3]
theorem yS:bY Tryz.prog Tryz.f126 tO:=e (by kernel_rfl)
theorem ID:bT Tryz.prog Tryz.f126 BW:=e (by kernel_rfl)
theorem yM:bI Tryz.prog 126:=e (by kernel_rfl)
theorem Ge:bI Tryz.prog 127:=e (by kernel_rfl)
def LA:=[o 6 (.mv bl)]
def LB:=[m 7 1,m 8 0,o 9 (.bin .leq (.t 7) (.t 8)),m 10 9,dq 11 0 10,dq 12 2 10,bX 13 (.bin .leq (.t 11) (.t 12)) 10,and 14 10 13,m 6 14]
def xK:bm:=(s (r LA) (s (r LB) .ret))
def BX:List bu:=[.tmp 6]
theorem Hq:bY Tryz.prog Tryz.f128 xK:=e (by kernel_rfl)
theorem IE:bT Tryz.prog Tryz.f128 BX:=e (by kernel_rfl)
theorem Gf:bI Tryz.prog 128:=e (by kernel_rfl)
def LC:=[b 1 0,o 2 (.mv bl)]
def LD:=[f 3 0 0 1,l 4 3,o 5 (.call 128 [.t 4,(aY 0),(aY 5)]),m 6 5,en 7 1 1 1 6,gR 8 7 6,bX 9 (.call 128 [.t 8,(aY 0),(aY 9999)]) 6,and 10 6 9,m 2 10]
def xL:bm:=(s (r LC) (s (r LD) .ret))
def BY:List bu:=[.tmp 2]
theorem Hr:bY Tryz.prog Tryz.f129 xL:=e (by kernel_rfl)
theorem IF:bT Tryz.prog Tryz.f129 BY:=e (by kernel_rfl)
theorem Gg:bI Tryz.prog 129:=e (by kernel_rfl)
def LF:=[o 2 (.mv bl)]
def LG:=[m 5 0,o 6 (.lenT (.t 5)),o 7 (.bin .gtr (.t 6) (aY 160))]
def LH:=[o 2 (.mv bl)]
def LI:=[m 8 0,o 9 (.ez (.t 8)),o 10 (.len (.t 9)),bh 11 0]
def LJ:=[lt 12 11 10]
def LK:=[o 13 (.is 1 (.t 9) (.t 11)),l 14 13,m 4 14]
def LL:=[m 15 4,o 16 (.bin .lss (.t 15) (.c (.int .u8 32))),m 17 16,dX 18 4 17,on 19 (.bin .gtr (.t 18) (.c (.int .u8 126))) 17,or 20 17 19,m 21 20,dX 22 4 21,on 23 (.bin .eql (.t 22) (.c (.int .u8 63))) 21,or 24 21 23]
def LM:=[o 2 (.mv bl)]
def LN:=[ad 25 11 1,m 11 25]
def LO:=[o 2 (.mv T)]
def xM:bm:=(s (r LF) (s (s (r LG) (.cond (.t 7) (s (r LH) .ret) .skip)) (s (s (r LI) (.block 0 (.loop (s (r LJ) (s (.cond (.t 12) .skip (.exit 0)) (s (.block 1 (s (r LK) (s (r LL) (.cond (.t 24) (s (r LM) .ret) .skip)))) (r LN))))))) (s (r LO) .ret))))
def BZ:List bu:=[.tmp 2]
theorem Hs:bY Tryz.prog Tryz.f130 xM:=e (by kernel_rfl)
theorem IG:bT Tryz.prog Tryz.f130 BZ:=e (by kernel_rfl)
theorem Gh:bI Tryz.prog 130:=e (by kernel_rfl)
theorem Gi:bI Tryz.prog 131:=e (by kernel_rfl)
theorem Gj:bI Tryz.prog 132:=e (by kernel_rfl)
def LP:=[b 1 0,o 2 (.mv (.c (.aj ⟨#[]⟩)))]
def LQ:=[f 4 0 0 1,f 5 0 0 4,l 6 5,o 7 (.call 134 [.t 6]),o 8 (.bin .add (.t 7) (.c (.aj ⟨#[32]⟩))),f 9 0 0 1,f 10 1 1 9,l 11 10,o 12 (.call 134 [.t 11]),o 13 (.bin .add (.t 8) (.t 12)),o 14 (.bin .add (.t 13) (.c (.aj ⟨#[32]⟩))),f 15 1 2 1,l 16 15,o 17 (.call 134 [.t 16]),o 18 (.bin .add (.t 14) (.t 17)),o 19 (.bin .add (.t 18) (.c (.aj ⟨#[32]⟩))),f 20 2 3 1,l 21 20,o 22 (.call 134 [.t 21]),o 23 (.bin .add (.t 19) (.t 22)),o 24 (.bin .add (.t 23) (.c (.aj ⟨#[32]⟩))),f 25 3 4 1,l 26 25,o 27 (.call 134 [.t 26]),o 28 (.bin .add (.t 24) (.t 27)),o 29 (.bin .add (.t 28) (.c (.aj ⟨#[32]⟩))),m 3 29]
def JF:=some [[],[0],[1],[2],[3],[],[5],[6],[7,3],[4,8],[9],[],[11],[12,8],[10,13],[14],[],[16],[17,13],[15,18],[19],[],[21],[22,18],[20,23],[24],[25,23,0,1,2,3,4,5,6,7,8,9,10,11,12,13,14,15,16,17,18,19,20,21,22,23,24,25]]
def LR:=[m 30 3,f 31 4 5 1,f 32 0 0 31,l 33 32,o 34 (.call 134 [.t 33]),o 35 (.bin .add (.t 30) (.t 34)),o 36 (.bin .add (.t 35) (.c (.aj ⟨#[32]⟩))),f 37 4 5 1,f 38 1 1 37,l 39 38,o 40 (.call 134 [.t 39]),o 41 (.bin .add (.t 36) (.t 40)),o 42 (.bin .add (.t 41) (.c (.aj ⟨#[32]⟩))),f 43 5 7 1,l 44 43,o 45 (.bin .add (.t 42) (.t 44)),m 2 45]
def JG:=some [[],[],[1],[2],[3],[0,4],[5],[],[7],[8],[9,4],[6,10],[11],[],[13],[12,14],[15,10,0,1,2,3,4,5,6,7,8,9,10,11,12,13,14,15]]
def xN:bm:=(s (r LP) (s (.bS JF LQ) (s (.bS JG LR) .ret)))
def B1:List bu:=[.tmp 2]
theorem Ht:bY Tryz.prog Tryz.f133 xN:=e (by kernel_rfl)
theorem IH:bT Tryz.prog Tryz.f133 B1:=e (by kernel_rfl)
theorem Gk:bI Tryz.prog 133:=e (by kernel_rfl)
def LS:=[o 2 (.mv (.c (.aj ⟨#[]⟩)))]
def LU:=[m 4 0,o 5 (.bin .rem (.t 4) (aY 10)),o 6 (.bin .add (aY 48) (.t 5)),o 7 (.conv .u8 (.t 6)),o 8 (.bs 5 1 [.t 7]),o 9 (.b2s (.t 8)),m 3 9]
def LV:=[m 10 0,o 11 (.bin .geq (.t 10) (aY 10))]
def LW:=[m 12 0,o 13 (.bin .quo (.t 12) (aY 10)),m 0 13]
def LX:=[m 14 0,o 15 (.bin .rem (.t 14) (aY 10)),o 16 (.bin .add (aY 48) (.t 15)),o 17 (.conv .u8 (.t 16)),o 18 (.bs 5 1 [.t 17]),o 19 (.b2s (.t 18)),m 20 3,o 21 (.bin .add (.t 19) (.t 20)),m 3 21]
def LY:=[m 22 3,m 2 22]
def xO:bm:=(s (r LS) (s (r LU) (s (.block 0 (.loop (s (s (r LV) (.cond (.t 11) .skip (.exit 0))) (.block 1 (s (r LW) (r LX)))))) (s (r LY) .ret))))
def B3:List bu:=[.tmp 2]
theorem Hu:bY Tryz.prog Tryz.f134 xO:=e (by kernel_rfl)
theorem II:bT Tryz.prog Tryz.f134 B3:=e (by kernel_rfl)
theorem Gl:bI Tryz.prog 134:=e (by kernel_rfl)
theorem Gm:bI Tryz.prog 135:=e (by kernel_rfl)
def LZ:=[b 3 1,o 4 (.mv bl)]
def L0:=[m 5 0,au 6 8 3,o 7 (.call 159 [.t 5,.t 6]),o 8 (.bin .geq (.t 7) (aY 0)),m 4 8]
def xP:bm:=(s (r LZ) (s (r L0) .ret))
def B4:List bu:=[.tmp 4]
theorem Hv:bY Tryz.prog Tryz.f136 xP:=e (by kernel_rfl)
theorem IJ:bT Tryz.prog Tryz.f136 B4:=e (by kernel_rfl)
theorem Gn:bI Tryz.prog 136:=e (by kernel_rfl)
def L1:=[bh 2 0]
def L2:=[bh 3 1]
def L3:=[m 6 0,o 7 (.len (.t 6)),bh 8 0]
def L4:=[lt 9 8 7]
def L5:=[o 10 (.is 8 (.t 6) (.t 8)),au 11 8 10,o 5 (.alloc (.agg [.agg [.int .i64 0,.int .i64 0],.int .i64 0,.int .i64 0,.int .i64 0,.agg [.int .i64 0,.int .i64 0],.aj ⟨#[]⟩])),p (.aV (some 8) (.t 5) (.t 11))]
def L6:=[m 13 3,au 14 8 5,o 15 (.call 81 [.t 13,.t 14]),m 12 15,o 16 (.ext (.t 12) 0),o 17 (.ext (.t 12) 1),m 3 17]
def L7:=[ad 18 8 1,m 8 18]
def L8:=[m 19 3,m 2 19]
def xQ:bm:=(s (r L1) (s (r L2) (s (s (r L3) (.block 0 (.loop (s (r L4) (s (.cond (.t 9) .skip (.exit 0)) (s (.block 1 (s (r L5) (r L6))) (r L7))))))) (s (r L8) .ret))))
def B5:List bu:=[.tmp 2]
theorem Hw:bY Tryz.prog Tryz.f137 xQ:=e (by kernel_rfl)
theorem IK:bT Tryz.prog Tryz.f137 B5:=e (by kernel_rfl)
theorem Gp:bI Tryz.prog 137:=e (by kernel_rfl)
def L9:=[b 4 1,bh 6 0,o 7 (.mv bl)]
def Ma:=[m 12 0,o 13 (.len (.t 12)),m 8 13]
def Mb:=[m 14 8,bh 9 0,m 10 14]
def Mc:=[m 15 9,m 16 10,lt 17 15 16]
def Md:=[m 18 9,m 19 10,o 20 (.bin .add (.t 18) (.t 19)),o 21 (.conv .u64 (.t 20)),o 22 (.bin .shr (.t 21) (.c (.int .u64 1))),o 23 (.conv .i64 (.t 22)),m 11 23]
def Me:=[m 24 2,m 25 0,m 26 11,o 27 (.is 8 (.t 25) (.t 26)),au 28 8 27,au 29 2 4,o 30 (.eR (.t 24) [.t 28,.t 29]),o 31 (.bin .lss (.t 30) (aY 0))]
def JH:=some [[],[],[],[1,2],[3],[],[0,4,5],[6]]
def Mf:=[m 32 11,ad 33 32 1,m 9 33]
def Mg:=[m 34 11,m 10 34]
def Mh:=[m 35 9,m 36 9,m 37 8,lt 38 36 37,m 39 38,dq 40 2 39,dq 41 0 39,dq 42 9 39,bX 43 (.is 8 (.t 41) (.t 42)) 39,bX 44 (.ld (some 8) (.t 43)) 39,bX 45 (.ld (some 2) (.t 4)) 39,bX 46 (.eR (.t 40) [.t 44,.t 45]) 39,bX 47 (.bin .eql (.t 46) (aY 0)) 39,and 48 39 47,m 6 35,m 7 48]
def JI:=some [[],[],[],[1,2],[3],[4],[4],[4],[6,7,4],[8,4],[4],[5,9,10,4,4],[11,4],[4,12],[0,11,0],[13,14,0,1,2,3,4,5,6,7,8,9,10,11,12,13,14]]
def xR:bm:=(s (r L9) (s (r Ma) (s (r Mb) (s (.block 0 (.loop (s (s (r Mc) (.cond (.t 17) .skip (.exit 0))) (.block 1 (s (r Md) (s (.bS JH Me) (.cond (.t 31) (r Mf) (r Mg)))))))) (s (.bS JI Mh) .ret)))))
def B6:List bu:=[.tmp 6,.tmp 7]
theorem Hx:bY Tryz.prog Tryz.f138 xR:=e (by kernel_rfl)
theorem IL:bT Tryz.prog Tryz.f138 B6:=e (by kernel_rfl)
theorem Gq:bI Tryz.prog 138:=e (by kernel_rfl)
def Mi:=[b 2 0,b 3 1,bh 4 0]
def Mj:=[f 5 0 0 2,au 6 2 5,au 7 2 3,o 8 (.call 140 [.t 6,.t 7]),m 4 8]
def xS:bm:=(s (r Mi) (s (r Mj) .ret))
def B7:List bu:=[.tmp 4]
theorem Hy:bY Tryz.prog Tryz.f139 xS:=e (by kernel_rfl)
theorem IM:bT Tryz.prog Tryz.f139 B7:=e (by kernel_rfl)
theorem Gr:bI Tryz.prog 139:=e (by kernel_rfl)
def Mk:=[b 2 0,b 3 1,bh 4 0]
def Ml:=[f 5 0 0 2,l 6 5,f 7 0 0 3,l 8 7,o 9 (.call 161 [.t 6,.t 8]),f 10 1 1 2,l 11 10,f 12 1 1 3,l 13 12,o 14 (.call 161 [.t 11,.t 13]),o 15 (.bs 3 1 [.t 9,.t 14]),o 16 (.call 160 [.t 15]),m 4 16]
def JJ:=some [[],[0],[],[2],[1,3],[],[5],[],[7],[6,8,4],[4,9],[10,9],[11,11,0,1,2,3,4,5,6,7,8,9,10,11]]
def xU:bm:=(s (r Mk) (s (.bS JJ Ml) .ret))
def B9:List bu:=[.tmp 4]
theorem HA:bY Tryz.prog Tryz.f140 xU:=e (by kernel_rfl)
theorem IP:bT Tryz.prog Tryz.f140 B9:=e (by kernel_rfl)
theorem Gt:bI Tryz.prog 140:=e (by kernel_rfl)
theorem Gv:bI Tryz.prog 152:=e (by kernel_rfl)
def My:=[o 4 (.mv (.c (.aj ⟨#[]⟩))),o 5 (.mv (.c (.aj ⟨#[]⟩))),o 6 (.mv bl)]
def Mz:=[m 7 0,m 8 1,o 9 (.call 170 [.t 7,.t 8]),o 10 (.ext (.t 9) 0),o 11 (.ext (.t 9) 1),o 12 (.ext (.t 9) 2),m 4 10,m 5 11,m 6 12]
def xW:bm:=(s (r My) (s (r Mz) .ret))
def Cb:List bu:=[.tmp 4,.tmp 5,.tmp 6]
theorem HC:bY Tryz.prog Tryz.f154 xW:=e (by kernel_rfl)
theorem IS:bT Tryz.prog Tryz.f154 Cb:=e (by kernel_rfl)
theorem Gw:bI Tryz.prog 154:=e (by kernel_rfl)
theorem Gx:bI Tryz.prog 155:=e (by kernel_rfl)
def MA:=[b 3 1,bh 4 0]
def MB:=[m 6 0,o 7 (.len (.t 6)),bh 8 0]
def MC:=[lt 9 8 7]
def MD:=[m 10 8,m 5 10]
def ME:=[au 11 8 3,m 12 0,m 13 5,o 14 (.is 8 (.t 12) (.t 13)),au 15 8 14,o 16 (.eqv (.aV [(.aV [(.i .i64),(.i .i64)]),(.i .i64),(.i .i64),(.i .i64),(.aV [(.i .i64),(.i .i64)]),.s]) false (.t 11) (.t 15))]
def JK:=some [[],[],[],[1,2],[3],[0,4]]
def MF:=[m 17 5,m 4 17]
def MG:=[ad 18 8 1,m 8 18]
def MH:=[bh 4 (-1)]
def xX:bm:=(s (r MA) (s (s (r MB) (.block 0 (.loop (s (r MC) (s (.cond (.t 9) .skip (.exit 0)) (s (.block 1 (s (r MD) (s (.bS JK ME) (.cond (.t 16) (s (r MF) .ret) .skip)))) (r MG))))))) (s (r MH) .ret)))
def Cc:List bu:=[.tmp 4]
theorem HD:bY Tryz.prog Tryz.f159 xX:=e (by kernel_rfl)
theorem IT:bT Tryz.prog Tryz.f159 Cc:=e (by kernel_rfl)
theorem Gy:bI Tryz.prog 159:=e (by kernel_rfl)
def MU:=[bh 2 0]
def MV:=[bh 3 0]
def MW:=[m 6 0,o 7 (.len (.t 6)),bh 8 0]
def MX:=[lt 9 8 7]
def MY:=[o 10 (.is 1 (.t 6) (.t 8)),l 11 10,m 5 11]
def MZ:=[m 12 5,m 13 3,o 14 (.bin .neq (.t 12) (.t 13))]
def M0:=[m 15 5,m 2 15]
def M2:=[ad 16 8 1,m 8 16]
def M3:=[m 17 3,m 2 17]
def xY:bm:=(s (r MU) (s (r MV) (s (s (r MW) (.block 0 (.loop (s (r MX) (s (.cond (.t 9) .skip (.exit 0)) (s (.block 1 (s (r MY) (s (r MZ) (.cond (.t 14) (s (r M0) .ret) .skip)))) (r M2))))))) (s (r M3) .ret))))
def Cd:List bu:=[.tmp 2]
theorem HE:bY Tryz.prog Tryz.f160 xY:=e (by kernel_rfl)
theorem IU:bT Tryz.prog Tryz.f160 Cd:=e (by kernel_rfl)
theorem Gz:bI Tryz.prog 160:=e (by kernel_rfl)
def M4:=[bh 4 0]
def M5:=[m 7 0,o 8 (.call 175 [.t 7]),m 5 8]
def Na:=[m 9 1,o 10 (.call 175 [.t 9]),m 6 10]
def Nb:=[m 11 5]
def Nc:=[m 12 6]
def Nd:=[bh 4 0]
def Nf:=[bh 4 (-1)]
def Ng:=[m 13 6]
def Nh:=[bh 4 1]
def Ni:=[m 14 0,m 15 1,lt 16 14 15]
def M6:=[bh 4 (-1)]
def M7:=[m 17 0,m 18 1,o 19 (.bin .gtr (.t 17) (.t 18))]
def M8:=[bh 4 1]
def M9:=[bh 4 0]
def xZ:bm:=(s (r M4) (s (r M5) (s (r Na) (s (s (r Nb) (.cond (.t 11) (s (s (r Nc) (.cond (.t 12) (s (r Nd) .ret) .skip)) (s (r Nf) .ret)) .skip)) (s (s (r Ng) (.cond (.t 13) (s (r Nh) .ret) .skip)) (s (s (r Ni) (.cond (.t 16) (s (r M6) .ret) .skip)) (s (s (r M7) (.cond (.t 19) (s (r M8) .ret) .skip)) (s (r M9) .ret))))))))
def Ce:List bu:=[.tmp 4]
theorem HF:bY Tryz.prog Tryz.f161 xZ:=e (by kernel_rfl)
theorem IV:bT Tryz.prog Tryz.f161 Ce:=e (by kernel_rfl)
theorem GA:bI Tryz.prog 161:=e (by kernel_rfl)
def Nj:=[o 4 (.mv (.c (.aj ⟨#[]⟩))),o 5 (.mv (.c (.aj ⟨#[]⟩))),o 6 (.mv bl)]
def Nk:=[m 8 0,m 9 1,o 10 (.call 188 [.t 8,.t 9]),m 7 10]
def Nl:=[m 11 7,o 12 (.bin .geq (.t 11) (aY 0))]
def Nn:=[m 13 0,m 14 7,o 15 (.prim (.ss false true) [.t 13,.t 14]),m 16 0,m 17 7,m 18 1,o 19 (.lenT (.t 18)),o 20 (.bin .add (.t 17) (.t 19)),o 21 (.prim (.ss true false) [.t 16,.t 20]),m 4 15,m 5 21,o 6 (.mv T)]
def JM:=some [[],[],[0,1],[],[],[],[5],[4,6],[3,7],[2,0,1,2],[8,9,0,1,2,3,4,5,6,7,8,9],[10,0,1,2,3,4,5,6,7,8,9,10]]
def Np:=[m 22 0,m 4 22,o 5 (.mv (.c (.aj ⟨#[]⟩))),o 6 (.mv bl)]
def x8:bm:=(s (r Nj) (s (s (r Nk) (s (r Nl) (.cond (.t 12) (s (.bS JM Nn) .ret) .skip))) (s (r Np) .ret)))
def Cf:List bu:=[.tmp 4,.tmp 5,.tmp 6]
theorem HG:bY Tryz.prog Tryz.f170 x8:=e (by kernel_rfl)
theorem IW:bT Tryz.prog Tryz.f170 Cf:=e (by kernel_rfl)
theorem yN:bI Tryz.prog 170:=e (by kernel_rfl)
def Nq:=[o 2 (.mv bl)]
def Nr:=[m 3 0,m 4 0,o 5 (.bin .neq (.t 3) (.t 4)),m 2 5]
def c175:bm:=(s (r Nq) (s (r Nr) .ret))
def Cg:List bu:=[.tmp 2]
theorem HI:bY Tryz.prog Tryz.f175 c175:=e (by kernel_rfl)
theorem IX:bT Tryz.prog Tryz.f175 Cg:=e (by kernel_rfl)
theorem GB:bI Tryz.prog 175:=e (by kernel_rfl)
def Nt:=[bh 4 0]
def Nu:=[m 14 1,o 15 (.lenT (.t 14)),m 5 15]
def NG:=[m 17 5,o 18 (.bin .eql (.t 17) (aY 0)),m 19 18,dX 20 1 19,dX 21 0 19,on 22 (.bin .eql (.t 20) (.t 21)) 19,or 23 19 22,m 16 23]
def NR:=[bh 4 0]
def NV:=[m 25 5,o 26 (.bin .eql (.t 25) (aY 1)),m 24 26]
def NW:=[m 27 0,m 28 1,o 29 (.prim .di [.t 28,(aY 0)]),o 30 (.call 152 [.t 27,.t 29]),m 4 30]
def NX:=[m 32 5,m 33 0,o 34 (.lenT (.t 33)),o 35 (.bin .geq (.t 32) (.t 34)),m 31 35]
def NY:=[bh 4 (-1)]
def NZ:=[m 45 0,m 46 1,o 47 (.gu 204 [.t 45,.t 46]),m 4 47]
def N0:=[m 48 1,o 49 (.prim .di [.t 48,(aY 0)]),m 6 49]
def Nv:=[m 50 1,o 51 (.prim .di [.t 50,(aY 1)]),m 7 51]
def Nw:=[bh 8 0]
def Nx:=[m 52 0,o 53 (.lenT (.t 52)),m 54 5,o 55 (.bin .sub (.t 53) (.t 54)),ad 56 55 1,m 9 56]
def Ny:=[bh 10 0]
def Nz:=[m 57 8,m 58 9,lt 59 57 58]
def NA:=[m 60 0,m 61 8,o 62 (.prim .di [.t 60,.t 61]),m 63 6,o 64 (.bin .neq (.t 62) (.t 63))]
def NB:=[m 65 0,m 66 8,ad 67 66 1,m 68 9,o 69 (.prim (.ss true true) [.t 65,.t 67,.t 68]),m 70 6,o 71 (.call 152 [.t 69,.t 70]),m 11 71]
def NC:=[m 72 11,o 73 (.bin .lss (.t 72) (aY 0))]
def ND:=[bh 4 (-1)]
def NF:=[m 74 8,m 75 11,ad 76 75 1,o 77 (.bin .add (.t 74) (.t 76)),m 8 77]
def NH:=[m 78 0,m 79 8,ad 80 79 1,o 81 (.prim .di [.t 78,.t 80]),m 82 7,o 83 (.bin .eql (.t 81) (.t 82)),m 84 83,dq 85 0 84,dq 86 8 84,dq 87 8 84,dq 88 5 84,bX 89 (.bin .add (.t 87) (.t 88)) 84,bX 90 (.prim (.ss true true) [.t 85,.t 86,.t 89]) 84,dq 91 1 84,bX 92 (.bin .eql (.t 90) (.t 91)) 84,and 93 84 92]
def NI:=[m 94 8,m 4 94]
def NJ:=[m 95 8,ad 96 95 1,m 8 96]
def NK:=[m 97 10,ad 98 97 1,m 10 98]
def NL:=[m 108 0,m 109 8,o 110 (.prim (.ss true false) [.t 108,.t 109]),m 111 1,o 112 (.gu 204 [.t 110,.t 111]),m 12 112]
def NM:=[m 113 12,o 114 (.bin .geq (.t 113) (aY 0))]
def NN:=[m 115 12,m 116 8,o 117 (.bin .add (.t 115) (.t 116)),m 4 117]
def NO:=[bh 4 (-1)]
def NP:=[m 133 0,m 134 8,o 135 (.prim (.ss true false) [.t 133,.t 134]),m 136 1,o 137 (.call 206 [.t 135,.t 136]),m 13 137]
def NQ:=[m 138 13,o 139 (.bin .lss (.t 138) (aY 0))]
def NS:=[bh 4 (-1)]
def NT:=[m 140 8,m 141 13,o 142 (.bin .add (.t 140) (.t 141)),m 4 142]
def NU:=[bh 4 (-1)]
def ya:bm:=(s (r Nt) (s (r Nu) (s (.block 0 (s (r NG) (.cond (.t 16) (s (r NR) .ret) (s (r NV) (.cond (.t 24) (s (r NW) .ret) (s (r NX) (.cond (.t 31) (s (r NY) .ret) (s .oL (.cond (.t 36) (s (r NZ) .ret) .skip))))))))) (s (r N0) (s (r Nv) (s (r Nw) (s (r Nx) (s (r Ny) (s (.block 1 (.loop (s (s (r Nz) (.cond (.t 59) .skip (.exit 1))) (.block 2 (s (s (r NA) (.cond (.t 64) (s (r NB) (s (s (r NC) (.cond (.t 73) (s (r ND) .ret) .skip)) (r NF))) .skip)) (s (s (r NH) (.cond (.t 93) (s (r NI) .ret) .skip)) (s (r NJ) (s (r NK) (s .oL (.cond (.t 107) (s (r NL) (s (s (r NM) (.cond (.t 114) (s (r NN) .ret) .skip)) (s (r NO) .ret))) (s .oL (.cond (.t 132) (s (r NP) (s (s (r NQ) (.cond (.t 139) (s (r NS) .ret) .skip)) (s (r NT) .ret))) .skip)))))))))))) (s (r NU) .ret))))))))))
def Ci:List bu:=[.tmp 4]
theorem HK:bY Tryz.prog Tryz.f188 ya:=e (by kernel_rfl)
theorem IZ:bT Tryz.prog Tryz.f188 Ci:=e (by kernel_rfl)
theorem GD:bI Tryz.prog 188:=e (by kernel_rfl)
end Go.Proofs.YtoffnnjbplgnaaaGreatDoor
namespace Go.Abs
open Go Go.RowKit
open Enc (enc)
def aB(x:I)(p q:Prop):Prop:=match x with
 | .bool t=>(t=true→p)∧(t=false→q)
 |_=>False
theorem U.gA{c:b8}{A:ab}{Q:Exit→ab→Prop}{b:av}{x y:bm}(h:aB (af A b) (U c x Q A) (U c y Q A)):U c (.cond b x y) Q A:=by
 generalize hb:af A b=v at h;unfold aB at h;split at h
 ·exact U.cond hb h.1 h.2
 ·exact h.elim
def mH(r:I):Option (List I)→Prop
 |some xs=>jF xs=r
 |none=>False
theorem Wf(rs:List bu)(r:I)(A:ab):jI rs r .ret A=mH r (ee A rs):=by
 simp only[jI,mH];cases ee A rs <;>simp
theorem We(rs:List bu)(r:I)(A:ab):jI rs r .normal A=mH r (ee A rs):=by
 simp only[jI,mH];cases ee A rs <;>simp
def pW(s:Option Nat)(A:ab):Option I→Option I
 |some x=>if bQ s x=true then ba true A x else none
 |none=>none
def kF:Option I→Option (List I)→Option (List I)
 |some x,some xs=>some (x::xs)
 |_,_=>none
theorem V6(A:ab):ee A []=some []:=rfl
theorem V7(A:ab)(t:Nat)(rs:List bu):ee A (.tmp t::rs)=kF (ba true A (A.t t)) (ee A rs):=by
 simp only[ee,sK];cases ba true A (A.t t) <;>cases ee A rs <;>rfl
theorem V5(A:ab)(a:Nat)(s:Option Nat)(rs:List bu):ee A (.cell a s::rs)=kF (pW s A (fo A (A.t a))) (ee A rs):=by
 simp only[ee,sK,jr];cases fo A (A.t a) with
 |none=>cases ee A rs <;>rfl
 |some x =>
  by_cases h:bQ s x=true
  ·simp only[pW,if_pos h];cases ba true A x <;>cases ee A rs <;>rfl
  ·simp only[pW,if_neg h];cases ee A rs <;>rfl
def nA(aA:Bool)(A:ab):Option I→Option I
 |some x=>if x.br=true then some (.ref x) else (fN A 9 x).map .ref
 |none=>none
theorem uE(A:ab)(n:Nat)(p:List Nat):ba true A (.ptr n p)=nA true A (dz p (A.o n)):=by
 simp only[ba,jr,fo,if_true,nA];cases dz p (A.o n) <;>rfl
open Classical in
noncomputable def kK(sz lo k:Nat):Option (List I)→Option I
 |some fs=>if I.b6 ((fs.drop lo).take k)=true then some (.slice sz ((fs.drop lo).take k)) else none
 |none=>none
theorem uF(A:ab)(n:Nat)(p:List Nat)(sz lo k:Nat):ba true A (.view n p sz lo k)=kK sz lo k (ej (dz p (A.o n))):=by
 simp only[ba,jr,fo,if_true];cases dz p (A.o n) with
 |none=>rfl
 |some c=>cases c <;>simp only[ej,I.cX,kK] <;>(split <;>simp_all)
open Classical in
noncomputable def kJ(k:Nat):Option ah→Option I
 |some (.bE _ sz es)=>if k=es.length∧I.b6 es=true then some (.slice sz es) else none
 |_=>none
theorem KZ(aA:Bool)(A:ab)(n k:Nat):ba aA A (.own n k)=kJ k (A.o n):=by
 simp only[ba];cases A.o n with
 |none=>rfl
 |some y=>cases y <;>simp only[kJ] <;>(split <;>simp_all)
theorem KT(aA:Bool)(A:ab)(fs:List I):ba aA A (.agg fs)=(bA aA A fs).map .agg:=by simp only[ba]
theorem KV(aA:Bool)(A:ab)(f:FuncId)(fs:List I):ba aA A (.func f fs)=if f<1000000 then (bA aA A fs).map (.func f) else some .any:=by simp only[ba]
theorem KW(aA:Bool)(A:ab)(k:IntKind)(n:Int):ba aA A (.int k n)=some (.int k n):=by simp only[ba]
theorem KU(aA:Bool)(A:ab)(n:Bool):ba aA A (.bool n)=some (.bool n):=by simp only[ba]
theorem K2(aA:Bool)(A:ab)(n:ByteArray):ba aA A (.aj n)=some (.aj n):=by simp only[ba]
theorem KY(aA:Bool)(A:ab)(n:Nat):ba aA A (.nils n)=some (.slice n []):=by simp only[ba]
theorem K1(aA:Bool)(A:ab)(n:Nat)(es:List I):ba aA A (.slice n es)=if I.b6 es=true then some (.slice n es) else none:=by simp only[ba]
theorem K0(aA:Bool)(A:ab)(x:I):ba aA A (.ref x)=if x.br=true then some (.ref x) else none:=by simp only[ba]
theorem K4(aA:Bool)(A:ab):bA aA A []=some []:=by simp only[bA]
theorem K3(aA:Bool)(A:ab)(x:I)(xs:List I):bA aA A (x::xs)=kF (ba aA A x) (bA aA A xs):=by
 simp only[bA];cases ba aA A x <;>cases bA aA A xs <;>rfl
theorem Ik(fs:List I):(I.agg fs).br=I.b6 fs:=by simp only[I.br]
theorem Iq(n:Nat)(fs:List I):(I.slice n fs).br=I.b6 fs:=by simp only[I.br]
theorem Ip(x:I):(I.ref x).br=x.br:=by simp only[I.br]
theorem Io(k:IntKind)(n:Int):(I.int k n).br=true:=by simp only[I.br]
theorem Il(n:Bool):(I.bool n).br=true:=by simp only[I.br]
theorem Ir(n:ByteArray):(I.aj n).br=true:=by simp only[I.br]
theorem Im(f:FuncId)(fs:List I):(I.func f fs).br=I.b6 fs:=by simp only[I.br]
theorem It:I.b6 []=true:=by simp only[I.b6]
theorem Is(x:I)(xs:List I):I.b6 (x::xs)=(x.br&&I.b6 xs):=by simp only[I.b6]
theorem FJ(k:IntKind)(a b:Int):bB .add (.int k a) (.int k b)=some (.int k (k.wrap (a+b))):=by simp[bB]
theorem F0(k:IntKind)(a b:Int):bB .sub (.int k a) (.int k b)=some (.int k (k.wrap (a-b))):=by simp[bB]
theorem FR(k:IntKind)(a b:Int):bB .mul (.int k a) (.int k b)=some (.int k (k.wrap (a*b))):=by simp[bB]
theorem FW(k:IntKind)(a b:Int):bB .quo (.int k a) (.int k b)=if b=0 then none else some (.int k (k.wrap (a.tdiv b))):=by simp[bB]
theorem FX(k:IntKind)(a b:Int):bB .rem (.int k a) (.int k b)=if b=0 then none else some (.int k (a.tmod b)):=by simp[bB]
theorem FK(k:IntKind)(a b:Int):bB .and (.int k a) (.int k b)=some (.int k (k.wrap ((BitVec.ofInt k.bits a &&& BitVec.ofInt k.bits b).toNat:Int))):=by simp[bB]
theorem FV(k:IntKind)(a b:Int):bB .or (.int k a) (.int k b)=some (.int k (k.wrap ((BitVec.ofInt k.bits a ||| BitVec.ofInt k.bits b).toNat:Int))):=by simp[bB]
theorem F1(k:IntKind)(a b:Int):bB .xor (.int k a) (.int k b)=some (.int k (k.wrap ((BitVec.ofInt k.bits a ^^^ BitVec.ofInt k.bits b).toNat:Int))):=by simp[bB]
theorem FL(k:IntKind)(a b:Int):bB .andNot (.int k a) (.int k b)=some (.int k (k.wrap ((BitVec.ofInt k.bits a &&& ~~~ BitVec.ofInt k.bits b).toNat:Int))):=by simp[bB]
theorem FY(k k':IntKind)(a b:Int):bB .shl (.int k a) (.int k' b)=if 0≤b then some (.int k (k.wrap (a*2^(min b.toNat k.bits)))) else none:=by simp[bB]
theorem FZ(k k':IntKind)(a b:Int):bB .shr (.int k a) (.int k' b)=if 0≤b then some (.int k (a.fdiv (2^(min b.toNat k.bits)))) else none:=by simp[bB]
theorem FM(k:IntKind)(a b:Int):bB .eql (.int k a) (.int k b)=some (.bool (a==b)):=by simp[bB]
theorem FT(k:IntKind)(a b:Int):bB .neq (.int k a) (.int k b)=some (.bool (a != b)):=by simp[bB]
theorem FQ(k:IntKind)(a b:Int):bB .lss (.int k a) (.int k b)=some (.bool (decide (a<b))):=by simp[bB]
theorem FP(k:IntKind)(a b:Int):bB .leq (.int k a) (.int k b)=some (.bool (decide (a≤b))):=by simp[bB]
theorem FO(k:IntKind)(a b:Int):bB .gtr (.int k a) (.int k b)=some (.bool (decide (b<a))):=by simp[bB]
theorem FN(k:IntKind)(a b:Int):bB .geq (.int k a) (.int k b)=some (.bool (decide (b≤a))):=by simp[bB]
theorem xi :
  (∀ ts os d v,(aw ts os).put d v=aw ((d,v)::ts) os)∧(∀ ts os d v,(aw ts os).aK (some d) v=aw ((d,v)::ts) os)∧(∀ (A:ab) v,A.aK none v=A) ∧
  (∀ ts os d x,(aw ts os).aP d x=aw ts ((d,x)::os))∧(∀ ts os k,(aw ts os).t k=b7 ts k)∧(∀ ts os k,(aw ts os).o k=aE os k) ∧
  (∀ j v r k,b7 ((j,v)::r) k=if k=j then v else b7 r k)∧(∀ j v r k,aE ((j,v)::r) k=if k=j then some v else aE r k)∧(∀ k,aE [] k=none) ∧
  (∀ A k,af A (.t k)=A.t k)∧(∀ A x,af A (.c x)=x)∧(∀ d rest A v,cw d rest A v=ao rest (A.aK d v))∧(∀ v k,bZ (some v) k=k v)∧(∀ A,ao [] A=.done A) :=
 ⟨A4,A5,Uc,vg,Ud,Ub,cF,eB,TX,KG,KF,Ty,F2,Fh⟩
theorem BB :
  (∀ d rest A op,ao (⟨d,op,none⟩::rest) A=bn A d op rest)∧(∀ d rest A op t b,ao (⟨d,op,some (t,b)⟩::rest) A=fO (A.t t) b d op rest A) ∧
  (∀ d rest A op,fO (.bool true) true d op rest A=bn A d op rest)∧(∀ d rest A op,fO (.bool false) false d op rest A=bn A d op rest) ∧
  (∀ d rest A op,fO (.bool true) false d op rest A=ao rest (A.aK d .undef))∧(∀ d rest A op,fO (.bool false) true d op rest A=ao rest (A.aK d .undef))∧(∀ d rest A op b,fO .undef b d op rest A=ao rest (A.aK d .undef)) ∧
  (∀ d rest A x,bn A d (.mv x) rest=ao rest (A.aK d (af A x)))∧(∀ d rest A c a b,bn A d (.pick c a b) rest=pL A d a b rest (af A c)) ∧
  (∀ A d a b rest,pL A d a b rest (.bool true)=ao rest (A.aK d (af A a)))∧(∀ A d a b rest,pL A d a b rest (.bool false)=ao rest (A.aK d (af A b))) ∧
  (∀ d rest A op x y,bn A d (.bin op x y) rest=bZ (bB op (af A x) (af A y)) (cw d rest A)) ∧
  (∀ d rest A ty neg x y,bn A d (.eqv ty neg x y) rest=bZ ((bP ty (af A x) (af A y)).map fun b=>.bool (if neg then !b else b)) (cw d rest A)) ∧
  (∀ d rest A op x,bn A d (.un op x) rest=bZ (qk op (af A x)) (cw d rest A))∧(∀ b,qk .not (.bool b)=some (.bool !b))∧(∀ k n,qk .neg (.int k n)=some (.int k (k.wrap (0-n))))∧(∀ k n,qk .xor (.int k n)=some (.int k (nt k n))) ∧
  (∀ d rest A k x,bn A d (.conv k x) rest=bZ (ua k (af A x)) (cw d rest A))∧(∀ k k' n,ua k (.int k' n)=some (.int k (k.wrap n))) ∧
  (∀ d rest A s x,bn A d (.ld s x) rest=bZ (fw s (fo A (af A x))) (cw d rest A))∧(∀ d rest A f off x,bn A d (.fa f off x) rest=bZ (lB A f off (af A x)) (cw d rest A)) ∧
  (∀ d rest A f off s x,bn A d (.fl f off s x) rest=bZ (rl f off s (af A x).cX) (cw d rest A))∧(∀ d rest A n esz x i,bn A d (.ia n esz x i) rest=bZ (pf A n esz (af A x) (af A i)) (cw d rest A)) ∧
  (∀ d rest A esz x i,bn A d (.is esz x i) rest=bZ (pn A esz (af A x) (af A i)) (cw d rest A))∧(∀ d rest A n esz s x i,bn A d (.ix n esz s x i) rest=bZ (pt n esz s (af A x) (af A i)) (cw d rest A)) ∧
  (∀ d rest A x,bn A d (.len x) rest=bZ (jz A (af A x)) (cw d rest A))∧(∀ d rest A n esz x,bn A d (.va n esz x) rest=bZ (mY A n esz (af A x)) (cw d rest A)) ∧
  (∀ d rest A zs ps,bn A d (.bld zs ps) rest=bZ ((fA zs (ps.map fun p=>(p.1,af A p.2))).map .agg) (cw d rest A))∧(∀ d rest A x i,bn A d (.ext x i) rest=bZ (uv i (af A x)) (cw d rest A))∧(∀ i fs,uv i (.tuple fs)=fs[i]?) ∧
  (∀ d rest A f caps,bn A d (.mk f caps) rest=bZ (if ((caps.map (af A)).all fun y=>y.cq)=true then some (.func f (caps.map (af A))) else none) (cw d rest A)) ∧
  (∀ rest A d z,bn A (some d) (.alloc z) rest=tD A d z rest (A.o d))∧(∀ A d z rest,tD A d z rest none=ao rest ((A.aP d (.box z)).put d (.ptr d []))) ∧
  (∀ rest A d x,bn A (some d) (.box x) rest=qJ A d (af A x) rest (A.o d))∧(∀ A d z rest,qJ A d z rest none=qK A d z rest z.cq)∧(∀ A d z rest,qK A d z rest true=ao rest ((A.aP d (.box z)).put d (.ptr d []))) ∧
  (∀ rest A s x v,bn A none (.aV s x v) rest=sW A s (af A v) rest (af A x))∧(∀ A s v rest n p,sW A s v rest (.ptr n p)=sX A s n p v rest (A.o n))∧(∀ A s n p v rest b,sX A s n p v rest (some (.box b))=ep A s n p b v rest (b.at p)) ∧
  (∀ d rest A f args,bn A d (.call f args) rest=.call f (args.map (af A)) (bA true A (args.map (af A))) (bA false A (args.map (af A))) d rest A) ∧
  (∀ d rest A x args,bn A d (.eR x args) rest=oP A d (args.map (af A)) rest (af A x))∧(∀ A d args rest f caps,oP A d args rest (.func f caps)=if f<1000000 then .call f (args++caps) (bA true A (args++caps)) (bA false A (args++caps)) d rest A else .call (jX f) (caps++args) (bA true A (caps++args)) (bA false A (caps++args)) d rest A) :=
 ⟨E6,E7,Sq,Sm,Sp,Sn,Sr,UR,UW,fun _ _ _ _ _=>rfl,fun _ _ _ _ _=>rfl,Us,UC,U4,fun _=>rfl,fun _ _=>rfl,fun _ _=>rfl,UA,fun _ _ _=>rfl,UJ,UE,UF,UG,UH,UI,UK,U5,Ut,UD,fun _ _=>rfl,UN,
  Up,fun _ _ _ _=>rfl,Uu,fun _ _ _ _=>rfl,fun _ _ _ _=>rfl,U0,fun _ _ _ _ _ _=>rfl,fun _ _ _ _ _ _ _=>rfl,Uw,Ux,fun A d args rest f caps=>by
   simp only[oP];split
   ·rename_i h;rw[uz h,uy h]
   ·rename_i h;simp only[gy,if_neg h]⟩
theorem fh{A:ab}{s:Option Nat}{n:Nat}{p:List Nat}{b v old:I}{rest:List ar}(h1:v.cq=true)(h2:bQ s v=true)(h3:v.aF=old.aF):ep A s n p b v rest (some old)=ao rest (A.aP n (.box (b.dh p v))):=by
 simp only[ep];rw[if_pos ⟨h1,h2,h3⟩]
theorem DY :
  (∀ A x,fo A (.ref x)=some x)∧(∀ A n p,fo A (.ptr n p)=dz p (A.o n))∧(∀ p c,dz p (some (.box c))=c.at p)∧(∀ c:I,c.at []=some c)∧(∀ (c:I) i p,c.at (i::p)=kr i p c.cX) ∧
  (∀ i p fs,kr i p (some fs)=nj p fs[i]?)∧(∀ p f,nj p (some f)=f.at p)∧(∀ c v:I,c.dh [] v=v)∧(∀ (c:I) i p v,c.dh (i::p) v=mN c i p v c.cX)∧(∀ c i p v fs,mN c i p v (some fs)=oi fs i p v fs[i]?) ∧
  (∀ fs i p v f,oi fs i p v (some f)=.agg (fs.set i (f.dh p v)))∧(∀ fs,(I.agg fs).cX=some fs)∧(∀ x:I,ej (some x)=x.cX) ∧
  (∀ s x,fw s (some x)=if bQ s x=true then some x else none) ∧
  (∀ A f off c,lB A f off (.ref c)=rf f off c.cX)∧(∀ A f off n p,lB A f off (.ptr n p)=o7 n p f off (ej (dz p (A.o n))))∧(∀ f off fs,rf f off (some fs)=oZ fs f off fs[f]?)∧(∀ fs f off v,oZ fs f off (some v)=fu fs f off (.ref v)) ∧
  (∀ n p f off fs,o7 n p f off (some fs)=fu fs f off (.ptr n (p++[f])))∧(∀ A n esz x kk k,pf A n esz x (.int kk k)=mc A n esz k x)∧(∀ A n esz k c,mc A n esz k (.ref c)=ik k n (nH n esz k c.cX)) ∧
  (∀ A n esz k m p,mc A n esz k (.ptr m p)=ik k n (pg n esz m p k (ej (dz p (A.o m)))))∧(∀ n esz k fs,nH n esz k (some fs)=iG n esz fs ((fs[k.toNat]?).map .ref))∧(∀ n esz m p k fs,pg n esz m p k (some fs)=iG n esz fs (some (.ptr m (p++[k.toNat])))) ∧
  (∀ A esz x kk k,pn A esz x (.int kk k)=iX A esz k x)∧(∀ n esz s x kk k,pt n esz s x (.int kk k)=mg n esz s k x.cX)∧(∀ n esz s k fs,mg n esz s k (some fs)=ik k n (iG n esz fs (fw s fs[k.toNat]?))) ∧
  (∀ A n esz m p,mY A n esz (.ptr m p)=qm n esz m p (ej (dz p (A.o m))))∧(∀ n esz m p fs,qm n esz m p (some fs)=ql n esz fs (.view m p esz 0 n)) ∧
  (∀ A sz es,jz A (.slice sz es)=some (.int .i64 es.length))∧(∀ A n,jz A (.nils n)=some (.int .i64 0))∧(∀ A n,jz A (.c0 n)=some (.int .i64 0)) :=
 ⟨fun _ _=>rfl,fun _ _ _=>rfl,fun _ _=>rfl,qH,FB,fun _ _ _=>rfl,fun _ _=>rfl,fg,sR,fun _ _ _ _ _=>rfl,fun _ _ _ _ _=>rfl,fun _=>rfl,fun _=>rfl,fun _ _=>rfl,fun _ _ _ _=>rfl,fun _ _ _ _ _=>rfl,fun _ _ _=>rfl,fun _ _ _ _=>rfl,
  fun _ _ _ _ _=>rfl,fun _ _ _ _ _ _=>rfl,fun _ _ _ _ _=>rfl,fun _ _ _ _ _ _=>rfl,fun _ _ _ _=>rfl,fun _ _ _ _ _ _=>rfl,fun _ _ _ _ _=>rfl,fun _ _ _ _ _ _=>rfl,fun _ _ _ _ _=>rfl,fun _ _ _ _ _=>rfl,fun _ _ _ _ _=>rfl,fun _ _ _=>rfl,fun _ _=>rfl,fun _ _=>rfl⟩
theorem zE :
  (∀ A n p,ba true A (.ptr n p)=nA true A (dz p (A.o n)))∧(∀ A x,nA true A (some x)=if x.br=true then some (.ref x) else (fN A 9 x).map .ref)∧(∀ A n p sz lo k,ba true A (.view n p sz lo k)=kK sz lo k (ej (dz p (A.o n)))) ∧
  (∀ A n p,ba false A (.ptr n p)=none)∧(∀ A n p sz lo k,ba false A (.view n p sz lo k)=none)∧(∀ x,kF none x=none)∧(∀ x,kF x none=none) ∧
  (∀ aA A n k,ba aA A (.own n k)=kJ k (A.o n))∧(∀ aA A fs,ba aA A (.agg fs)=(bA aA A fs).map .agg)∧(∀ aA A f fs,ba aA A (.func f fs)=if f<1000000 then (bA aA A fs).map (.func f) else some .any)∧(∀ aA A k n,ba aA A (.int k n)=some (.int k n))∧(∀ aA A b,ba aA A (.bool b)=some (.bool b)) ∧
  (∀ aA A s,ba aA A (.aj s)=some (.aj s))∧(∀ aA A n,ba aA A (.nils n)=some (.slice n []))∧(∀ aA A n es,ba aA A (.slice n es)=if I.b6 es=true then some (.slice n es) else none)∧(∀ aA A x,ba aA A (.ref x)=if x.br=true then some (.ref x) else none) ∧
  (∀ aA A,bA aA A []=some [])∧(∀ aA A x xs,bA aA A (x::xs)=kF (ba aA A x) (bA aA A xs))∧(∀ x xs,kF (some x) (some xs)=some (x::xs)) ∧
  (∀ fs,(I.agg fs).br=I.b6 fs)∧(∀ n fs,(I.slice n fs).br=I.b6 fs)∧(∀ x,(I.ref x).br=x.br)∧(∀ k n,(I.int k n).br=true)∧(∀ n,(I.bool n).br=true)∧(∀ n,(I.aj n).br=true)∧(∀ f fs,(I.func f fs).br=I.b6 fs) ∧
  I.b6 []=true∧(∀ x xs,I.b6 (x::xs)=(x.br&&I.b6 xs)) ∧
  (∀ rs r A,jI rs r .ret A=mH r (ee A rs))∧(∀ rs r A,jI rs r .normal A=mH r (ee A rs))∧(∀ r xs,mH r (some xs)=(jF xs=r))∧(∀ A,ee A []=some [])∧(∀ A t rs,ee A (.tmp t::rs)=kF (ba true A (A.t t)) (ee A rs)) ∧
  (∀ A a s rs,ee A (.cell a s::rs)=kF (pW s A (fo A (A.t a))) (ee A rs))∧(∀ s A x,pW s A (some x)=if bQ s x=true then ba true A x else none)∧(∀ x,jF [x]=x)∧(∀ x y xs,jF (x::y::xs)=.tuple (x::y::xs)) :=
 ⟨uE,fun _ _=>rfl,uF,fun _ _ _=>rfl,fun _ _ _ _ _ _=>rfl,fun _=>rfl,fun x=>by cases x <;>rfl,KZ,KT,KV,KW,KU,K2,KY,K1,K0,K4,K3,fun _ _=>rfl,Ik,Iq,Ip,Io,Il,Ir,Im,It,Is,
  Wf,We,fun _ _=>rfl,V6,V7,V5,fun _ _ _=>rfl,fun _=>rfl,fun _ _ _=>rfl⟩
theorem xz :
  (∀ k a b,bB .add (.int k a) (.int k b)=some (.int k (k.wrap (a+b))))∧(∀ k a b,bB .sub (.int k a) (.int k b)=some (.int k (k.wrap (a-b))))∧(∀ k a b,bB .mul (.int k a) (.int k b)=some (.int k (k.wrap (a*b)))) ∧
  (∀ k a b,bB .quo (.int k a) (.int k b)=if b=0 then none else some (.int k (k.wrap (a.tdiv b))))∧(∀ k a b,bB .rem (.int k a) (.int k b)=if b=0 then none else some (.int k (a.tmod b))) ∧
  (∀ k a b,bB .and (.int k a) (.int k b)=some (.int k (k.wrap ((BitVec.ofInt k.bits a &&& BitVec.ofInt k.bits b).toNat:Int))))∧(∀ k a b,bB .or (.int k a) (.int k b)=some (.int k (k.wrap ((BitVec.ofInt k.bits a ||| BitVec.ofInt k.bits b).toNat:Int)))) ∧
  (∀ k a b,bB .xor (.int k a) (.int k b)=some (.int k (k.wrap ((BitVec.ofInt k.bits a ^^^ BitVec.ofInt k.bits b).toNat:Int))))∧(∀ k a b,bB .andNot (.int k a) (.int k b)=some (.int k (k.wrap ((BitVec.ofInt k.bits a &&& ~~~ BitVec.ofInt k.bits b).toNat:Int)))) ∧
  (∀ k k' a b,bB .shl (.int k a) (.int k' b)=if 0≤b then some (.int k (k.wrap (a*2^(min b.toNat k.bits)))) else none)∧(∀ k k' a b,bB .shr (.int k a) (.int k' b)=if 0≤b then some (.int k (a.fdiv (2^(min b.toNat k.bits)))) else none) ∧
  (∀ k a b,bB .eql (.int k a) (.int k b)=some (.bool (a==b)))∧(∀ k a b,bB .neq (.int k a) (.int k b)=some (.bool (a != b)))∧(∀ k a b,bB .lss (.int k a) (.int k b)=some (.bool (decide (a<b))))∧(∀ k a b,bB .leq (.int k a) (.int k b)=some (.bool (decide (a≤b)))) ∧
  (∀ k a b,bB .gtr (.int k a) (.int k b)=some (.bool (decide (b<a))))∧(∀ k a b,bB .geq (.int k a) (.int k b)=some (.bool (decide (b≤a)))) :=
 ⟨FJ,F0,FR,FW,FX,FK,FV,F1,FL,FY,FZ,FM,FT,FQ,FP,FO,FN⟩
end Go.Abs
namespace Go.Abs
open Go Go.RowKit
open Enc (enc)
section
variable {α:Type} [Enc α]
theorem TP(A:ab)(l:List α):jz A (enc l)=some (.int .i64 l.length):=by simp[iV,jz]
theorem Ti{A:ab}(esz:Nat){k:Int}{l:List α}(h:0≤k∧k.toNat<l.length)(hs:Enc.sz α=esz):iX A esz k (enc l)=some (.ref (enc l[k.toNat])):=by
 simp only[iV,iX,hs,Z2,true_and];rw[if_pos ⟨h.1,by omega⟩];simp[h.2]
theorem gP{A:ab}(esz:Nat){k:Nat}{l:List α}(h:k<l.length)(hs:Enc.sz α=esz):iX A esz k (enc l)=some (.ref (enc l[k])):=by
 have:=Ti (A:=A) esz (k:=(k:Int)) (l:=l) ⟨by omega,by simpa using h⟩ hs;simpa using this
theorem dP.lt{α:Type}{n:Nat}(x:dP n α){k:Nat}(h:k<n):k<x.l.length:=by rw[x.h];exact h
theorem Xi{n:Nat}(esz:Nat){k:Int}{x:dP n α}(h:0≤k∧k.toNat<n)(hs:Enc.sz α=esz):ik k n (nH n esz k (some (x.l.map enc)))=some (.ref (enc (x.l[k.toNat]'(x.lt h.2)))):=by
 have hl:=x.lt h.2;simp only[ik,nH,iG,ur n esz x.l x.h hs,if_true];rw[if_pos ⟨h.1,by omega⟩];simp[hl]
theorem ph{n:Nat}(esz:Nat){k:Int}(x:dP n α){y:Option I}(h:0≤k∧k<n)(hs:Enc.sz α=esz):ik k n (iG n esz (x.l.map enc) y)=y:=by
 simp only[ik,iG,ur n esz x.l x.h hs,if_true];rw[if_pos h]
theorem Su{n k:Nat}(x:dP n α)(h:k<n):(x.l.map enc)[k]?=some (enc (x.l[k]'(x.lt h))):=by
 simp[x.lt h]
theorem Tu{n:Nat}(esz:Nat){s:Option Nat}{k:Int}{x:dP n α}(h:0≤k∧k.toNat<n)(hs:Enc.sz α=esz):mg n esz s k (some (x.l.map enc))=fw s (some (enc (x.l[k.toNat]'(x.lt h.2)))):=by
 have hl:=x.lt h.2;simp only[mg,ik,iG,ur n esz x.l x.h hs,if_true];rw[if_pos ⟨h.1,by omega⟩];simp[hl]
theorem FA{n k:Nat}{p:List Nat}{x:dP n α}(h:k<n):kr k p (some (x.l.map enc))=(enc (x.l[k]'(x.lt h))).at p:=by
 have hl:=x.lt h;simp[kr,nj,hl]
theorem Vg(k:IntKind)(n:Int):fw none (some (.int k n))=some (.int k n):=by simp[fw,lJ,bQ,I.isAgg]
theorem Ve(b:Bool):fw none (some (.bool b))=some (.bool b):=by simp[fw,lJ,bQ,I.isAgg]
theorem Vh(z:Nat)(es:List I):fw none (some (.slice z es))=some (.slice z es):=by simp[fw,lJ,bQ,I.isAgg]
theorem Vf(f:FuncId)(es:List I):fw none (some (.func f es))=some (.func f es):=by simp[fw,lJ,bQ,I.isAgg]
end
mutual
/-- What every value in memory keeps to: whole numbers within their kind,slices no longer than a slice can be. -/
def I.wf:I→Prop
 | .agg fs=>I.gr fs
 | .int k n=>k.min≤n∧n≤k.max
 | .aj s=>s.size≤maxLen
 | .slice _ es=>es.length≤maxLen∧I.gr es
 | .ref c=>c.wf
 | .func _ caps=>I.gr caps
 | .iface _ v=>v.wf
 |_=>True
def I.gr:List I→Prop
 | []=>True
 |x::xs=>x.wf∧I.gr xs
end
mutual
theorem sD{w:World}{D:aD}{E:aN} : ∀ (x:I) (cs:List Value),ae w D E x cs→x.wf
 | .agg fs,cs,h=>by simp only[ae,I.wf] at *;exact vL fs cs h
 | .int k n,cs,h=>by simp only[ae,I.wf] at *;exact h.2
 | .aj s,cs,h=>by simp only[ae,I.wf] at *;exact h.2
 | .slice sz es,cs,h=>by
  simp only[ae,I.wf] at *;obtain ⟨a,cap,_,h1,h2,h3,_⟩:=h;refine ⟨by omega,?_⟩;rcases h3 with rfl | ⟨b,off,cs',_,_,h4⟩
  ·simp[I.gr]
  ·exact vL es cs' h4
 | .ref c,cs,h=>by simp only[ae,I.wf] at *;obtain ⟨b,off,cs',_,_,h⟩:=h;exact sD c cs' h
 | .func f caps,cs,h=>by simp only[ae,I.wf] at *;obtain ⟨vs,_,h⟩:=h;exact og caps vs h
 | .iface t v,cs,h=>by simp only[ae,I.wf] at *;obtain ⟨u,cs',_,_,h⟩:=h;exact sD v cs' h
 | .bool _,_,_ | .nilp,_,_ | .cY,_,_ | .cJ,_,_ | .any,_,_ | .raw _,_,_ | .nils _,_,_ | .c0 _,_,_ | .ptr _ _,_,_ | .own _ _,_,_ | .view _ _ _ _ _,_,_ | .mref _,_,_ | .cP _,_,_ | .cU _ _,_,_ | .undef,_,_ | .cS,_,_ | .tuple _,_,_=>by simp[I.wf]
theorem vL{w:World}{D:aD}{E:aN} : ∀ (xs:List I) (cs:List Value),ay w D E xs cs→I.gr xs
 | [],_,_=>by simp[I.gr]
 |x::xs,cs,h=>by
  simp only[ay,I.gr] at *;obtain ⟨c1,c2,_,h1,h2⟩:=h;exact ⟨sD x c1 h1,vL xs c2 h2⟩
theorem og{w:World}{D:aD}{E:aN} : ∀ (xs:List I) (vs:List Value),al w D E xs vs→I.gr xs
 | [],_,_=>by simp[I.gr]
 |x::xs,vs,h=>by
  simp only[al,I.gr] at *;obtain ⟨v,rest,cs,_,_,h1,h2⟩:=h;exact ⟨sD x cs h1,og xs rest h2⟩
end
theorem aR.wf{P:Program}{f:FuncId}{args:List I}{r:I}(hc:dJ P f=true)(h:I.gr args→aR P f args r):aR P f args r :=
 ⟨hc,fun w D vs hl h1 h2=>(h (og _ _ h2)).2 w D vs hl h1 h2⟩
theorem aR.bO{P:Program}{f:FuncId}{fn:Func}{x:bm}{rs:List bu}{args:List I}{r:I}(hf:P.funcs[f]?=some fn)(hcall:dJ P f=true)(hc:(fn.body.bind (dI P fn.ntmps))=some x)
  (hrs:fJ P fn.results.toList=some rs) (hn:args.length≤fn.ntmps) (h:I.gr args→∀ (w:World) (D:aD) (E:aN),U ⟨P,w,D,fn.ntmps,bM E,E,fq,none,none⟩ x (jI rs r) (aw (bC 0 args) [])):aR P f args r :=
 aR.wf hcall fun hw=>aR.mk hf hcall hc hrs hn (h hw)
theorem iK{α:Type}[Enc α] :
  (∀ A (l:List α),jz A (enc l)=some (.int .i64 l.length))∧(∀ n (x:dP n α),(enc x).cX=some (x.l.map enc)) :=
 ⟨TP,fun _ _=>rfl⟩
theorem jD:(∀ k n,fw none (some (.int k n))=some (.int k n))∧(∀ b,fw none (some (.bool b))=some (.bool b))∧(∀ z es,fw none (some (.slice z es))=some (.slice z es))∧(∀ f es,fw none (some (.func f es))=some (.func f es)) :=
 ⟨Vg,Ve,Vh,Vf⟩
end Go.Abs
namespace Go.Abs
open Go Go.RowKit
open Enc (enc)
def nQ(neg:Bool):I→Option I
 | .nils _=>some (.bool (!neg))
 | .slice _ es=>if es.isEmpty then none else some (.bool neg)
 | .view _ _ _ _ _=>some (.bool neg)
 |_=>none
def lF:I→Option I
 | .aj s=>some (.int .i64 s.size)
 |_=>none
open Classical in
noncomputable def ln(n:Nat)(p:List Nat)(sz l0 k esz:Nat)(lo hi mx:Option I):Option (List I)→Option I
 |some fs=>if sz=esz then iy n p sz l0 k fs.length lo hi mx else none
 |none=>none
noncomputable def jj(A:ab)(esz:Nat)(lo hi mx:Option I):I→Option I
 | .slice sz es=>if sz=esz then iw sz es lo hi mx else none
 | .nils sz=>if sz=esz then iw sz [] lo hi mx else none
 | .c0 sz=>if sz=esz then iw sz [] lo hi mx else none
 | .view n p sz l0 k=>ln n p sz l0 k esz lo hi mx (ej (dz p (A.o n)))
 |_=>none
open Classical in
noncomputable def gK(esz:Nat):Option (List I)→Option I
 |some es=>if (es.all fun e=>e.size==esz)=true∧I.b6 es=true then some (.slice esz es) else none
 |none=>none
open Classical in
noncomputable def oI(A:ab)(d:Option Nat)(e esz bytes n l T sz':Nat)(es:List I)(rest:List ar):I→bR
 | .slice sz ys=>if vv e esz bytes l sz ys T sz' es then ao rest ((A.aP n (.bE e esz (es++ys))).aK d (.own n (es.length+ys.length))) else .fail
 |_=>.fail
open Classical in
noncomputable def tE(A:ab)(d:Option Nat)(e esz bytes:Nat)(z:I)(n l T:Nat)(xs:List Int)(rest:List ar):I→bR
 | .slice _ ys=>if vx e esz bytes l ys T xs z then ao rest ((A.aP n (.dG e (xs++pj ys))).aK d (.own n (xs.length+ys.length))) else .fail
 |_=>.fail
noncomputable def oH(A:ab)(d:Option Nat)(e esz bytes:Nat)(z:I)(n l:Nat)(x:I)(rest:List ar):Option ah→bR
 |some (.bE T sz' es)=>oI A d e esz bytes n l T sz' es rest x
 |some (.dG T xs)=>tE A d e esz bytes z n l T xs rest x
 |_=>.fail
noncomputable def eJ(A:ab)(d:Option Nat)(e esz bytes:Nat)(z x:I)(rest:List ar):I→bR
 | .own n l=>oH A d e esz bytes z n l x rest (A.o n)
 |s=>dU A d esz bytes z s (cM A esz s) (cM A esz x) (ao rest)
section
variable (d:Option Nat) (rest:List ar) (A:ab)
noncomputable def nR(neg:Bool)(x:I):Bool→bR
 |true=>.any (fun m=>m<2) (fun m=>ao rest (A.aK d (.bool (m==0))))
 |false=>bZ (nQ neg x) (cw d rest A)
theorem UT(neg:Bool)(x:av):bn A d (.nilS neg x) rest=nR d rest A neg (af A x) (iJ (af A x)):=by
 simp only[bn,aU,aT];cases iJ (af A x)
 ·simp only[Z4,if_false,nR,nQ];cases af A x <;>rfl
 ·rfl
theorem UL(x:av):bn A d (.lenT x) rest=bZ (lF (af A x)) (cw d rest A):=by
 simp only[bn,aU,aT];cases af A x <;>rfl
theorem UZ(esz:Nat)(x:av)(lo hi mx:Option av):bn A d (.sl esz x lo hi mx) rest=bZ (jj A esz (lo.map (af A)) (hi.map (af A)) (mx.map (af A)) (af A x)) (cw d rest A):=by
 simp only[bn,aU,aT];cases af A x <;>try rfl
 rename_i n p sz l0 k;simp only[jj,jr,fo];cases dz p (A.o n) with
 |none=>rfl
 |some c=>cases c <;>simp only[ej,I.cX,ln] <;>(first | rfl | (split <;>rfl))
theorem Uv(T esz:Nat)(ps:List av):bn A d (.bs T esz ps) rest=bZ (gK esz (bA false A (ps.map (af A)))) (cw d rest A):=by
 simp only[bn,aU,aT];cases bA false A (ps.map (af A)) <;>simp only[gK] <;>rfl
theorem Uq(e esz bytes:Nat)(z:I)(s x:av):bn A d (.dM e esz bytes z s x) rest=eJ A d e esz bytes z (af A x) rest (af A s):=by
 simp only[bn,aU];generalize af A s=s';generalize af A x=x';cases s' <;>simp only[eJ]
 rename_i n l;cases x' <;>simp only <;>generalize A.o n=z <;>(cases z with
  |none=>rfl
  |some y=>cases y <;>simp only[oH,oI,tE])
end
theorem BC :
  (∀ d rest A neg x,bn A d (.nilS neg x) rest=nR d rest A neg (af A x) (iJ (af A x)))∧(∀ d rest A neg x,nR d rest A neg x false=bZ (nQ neg x) (cw d rest A))∧(∀ z,iJ (.nils z)=false)∧(∀ n p sz lo k,iJ (.view n p sz lo k)=false)∧(∀ d rest A x,bn A d (.lenT x) rest=bZ (lF (af A x)) (cw d rest A)) ∧
  (∀ d rest A esz x lo hi mx,bn A d (.sl esz x lo hi mx) rest=bZ (jj A esz (lo.map (af A)) (hi.map (af A)) (mx.map (af A)) (af A x)) (cw d rest A)) ∧
  (∀ d rest A T esz ps,bn A d (.bs T esz ps) rest=bZ (gK esz (bA false A (ps.map (af A)))) (cw d rest A))∧(∀ d rest A e esz bytes z s x,bn A d (.dM e esz bytes z s x) rest=eJ A d e esz bytes z (af A x) rest (af A s)) ∧
  (∀ A d e esz bytes z x rest n l,eJ A d e esz bytes z x rest (.own n l)=oH A d e esz bytes z n l x rest (A.o n))∧(∀ A d e esz bytes z n l x rest T sz es,oH A d e esz bytes z n l x rest (some (.bE T sz es))=oI A d e esz bytes n l T sz es rest x)∧(∀ A d e esz bytes z n l x rest T xs,oH A d e esz bytes z n l x rest (some (.dG T xs))=tE A d e esz bytes z n l T xs rest x) ∧
  (∀ neg z,nQ neg (.nils z)=some (.bool (!neg))) :=
 ⟨UT,fun _ _ _ _ _=>rfl,fun _=>rfl,fun _ _ _ _ _=>rfl,UL,UZ,Uv,Uq,fun _ _ _ _ _ _ _ _ _ _=>rfl,fun _ _ _ _ _ _ _ _ _ _ _ _ _=>rfl,fun _ _ _ _ _ _ _ _ _ _ _ _=>rfl,fun _ _=>rfl⟩
theorem Xk(p:Nat→Bool)(xs ys:List I):I.cD p (xs++ys)=(I.cD p xs&&I.cD p ys):=by
 induction xs with
 |nil=>simp[I.cD]
 |cons x xs ih=>simp[I.cD,ih,Bool.and_assoc]
section
variable {α:Type} [Enc α]
theorem Fp{A:ab}{d:Option Nat}(e:Nat)(esz bytes n:Nat){l:Nat}{es ys:List α}{rest:List ar}(hl:l=es.length)(hs:Enc.sz α=esz)(hy:ys≠[])(h1:es.length+ys.length≤maxLen)(h2:(es.length+ys.length)*bytes≤140737488355328) :
  oI A d e esz bytes n l e esz (es.map enc) rest (enc ys)=ao rest ((A.aP n (.bE e esz ((es++ys).map enc))).aK d (.own n (es++ys).length)):=by
 simp only[iV,oI];rw[if_pos ⟨by simpa using hl,hs,rfl,rfl,by simpa using hy,by simpa using h1,by simpa using h2⟩];simp
theorem xC(esz:Nat){ys:List α}(hs:Enc.sz α=esz):gK esz (some (ys.map enc))=some (enc ys):=by
 have h1:((ys.map enc).all fun e:I=>e.size==esz)=true:=by
  simp only[X3,X1];rintro x ⟨y,_,rfl⟩;simp[Enc.size,hs]
 simp only[gK,iV];rw[if_pos ⟨h1,oQ ys⟩,hs]
theorem qL(esz:Nat)(y:α)(hs:Enc.sz α=esz):gK esz (some [enc y])=some (enc [y]):=xC (ys:=[y]) esz hs
theorem rh(sz:Nat){T k:Nat}{es:List α}(hk:k=es.length)(hs:Enc.sz α=sz):kJ k (some (.bE T sz (es.map enc)))=some (enc es):=by
 simp only[kJ,Z2];rw[if_pos ⟨hk,oQ es⟩,iV,hs]
theorem sq(p:Nat→Bool)(l:List α):I.cD p (l.map enc)=true:=by
 induction l with
 |nil=>rfl
 |cons x l ih=>simp only[Z3,I.cD,bN,ih,Bool.and_self]
end
theorem Av :
  (∀ n:Int,gK 1 (some [.int .i64 n])=some (enc [n]))∧(∀ (T:Nat) (es:List Int),kJ es.length (some (.bE T 1 (es.map enc)))=some (enc es)) :=
 ⟨fun n=>qL 1 n rfl,fun _ _=>rh 1 rfl rfl⟩
def dP.g{n:Nat}(x:dP n Int)(k:Nat):Int:=x.l.getD k 0
theorem dP.uQ{n k:Nat}(x:dP n Int)(h:k<n):x.l[k]'(x.lt h)=x.g k:=by simp[dP.g,x.lt h]
theorem fY{n k:Nat}{p:List Nat}(x:dP n Int)(h:k<n):kr k p (some (x.l.map enc))=(I.int .i64 (x.g k)).at p:=by
 rw[FA h,x.uQ h];rfl
theorem uR{n k:Nat}(x:dP n Int)(h:k<n):(x.l.map (enc (α:=Int)))[k]?=some (I.int .i64 (x.g k)):=by
 rw[Su x h,x.uQ h];rfl
theorem Br:(∀ k n,bQ none (.int k n)=true)∧(∀ b,bQ none (.bool b)=true)∧(∀ z es,bQ none (.slice z es)=true)∧(∀ f es,bQ none (.func f es)=true)∧(∀ z,bQ none (.nils z)=true)∧(∀ n k,bQ none (.own n k)=true) :=
 ⟨fun _ _=>rfl,fun _=>rfl,fun _ _=>rfl,fun _ _=>rfl,fun _=>rfl,fun _ _=>rfl⟩
theorem aZ:(type_of% @xi)∧(type_of% @BB)∧(type_of% @BC)∧(type_of% @Av)∧(type_of% @Br)∧(type_of% @DY)∧(type_of% @zE)∧(type_of% @xz)∧(∀ n:Int,(enc n:I)=.int .i64 n)∧(∀ n:Bool,(enc n:I)=.bool n) ∧
  (∀ {α β:Type} (f:α→β) (x:α) (xs:List α),List.map f (x::xs)=f x::List.map f xs)∧(∀ {α β:Type} (f:α→β),List.map f []=[])∧(∀ {α:Type} (xs:List α),[]++xs=xs)∧(∀ n:Nat,(n:Int).toNat=n)∧(∀ {α β:Type} (f:α→β) (x:α),Option.map f (some x)=some (f x)) ∧
  (∀ n:Nat,0≤(n:Int))∧((!true)=false)∧((!false)=true)∧((false=true)=False)∧((true=false)=False) :=
 ⟨@xi,@BB,@BC,@Av,@Br,@DY,@zE,@xz,qY,Ks,fun _ _ _=>rfl,fun _=>rfl,fun _=>rfl,fun _=>rfl,fun _ _=>rfl,fun n=>Int.natCast_nonneg n,rfl,rfl,by simp,by simp⟩
end Go.Abs
namespace Go.Abs
open Go Go.RowKit
open Enc (enc)
theorem iM.bO{P:Program}{f:FuncId}{fn:Func}{x:bm}{rs:List bu}{Y:Value→List I→List (Nat×ah)→bV→Prop}{args:List I}{os:List (Nat×ah)}{post:bV}(hf:P.funcs[f]?=some fn)(hcall:dJ P f=true)(hc:(fn.body.bind (dI P fn.ntmps))=some x)
  (hrs:fJ P fn.results.toList=some rs) (hn:args.length≤fn.ntmps) (hn2:fn.ntmps≤1000000) (hos:∀ m,aC os m=true→1000000≤m) (h:I.gr args→∀ (w:World) (D:aD) (E:aN),U ⟨P,w,D,fn.ntmps,bM E,E,Y,none,none⟩ x (mG rs post) (aw (bC 0 args) os)):iM P f Y args os post:=by
 obtain ⟨body,hb,hc'⟩:=Option.bind_eq_some_iff.1 hc;refine ⟨hcall,fun w D E vs hy hD ho hv =>?_⟩;exact (iM.sg hf hb hcall hc' hrs hn (fun m hm=>⟨Nat.le_trans hn2 (hos m hm),hos m hm⟩) (fun w D E=>(h (og _ _ hv) w D E).sub (sY args os))).2 w D E vs hy hD ho hv
theorem eG.bO{P:Program}{f:FuncId}{fn:Func}{x:bm}{rs:List bu}{args:List I}{os:List (Nat×ah)}{post:bV}(hf:P.funcs[f]?=some fn)(hcall:dJ P f=true)(hc:(fn.body.bind (dI P fn.ntmps))=some x)
  (hrs:fJ P fn.results.toList=some rs) (hn:args.length≤fn.ntmps) (hn2:fn.ntmps≤1000000) (hos:∀ m,aC os m=true→1000000≤m) (h:I.gr args→∀ (w:World) (D:aD) (E:aN),U ⟨P,w,D,fn.ntmps,bM E,E,fq,none,none⟩ x (mG rs post) (aw (bC 0 args) os)):eG P f args os post :=
 eG.Bf (iM.bO hf hcall hc hrs hn hn2 hos h)
theorem uV{A:ab} : ∀ n x,aE [] n=some x→A.o n=some x∧x.only (aC [])=true∧x.ed=true:=fun n x h=>by simp[aE] at h
theorem nG{A:ab}{k:Nat}{c:I}(h1:A.o k=some (.box c))(h2:∀ p,c.only p=true):∀ n x,aE [(k,.box c)] n=some x→A.o n=some x∧x.only (aC [(k,.box c)])=true∧x.ed=true:=fun n x h=>by
 simp only[aE] at h;split at h
 ·rename_i hn;subst hn;simp only[v6] at h;subst h;exact ⟨h1,h2 _,rfl⟩
 ·cases h
theorem dx.nil{aA:Bool}{ρ:List (Nat×Nat)}{os0:List (Nat×ah)}{r:I}(h1:∀ p,r.only p=true)(h2:aA=true→r.cT=true):dx aA ρ [] os0 r [] :=
 ⟨fun m x h=>by simp[aE] at h,fun m m' h=>by simp[aC,aE] at h,fun m h=>by simp[aC,aE] at h,fun m h=>by simp[aC,aE] at h,h1 _,h2⟩
theorem gz{k:Nat}{x:ah}{m:Nat} : aC [(k,x)] m=true↔m=k:=by
 simp only[aC,aE];split <;>simp_all
theorem dx.vn{aA:Bool}{k d:Nat}{os0:List (Nat×ah)}{r c:I}(h1:∀ p,c.only p=true)(h2:aA=true→c.cT=true)(h3:r.only (aC [(k,.box c)])=true)(h4:aA=true→r.cT=true)(h5:aE os0 d=none)(h6:d<1000000):dx aA [(k,d)] [] os0 r [(k,.box c)]:=by
 refine ⟨fun m x h =>?_,fun m m' h h' _ =>?_,fun m h=>by simp[aC,aE] at h,fun m h _ =>?_,h3,h4⟩
 ·simp only[aE] at h;split at h
  ·simp only[v6] at h;subst h;exact ⟨h1 _,rfl,h2⟩
  ·cases h
 ·rw[gz.1 h,gz.1 h']
 ·rw[gz.1 h];simp[bp,h5,h6]
theorem eH.nil{ρ:List (Nat×Nat)}{os0:List (Nat×ah)} : eH ρ [] os0:=⟨fun m x h=>by simp[aE] at h,fun m m' h=>by simp[aC,aE] at h⟩
mutual
theorem pR(ρ:Nat→Nat):∀ x:I,x.br=true→x.aQ ρ=x
 | .agg fs,h=>by simp only[I.aQ,I.br] at *;rw[mE ρ fs h]
 | .slice _ es,h=>by simp only[I.aQ,I.br] at *;rw[mE ρ es h]
 | .ref x,h=>by simp only[I.aQ,I.br] at *;rw[pR ρ x h]
 | .func _ caps,h=>by simp only[I.aQ,I.br] at *;rw[mE ρ caps h]
 | .iface _ v,h=>by simp only[I.aQ,I.br] at *;rw[pR ρ v h]
 | .bool _,_ | .int _ _,_ | .aj _,_ | .nilp,_ | .cY,_ | .cJ,_ | .any,_ | .raw _,_ | .nils _,_ | .c0 _,_=>by simp only[I.aQ]
 | .cU ks vs,h=>by simp only[I.aQ,I.br,Z0] at *;rw[mE ρ ks h.1,mE ρ vs h.2]
 | .ptr _ _,h | .own _ _,h | .view _ _ _ _ _,h | .mref _,h | .cP _,h | .undef,h | .cS,h | .tuple _,h=>by simp[I.br] at h
theorem mE(ρ:Nat→Nat):∀ xs:List I,I.b6 xs=true→I.cR ρ xs=xs
 | [],_=>rfl
 |x::xs,h=>by
  simp only[I.b6,Z0] at h;simp only[I.cR,pR ρ x h.1,mE ρ xs h.2]
end
theorem oa :
  (∀ (k:IntKind) n (ρ:Nat→Nat),(I.int k n).aQ ρ=.int k n)∧(∀ (b:Bool) (ρ:Nat→Nat),(I.bool b).aQ ρ=.bool b)∧(∀ n p (ρ:Nat→Nat),(I.ptr n p).aQ ρ=.ptr (ρ n) p) ∧
  (∀ n p sz lo k (ρ:Nat→Nat),(I.view n p sz lo k).aQ ρ=.view (ρ n) p sz lo k)∧(∀ fs (ρ:Nat→Nat),(I.agg fs).aQ ρ=.agg (I.cR ρ fs))∧(∀ fs (ρ:Nat→Nat),(I.tuple fs).aQ ρ=.tuple (I.cR ρ fs))∧(∀ f fs (ρ:Nat→Nat),(I.func f fs).aQ ρ=.func f (I.cR ρ fs)) ∧
  (∀ ρ:Nat→Nat,I.cR ρ []=[])∧(∀ (ρ:Nat→Nat) x xs,I.cR ρ (x::xs)=x.aQ ρ::I.cR ρ xs)∧(∀ (ρ:Nat→Nat) (x:I),(ah.box x).aQ ρ=.box (x.aQ ρ)) ∧
  (∀ (z:Nat) (ρ:Nat→Nat),(I.nils z).aQ ρ=.nils z)∧(∀ (z:Nat) (ρ:Nat→Nat),(I.c0 z).aQ ρ=.c0 z) ∧
  (∀ n,bp [] n=n)∧(∀ a b r n,bp ((a,b)::r) n=if n=a then b else bp r n)∧(∀ ρ,cV ρ []=[])∧(∀ ρ k x os,cV ρ ((k,x)::os)=(bp ρ k,x.aQ (bp ρ))::cV ρ os) :=
 ⟨fun _ _ _=>by simp only[I.aQ],fun _ _=>by simp only[I.aQ],fun _ _ _=>by simp only[I.aQ],fun _ _ _ _ _ _=>by simp only[I.aQ],fun _ _=>by simp only[I.aQ],fun _ _=>by simp only[I.aQ],fun _ _ _=>by simp only[I.aQ],
  fun _=>rfl,fun _ _ _=>by simp only[I.cR],fun _ _=>rfl,fun _ _=>by simp only[I.aQ],fun _ _=>by simp only[I.aQ],fun _=>rfl,fun _ _ _ _=>rfl,fun _=>rfl,fun _ _ _ _=>rfl⟩
section
variable {α:Type} [Enc α]
theorem iE(ρ:Nat→Nat)(x:α):(enc x).aQ ρ=enc x:=pR ρ _ (jV x)
theorem mF(ρ:Nat→Nat)(l:List α):I.cR ρ (l.map enc)=l.map enc:=mE ρ _ (oQ l)
theorem ke(A:ab)(esz:Nat)(l:List α)(hs:Enc.sz α=esz):cM A esz (enc l)=some (l.map enc):=by
 simp only[iV,cM,hs,if_true]
theorem s8(l:List α):iJ (enc l)=l.isEmpty:=by
 simp only[iV,iJ];cases l <;>rfl
theorem A9(neg:Bool)(l:List α)(h:l≠[]):nQ neg (enc l)=some (.bool neg):=by
 simp only[iV,nQ];cases l with
 |nil=>exact absurd rfl h
 |cons=>rfl
section
variable {P:Program} {Y:Value→List I→List (Nat×ah)→bV→Prop} {K:ab→Prop} {A:ab} {rest:List ar} {d:Nat} {e esz bytes:Nat} {q:Nat}
theorem aX.tF(z:α){l:List α}(hs:Enc.sz α=esz)(hl:l≠[])(hf:A.o d=none)(hb:l.length*bytes≤140737488355328)(hml:l.length≤maxLen)
  (h:∀ m,aX P Y false K (ao rest ((A.aP d (.box (.agg ((l++List.replicate m z).map enc)))).aK (some d) (.view d [] esz 0 l.length)))):aX P Y false K (eJ A (some d) e esz bytes (enc z) (enc l) rest (.c0 q)):=by
 have hne:l.map (enc (α:=α))≠[]:=by simpa using hl
 have h1:cM A esz (.c0 q)=some []:=rfl;simp only[eJ,h1,ke A esz l hs,dU,if_neg hne,eI,hf,X9,Z8,Z2,if_pos (y6 hb hml),X4];refine .any rfl fun m _ =>?_;have:=h m;simp only[X5,List.map_replicate] at this;exact this
theorem Ft(z:I)(hs:Enc.sz α=esz):eJ A (some d) e esz bytes z (enc ([]:List α)) rest (.c0 q)=ao rest (A.aK (some d) (.c0 q)):=by
 have h1:cM A esz (.c0 q)=some []:=rfl;simp only[eJ,h1,ke A esz ([]:List α) hs,dU,X0,if_true]
theorem Uz(esz:Nat)(z:I)(x:av)(rest:List ar)(A:ab):bn A none (.iS esz z x) rest=nr A esz z (ao rest) (af A x):=rfl
theorem Dz{n:Nat}{p:List Nat}{sz k total i:Nat}(h:i≤total)(h0:0<total):iy n p sz 0 k total none (some (.int .i64 i)) none=some (.view n p sz 0 i):=by
 simp only[iy,gJ];rw[if_pos ⟨by omega,by omega,by omega⟩,if_neg (by omega)];simp
theorem lR{n:Nat}{p:List Nat}{sz k total i:Nat}(h:i≤k)(hk:k≤total)(h0:i<total):iy n p sz 0 k total (some (.int .i64 i)) none none=some (.view n p sz i (k-i)):=by
 simp only[iy,gJ];rw[if_pos ⟨by omega,by omega,by omega⟩,if_neg (by omega)];simp
theorem Tm{m:Nat}{p:List Nat}{sz lo l j:Nat}{fs:List I}(h:j<l):mf m p sz lo l sz (j:Int) (some fs)=some (.ptr m (p++[lo+j])):=by
 simp only[mf,true_and];rw[if_pos ⟨by omega,by omega⟩];simp
theorem ri{sz k:Nat}{xs:List α}(hs:Enc.sz α=sz):kK sz 0 k (some (xs.map enc))=some (enc (xs.take k)):=by
 have h:((xs.map (enc (α:=α))).drop 0).take k=(xs.take k).map enc:=by rw[List.drop_zero,List.map_take]
 simp only[kK,h];rw[if_pos (oQ _),iV,hs]
end
end
theorem uZ(A:ab)(esz m:Nat)(p:List Nat)(sz lo l:Nat)(k:Int):iX A esz k (.view m p sz lo l)=mf m p sz lo l esz k (ej (dz p (A.o m))):=rfl
theorem py(A:ab)(m:Nat)(p:List Nat)(sz lo l:Nat):jz A (.view m p sz lo l)=some (.int .i64 l):=rfl
theorem wi(A:ab)(esz:Nat)(lo hi mx:Option I)(n:Nat)(p:List Nat)(l0 k:Nat):jj A esz lo hi mx (.view n p esz l0 k)=ln n p esz l0 k esz lo hi mx (ej (dz p (A.o n))):=rfl
theorem wj(n:Nat)(p:List Nat)(sz l0 k:Nat)(lo hi mx:Option I)(fs:List I):ln n p sz l0 k sz lo hi mx (some fs)=iy n p sz l0 k fs.length lo hi mx:=by simp[ln]
theorem hU :
  (∀ A esz m p sz lo l k,iX A esz k (.view m p sz lo l)=mf m p sz lo l esz k (ej (dz p (A.o m))))∧(∀ A m p sz lo l,jz A (.view m p sz lo l)=some (.int .i64 l)) ∧
  (∀ A esz lo hi mx n p l0 k,jj A esz lo hi mx (.view n p esz l0 k)=ln n p esz l0 k esz lo hi mx (ej (dz p (A.o n))))∧(∀ n p sz l0 k lo hi mx fs,ln n p sz l0 k sz lo hi mx (some fs)=iy n p sz l0 k fs.length lo hi mx) ∧
  (∀ esz z x rest A,bn A none (.iS esz z x) rest=nr A esz z (ao rest) (af A x))∧(∀ rest A d esz,bn A d (.bs0 esz) rest=ao rest (A.aK d (.c0 esz))) :=
 ⟨uZ,py,wi,wj,Uz,fun _ _ _ _=>rfl⟩
theorem jH(rs:List bu)(post:bV)(A:ab):mG rs post .ret A=iC rs post A:=rfl
theorem Wc(rs:List bu)(post:bV)(A:ab):mG rs post .normal A=iC rs post A:=rfl
theorem bG.jt{ts:List (Nat×I)}{os0:List (Nat×ah)}(ns:List Nat)(d:Nat){x y:I}(hd:b7 ts d=x)(h:ba true (aw ts (j0 ns os0)) x=some y)(ho:cg (fun n => !ns.contains n) (dO ns os0)) :
  bG (aw ts os0) (aw ((d,y)::iW ns ts) (dO ns os0)):=by
 rintro c a w ⟨D,E,hs⟩;obtain ⟨D1,E1,hs1,hw⟩:=hs.freeze ns ho;have hu:dk (aw ts (j0 ns os0)) (aw ts os0):=fun n z hz=>by
  simp only[aw,pD] at hz ⊢;split at hz
  ·exact hz
  ·cases hz
 have hx:x.cq=true:=by cases x <;>first | rfl | simp[ba] at h
 have hv:=hs.dw d;simp only[aw] at hv;rw[hd] at hv;have h1:al w D E [x] [a.tmps.getD d undef]:=kd [x] _ (.cons hv .nil) (by intro z hz;simp only[List.mem_singleton] at hz;subst hz;exact hx);have h2:=kL (E':=E1) hs hu hw [x] [y] _ h1 (by simp only[bA,h]);have h3:aO w D1 E1 y (a.tmps.getD d undef):=by
  simp only[al] at h2;obtain ⟨v',rest,cs,e,k1,k2,_⟩:=h2;simp only[Y7] at e;obtain ⟨e1,_⟩:=e;rw[e1];exact fb k1 k2
 refine ⟨D1,E1,hs1.sz,hs1.eb,fun t =>?_,hs1.db,hs1.cC,hs1.cI,hs1.bx,hs1.ct,hs1.dp,hs1.eD,hs1.cj,hs1.eF,hs1.fi⟩;simp only[aw,b7];split
 ·rename_i ht;subst ht;exact h3
 ·exact hs1.dw t
theorem bG.rm{ts ts':List (Nat×I)}{os0 os':List (Nat×ah)}(ns:List Nat)(d:Nat){x y:I}(hd:b7 ts d=x)(h:ba true (aw ts (j0 ns os0)) x=some y)(ho:cg (fun n => !ns.contains n) (dO ns os0))
  (h1:cG ((d,y)::iW ns ts) ts') (h2:cN (dO ns os0) os') (h3:cL (aC os') ts') (h4:cg (aC os') os'):bG (aw ts os0) (aw ts' os') :=
 (bG.jt ns d hd h ho).trans (bG.df h1 h2 h3 h4)
theorem VO{w:World}{D:aD}{E:aN}{p:List Nat}{c x y:I}{cs:List Value}(hr:ae w D E c cs)(h:c.at p=some x)(hxy:∀ ds,ae w D E x ds→ae w D E y ds)(hs:y.aF=x.aF):ae w D E (c.dh p y) cs∧(c.dh p y).aF=c.aF:=by
 obtain ⟨off,c1,c2,c3,h1,rfl,h2,h3⟩:=vK p c x cs hr h;obtain ⟨off',k1,k2,k3,k4⟩:=sC p c x y _ c2 hr h (hxy c2 h3) hs;rw[h1,v6] at k1;subst k1;refine ⟨?_,k4⟩;have e:(c1++c2++c3).take off++c2++(c1++c2++c3).drop (off+c2.length)=c1++c2++c3:=by
  rw[Z9 c1 c2 c3,←h2,List.take_left,List.drop_length_add_append,List.drop_left,Z9]
 rw[←e];exact k3
theorem bG.E9{A:ab}{m n T sz z:Nat}{p:List Nat}{b:I}(hm:A.o m=some (.box b))(hp:b.at p=some (.nils z))(hn:A.o n=none)(hlt:n<1000000):bG A ((A.aP n (.bE T sz [])).aP m (.box (b.dh p (.own n 0)))):=by
 rintro c a w ⟨D,E,h⟩;have aq:E n=none:=by have:=h.bx n;rw[hn] at this;exact this
 have hmn:m≠n:=fun e=>by rw[e,hn] at hm;cases hm
 have hl:dc w D E w D (fun m=>if m=n then some (.rw none 0) else E m):=by
  have eM:∀ {m:Nat} {e:bt},E m=some e→(if m=n then some (.rw none 0) else E m)=some e:=fun {m e} he=>by
   have:m≠n:=fun e=>by rw[e,aq] at he;cases he
   rw[if_neg this];exact he
  refine ⟨fun _ _ h=>h,fun _ _ _ _ h=>h,fun m b aF he=>eM he,fun m az l he =>?_,fun m b he=>eM he,fun m b he=>eM he,fun _ _ _ _ h=>h⟩
  ·have:m≠n:=fun e=>by rw[e,aq] at he;cases he
   exact ⟨az,l,by simp only[if_neg this];exact he,Z5 _,fun _=>rfl⟩
 refine ⟨D,fun m=>if m=n then some (.rw none 0) else E m,h.sz,h.eb,fun t=>aO.later hl (h.dw t),h.db,h.cC,h.cI,fun k =>?_,fun m m' e e' b h1 h2 h3 h4 =>?_,fun m e hm =>?_,h.eD,h.cj,h.eF,h.fi⟩
 ·simp only[ab.aP];by_cases hk:k=m
  ·subst hk;have ho:=h.bx k;rw[hm] at ho;obtain ⟨b',cs,T',h1,h2,h3,h4,h5⟩:=ho;obtain ⟨q1,q2⟩:=VO (y:=.own n 0) (ae.later hl _ _ h4) hp (fun ds hd=>by
    simp only[ae] at hd;subst hd;simp only[ae,if_true];exact ⟨none,0,rfl,Z5 _,⟨_,_,_,rfl⟩,fun _=>trivial⟩) rfl
   simp only[if_true,cW];exact ⟨b',cs,T',by rw[q2];simp only[if_neg hmn];exact h1,h2,h3.aF q2,q1,h5⟩
  ·simp only[if_neg hk];by_cases hkn:k=n
   ·subst hkn;simp only[if_true,cW];exact ⟨none,by simp,by simp,trivial⟩
   ·simp only[if_neg hkn];exact (h.bx k).later hl (by simp only[if_neg hkn]) fun _ _ _ _=>⟨rfl,fun _ ho=>ho⟩
 ·by_cases hm:m=n <;>by_cases hm':m'=n
  ·rw[hm,hm']
  ·simp only[if_pos hm,v6] at h1;subst h1;simp[bt.az] at h3
  ·simp only[if_pos hm',v6] at h2;subst h2;simp[bt.az] at h4
  ·simp only[if_neg hm] at h1;simp only[if_neg hm'] at h2;exact h.ct m m' e e' b h1 h2 h3 h4
 ·have hmn:m≠n:=fun e=>by rw[e,h.ju (.inr hlt)] at hm;cases hm
  simp only[if_neg hmn];exact h.dp m e hm
theorem bG.Fa{ts:List (Nat×I)}{os:List (Nat×ah)}(m n T sz z:Nat)(p:List Nat)(b:I)(hm:aE os m=some (.box b))(hp:b.at p=some (.nils z))(hn:aE os n=none){B:ab}(h:bG (aw ts ((m,.box (b.dh p (.own n 0)))::(n,.bE T sz [])::os)) B)(hlt:n<1000000:=by decide):bG (aw ts os) B :=
 ((bG.E9 (A:=aw ts os) (T:=T) (sz:=sz) hm hp hn hlt).trans (by rw[vg,vg];exact bG.refl _)).trans h
mutual
theorem jd{p q:Nat→Bool}(h:∀ n,p n=true→q n=true):∀ x:I,x.only p=true→x.only q=true
 | .agg fs,hx | .tuple fs,hx=>by simp only[I.only] at *;exact jE h fs hx
 | .slice _ es,hx=>by simp only[I.only] at *;exact jE h es hx
 | .ref x,hx=>by simp only[I.only] at *;exact jd h x hx
 | .func _ caps,hx=>by simp only[I.only] at *;exact jE h caps hx
 | .iface _ v,hx=>by simp only[I.only] at *;exact jd h v hx
 | .ptr _ _,hx | .own _ _,hx | .view _ _ _ _ _,hx | .mref _,hx | .cP _,hx=>by simp only[I.only] at *;exact h _ hx
 | .cU ks vs,hx=>by simp only[I.only,Z0] at *;exact ⟨jE h ks hx.1,jE h vs hx.2⟩
 | .bool _,_ | .int _ _,_ | .aj _,_ | .nilp,_ | .cY,_ | .cJ,_ | .any,_ | .raw _,_ | .nils _,_ | .c0 _,_ | .undef,_ | .cS,_=>by simp[I.only]
theorem jE{p q:Nat→Bool}(h:∀ n,p n=true→q n=true):∀ xs:List I,I.cD p xs=true→I.cD q xs=true
 | [],_=>rfl
 |x::xs,hx=>by
  simp only[I.cD,Z0] at *;exact ⟨jd h x hx.1,jE h xs hx.2⟩
end
theorem ah.jd{p q:Nat→Bool}(h:∀ n,p n=true→q n=true)(x:ah)(hx:x.only p=true):x.only q=true:=by
 cases x with
 |box y=>simp only[ah.only] at *;exact Abs.jd h y hx
 |bE T sz es=>simp only[ah.only] at *;exact jE h es hx
 |cZ o=>rfl
 |dG T xs=>rfl
 |bW ks vs=>simp only[ah.only,Z0] at *;exact ⟨jE h ks hx.1,jE h vs hx.2⟩
 |it ks vs left cur=>simp only[ah.only,Z0] at *;exact ⟨jE h ks hx.1,jE h vs hx.2⟩
theorem Tp{x:I}(h:x.br=true):x.cq=true:=by
 cases x <;>first | rfl | simp[I.br] at h
theorem xp{aA:Bool}{A0:ab}{ρ:List (Nat×Nat)}{os:List (Nat×ah)} : ∀ xs:List I,I.b6 xs=true→fI aA A0 ρ os xs xs
 | [],_=>trivial
 |x::xs,h=>by
  simp only[I.b6,Z0] at h;exact ⟨.inl ⟨(pR _ x h.1).symm,lK _ x h.1,Tp h.1⟩,xp xs h.2⟩
structure eV (os os':List (Nat×ah)):Prop where
 same:∀ m,aC os' m=aC os m
 ok:∀ m x,aE os' m=some x→x.only (aC os')=true∧x.ed=true
 lD:∀ m,aC os m=true→1000000≤m
def bK(o:Obj)(os:List (Nat×ah)):List (Nat×ah):=(1999999,.cZ o)::os
theorem jy(o:Obj)(os:List (Nat×ah))(m:Nat):aC (bK o os) m=(decide (m=1999999)||aC os m):=by
 simp only[bK,aC,aE];by_cases h:m=1999999 <;>simp[h]
theorem nO(o:Obj)(os:List (Nat×ah))(m:Nat):aE (bK o os) m=if m=1999999 then some (.cZ o) else aE os m:=rfl
theorem eV.bK{os os':List (Nat×ah)}(h:eV os os')(o o':Obj):eV (bK o os) (bK o' os'):=by
 refine ⟨fun m=>by rw[jy,jy,h.same],fun m x hx =>?_,fun m hm =>?_⟩
 ·rw[nO] at hx;split at hx
  ·cases hx;exact ⟨rfl,rfl⟩
  ·obtain ⟨h1,h2⟩:=h.ok m x hx;exact ⟨x.jd (fun n hn=>by rw[jy,hn];simp) h1,h2⟩
 ·rw[jy] at hm;simp only[Bool.or_eq_true,decide_eq_true_eq] at hm;rcases hm with rfl | hm
  ·decide
  ·exact h.lD m hm
def sx:List Nat→List I→List (Nat×I)→List (Nat×I)
 |p::ps,v::vs,ts=>sx ps vs ((p,v)::ts)
 |_,_,ts=>ts
def lS(ρ:List (Nat×Nat))(p:Nat→Bool)(ts:List (Nat×I)):List (Nat×I)→Prop
 | []=>True
 |(k,v)::r=>b7 ts k=v.aQ (bp ρ)∧v.only p=true∧lS ρ p ts r
theorem DB{ρ:List (Nat×Nat)}{p:Nat→Bool}{ts:List (Nat×I)} : ∀ {tsR:List (Nat×I)},lS ρ p ts tsR→∀ k,b7 tsR k=.cS∨(b7 ts k=(b7 tsR k).aQ (bp ρ)∧(b7 tsR k).only p=true)
 | [],_,k=>.inl rfl
 |(j,v)::r,h,k=>by
  simp only[lS] at h;simp only[b7];split
  ·rename_i hk;subst hk;exact .inr ⟨h.1,h.2.1⟩
  ·exact DB h.2.2 k
section
variable {c:b8} {a:Act} {w:World} {D:aD} {E:aN}
theorem aG.we{A:ab}(h:aG c A a w D E){n b:Nat}{o o':Obj}(hn:A.o n=some (.cZ o))(aq:E n=some (.op b))(ho:nI o'=true):aG c (A.aP n (.cZ o')) a (w.putObj b o') D E:=by
 have hob:=h.bx n;rw[hn] at hob;obtain ⟨b',k1,k2,k3,k4,k5⟩:=hob;rw[aq] at k1;cases k1;have hnc:o.isCells=false:=by cases o <;>first | rfl | cases k4
 have hlt:b<w.heap.size:=eA k3;have hl:dc w D E (w.putObj b o') D E:=⟨fun _ _ h=>h,fun b1 o1 v _ hv=>tW k3 hnc hv,fun _ _ _ h=>h,fun _ az l h=>⟨az,l,h,Z5 _,fun _=>rfl⟩,fun _ _ h=>h,fun _ _ h=>h,fun b1 es ck hd hm=>(World.putObj_heap_other (fun e1=>k5 0 (by rw[←e1];exact hd))).trans hm⟩
 refine ⟨h.sz,h.eb.mono fun B _ hB=>(World.putObj_heap_other (fun e=>by rw[e,k3] at hB;cases hB;cases k4)).trans hB,fun t=>aO.later hl (h.dw t),h.db.trans ⟨rfl,rfl,rfl,by simp,fun k hk=>World.putObj_heap_other (fun e=>hk (e▸k2))⟩,h.cC,
  fun b1 o1 hd=>by have:=h.cI b1 o1 hd;simpa using this,fun m =>?_,h.ct,h.dp,h.eD,h.cj,h.eF,h.jM hl⟩
 simp only[ab.aP];by_cases hm:m=n
 ·subst hm;simp only[if_true,cW];exact ⟨b,aq,k2,World.putObj_heap_same hlt,ho,k5⟩
 ·simp only[if_neg hm];exact (h.bx m).later hl rfl fun e b1 he hb=>⟨World.putObj_heap_other (fun e1=>hm (h.ct m n e _ b1 he aq hb (by rw[e1];rfl))),fun _ ho=>ho⟩
theorem aG.Kr{A:ab}(h:aG c A a w D E){n b:Nat}(aq:E n=some (.op b)):aG c ⟨A.t,fun m=>if m=n then none else A.o m⟩ a w D (fun m=>if m=n then none else E m):=by
 have hne:∀ {m:Nat} {e:bt},E m=some e→(∀ b,e≠.op b)→m≠n:=fun he h2 e'=>by
  subst e';rw[aq] at he;cases he;exact h2 _ rfl
 have hl:dc w D E w D (fun m=>if m=n then none else E m):=by
  refine ⟨fun _ _ h=>h,fun _ _ _ _ h=>h,fun m b aF he =>?_,fun m az l he=>⟨az,l,?_,Z5 _,fun _=>rfl⟩,fun m b he =>?_,fun m b he =>?_,fun _ _ _ _ h=>h⟩
  ·simp only[if_neg (hne he (fun b=>by simp))];exact he
  ·simp only[if_neg (hne he (fun b=>by simp))];exact he
  ·simp only[if_neg (hne he (fun b=>by simp))];exact he
  ·simp only[if_neg (hne he (fun b=>by simp))];exact he
 refine ⟨h.sz,h.eb,fun t=>aO.later hl (h.dw t),h.db,h.cC,h.cI,fun m =>?_,fun m m' e e' b h1 h2 h3 h4 =>?_,fun m e hm =>?_,h.eD,h.cj,h.eF,h.fi⟩
 ·by_cases hm:m=n
  ·simp only[hm,if_true,cW]
  ·simp only[if_neg hm];exact (h.bx m).later hl (by simp only[if_neg hm]) fun _ _ _ _=>⟨rfl,fun _ ho=>ho⟩
 ·split at h1
  ·cases h1
  ·split at h2
   ·cases h2
   ·exact h.ct m m' e e' b h1 h2 h3 h4
 ·by_cases hmn:m=n
  ·left;simp only[hmn,if_true]
  ·simp only[if_neg hmn];exact h.dp m e hm
theorem aG.enter{ts:List (Nat×I)}{os0:List (Nat×ah)}(h:aG c (aw ts os0) a w D E)(hbase:c.dQ=none)(hfree:aE os0 999999=none)(hE0:c.cd 999999=none){o:Obj}(ho:nI o=true) :
  ∃ E1,aG c (aw ts ((999999,.cZ o)::os0)) { a with defers := { target:=.collected w.heap.size,args := #[] } :: a.defers } ((w.alloc (.deferred (some []))).alloc o) D E1∧E1 999999=some (.op (w.heap.size+1))∧∀ xs vs,al w D E xs vs→al ((w.alloc (.deferred (some []))).alloc o) D E1 xs vs:=by
 have hb:Below w.heap.size w ((w.alloc (.deferred (some []))).alloc o):=((Below.refl _ w).alloc (Z5 _) _).alloc (by simp) _;have h1:=h.grow (D':=D) hb (fun _ _ h=>h) (fun _ _ h _=>h) (fun b o' hd=>by have:=h.cI b o' hd;simp;omega);obtain ⟨W,hW⟩:∃ W,W=(w.alloc (.deferred (some []))).alloc o:=⟨_,rfl⟩
 have hL:W.heap[w.heap.size+1]?=some o:=by
  rw[hW];have:=World.alloc_heap_new (w.alloc (.deferred (some []))) o;rwa [World.size_alloc] at this
 have hK:W.heap[w.heap.size]?=some (.deferred (some [])):=by
  rw[hW];exact (Below.heap_alloc _ _ _ (by simp)).trans (World.alloc_heap_new w _)
 rw[←hW] at h1 hb ⊢;have hEn:E 999999=none:=by have:=h.bx 999999;simp only[aw,hfree] at this;exact this
 have hl:dc W D E W D (fun m=>if m=999999 then some (.op (w.heap.size+1)) else E m):=by
  refine ⟨fun _ _ h=>h,fun _ _ _ _ h=>h,fun m b aF he =>?_,fun m az l he=>⟨az,l,?_,Z5 _,fun _=>rfl⟩,fun m b he =>?_,fun m b he =>?_,fun _ _ _ _ h=>h⟩
  all_goals
   have:m≠999999:=fun e=>by rw[e,hEn] at he;cases he
   simp only[if_neg this];exact he
 have hsz:c.cK.heap.size≤w.heap.size:=h.db.size;have nb:∀ {m:Nat} {e:bt} {b:Nat},E m=some e→e.az=some b→b<w.heap.size:=fun he hb'=>h.eQ he hb';refine ⟨fun m=>if m=999999 then some (.op (w.heap.size+1)) else E m,⟨h1.sz,?_,fun t=>aO.later hl (h1.dw t),h1.db,h1.cC,h1.cI,fun m =>?_,fun m m' e e' b g1 g2 g3 g4 =>?_,fun m e hm =>?_,h1.eD,h1.cj,h1.eF,h1.fi⟩,by simp,fun xs vs hx=>al.later hl xs vs (al.later (dc.grow hb fun _ _ h=>h) xs vs hx)⟩
 ·have hdf:=h1.eb;rw[hbase] at hdf ⊢;obtain ⟨Bs,k1,k2,k3⟩:=hdf;refine ⟨w.heap.size::Bs,by simp only[Z3];rw[←k1],List.nodup_cons.2 ⟨fun hin =>?_,k2⟩,fun B hB =>?_⟩
  ·have hdf':=h.eb;rw[hbase] at hdf';obtain ⟨Bs',j1,_,j3⟩:=hdf';have e1:Bs=Bs':=by
    have:Bs.map (fun B=>({ target:=.collected B,args := #[] } : Deferred))=Bs'.map (fun B => { target:=.collected B,args := #[] }):=by rw[←k1,←j1]
    exact (List.map_inj_right (fun x y hxy=>by simpa using hxy)).1 this
   rw[e1] at hin;have:=eA (j3 _ hin).2;omega
  ·rcases zz1.1 hB with rfl | hB
   ·exact ⟨hsz,hK⟩
   ·exact k3 B hB
 ·simp only[aw,aE];by_cases hm:m=999999
  ·subst hm;simp only[if_true,cW];exact ⟨_,rfl,.inl (by omega),hL,ho,fun o' hd=>by have:=h.cI _ o' hd;omega⟩
  ·simp only[if_neg hm];exact (h1.bx m).later hl (by simp only[if_neg hm]) fun _ _ _ _=>⟨rfl,fun _ ho=>ho⟩
 ·by_cases hm:m=999999 <;>by_cases hm':m'=999999
  ·rw[hm,hm']
  ·simp only[if_pos hm,v6] at g1;simp only[if_neg hm'] at g2;subst g1;simp only[bt.az,v6] at g3;have:=nb g2 g4;omega
  ·simp only[if_neg hm] at g1;simp only[if_pos hm',v6] at g2;subst g2;simp only[bt.az,v6] at g4;have:=nb g1 g3;omega
  ·simp only[if_neg hm] at g1;simp only[if_neg hm'] at g2;exact h.ct m m' e e' b g1 g2 g3 g4
 ·have hmn:m≠999999:=fun e=>by rw[e,hE0] at hm;cases hm
  simp only[if_neg hmn];exact h.dp m e hm
theorem cW.jb{M M':Nat→Prop}{n:Nat}{x:Option ah}(h:cW M w D E n x)(hM:∀ e b,E n=some e→e.az=some b→M' b):cW M' w D E n x:=by
 unfold cW at *;split
 ·exact h
 ·obtain ⟨b,cs,T,h1,_,h3⟩:=h;exact ⟨b,cs,T,h1,hM _ b h1 rfl,h3⟩
 ·obtain ⟨az,h1,h2,h3⟩:=h;refine ⟨az,h1,h2,?_⟩;split
  ·exact h3
  ·obtain ⟨cs,pre,rest,_,h4⟩:=h3;exact ⟨cs,pre,rest,hM _ _ h1 rfl,h4⟩
 ·obtain ⟨b,h1,_,h3⟩:=h;exact ⟨b,h1,hM _ b h1 rfl,h3⟩
 ·obtain ⟨b,es,ck,h1,_,h3⟩:=h;exact ⟨b,es,ck,h1,hM _ b h1 rfl,h3⟩
 ·obtain ⟨r,b,es,ck,di,se,la,h1,_,h3⟩:=h;exact ⟨r,b,es,ck,di,se,la,h1,hM _ r h1 rfl,h3⟩
 ·obtain ⟨az,h1,h2,h3⟩:=h;refine ⟨az,h1,h2,?_⟩;split
  ·exact h3
  ·obtain ⟨cs,m,_,h4⟩:=h3;exact ⟨cs,m,hM _ _ h1 rfl,h4⟩
theorem aG.BR{os:List (Nat×ah)} : ∀ (ps:List Nat) (vs:List Value) (xs:List I) (ts:List (Nat×I)) (a:Act),aG c (aw ts os) a w D E→(∀ p∈ps,p<c.n)→al w D E xs vs→ps.length=vs.length →
  aG c (aw (sx ps xs ts) os) { a with tmps:=(ps.zip vs).foldl (fun t q=>t.setIfInBounds q.1 q.2) a.tmps } w D E
 | [],[],xs,ts,a,h,_,hv,_=>by
  cases xs with
  |nil=>exact h
  |cons x xs=>simp[al] at hv
 | [],_::_,_,_,_,_,_,_,hl=>by simp at hl
 |_::_,[],_,_,_,_,_,_,hl=>by simp at hl
 |p::ps,v::vs,xs,ts,a,h,hp,hv,hl=>by
  cases xs with
  |nil=>simp[al] at hv
  |cons x xs =>
   simp only[al] at hv;obtain ⟨v',rest,cs,e,h1,h2,h3⟩:=hv;simp only[Y7] at e;obtain ⟨rfl,rfl⟩:=e;have h4:=h.put (hp p (by simp)) (fb h1 h2);rw[A4] at h4;have:=aG.BR ps vs xs ((p,x)::ts) (a.put (some p) v) h4 (fun q hq=>hp q (by simp[hq])) h3 (by simpa using hl);exact this
end
end Go.Abs
namespace Go.Abs
open Go Go.RowKit
def hJ:bq→Bool
 | .mv _ | .pick .. | .bin .. | .eqv .. | .conv .. | .un .. | .fl .. | .ix .. | .lenT _ | .bld .. | .ext .. | .mk .. | .nilC _ | .ptrE .. | .max2 .. | .prim .. =>true
 | .ld .. | .fa .. | .ia .. | .is .. | .len _ | .va .. | .bs .. | .sl .. | .cap _ | .bs0 _ | .lk .. | .b2s _=>true
 |_=>false
def sk:bq→Bool
 | .alloc _ | .box _ | .aV .. | .call .. | .eR .. | .dM .. | .ez _=>true
 |op=>hJ op
def nN(hs:List FuncId):bq→Bool
 | .alloc _ | .box _ | .ez _=>true
 | .call f _ => !hs.contains f
 |op=>hJ op
abbrev dT:=List (Nat×List Nat)
def gB(au:dT)(s:Nat):Option (List Nat):=(au.find? fun q=>q.1==s).map (·.2)
def dy(au:dT)(A:ab):Prop:=∀ s ns,gB au s=some ns→(A.t s).only (fun n=>ns.contains n)=true
def nK(au:dT):av→Option (List Nat)
 | .t s=>gB au s
 | .c x=>if x.br then some [] else none
def qh(a:Option (List Nat))(ns:List Nat):Bool:=match a with
 |some ms=>ms.all fun m=>ns.contains m
 |none=>false
def gT(au:dT)(g:ar):Bool:=match g.dst with
 |none=>true
 |some d=>match gB au d with
  |none=>true
  |some ns=>match g.op with
   | .mv x | .nilC x | .fa _ _ x | .ia _ _ x _=>qh (nK au x) ns
   | .bin .. | .len _ | .bs .. | .bs0 _ | .conv .. | .lenT _ | .prim .. | .b2s _=>true
   | .box _ | .alloc _ | .ez _=>ns.contains d
   | .is _ x _ | .ld _ x=>qh (nK au x) []
   |_=>false
def lG:bq→Option (List Nat)
 | .ld _ (.t x) | .fa _ _ (.t x) | .ia _ _ (.t x) _ | .is _ (.t x) _ | .len (.t x) | .va _ _ (.t x) | .sl _ (.t x) _ _ _ | .cap (.t x) | .lk _ _ _ (.t x) _ | .b2s (.t x)=>some [x]
 | .bs _ _ ps=>if (ps.all fun x=>match x with | .t _=>true | .c _=>false)=true then some (iz ps) else none
 | .bs0 _=>some []
 |op=>if op.fC=0∧hJ op=true then some [] else none
def qG(au:dT)(g:ar)(p:Nat→Bool):Bool:=match lG g.op with
 |some xs=>xs.all fun s=>match gB au s with | some ns=>ns.all p | none=>false
 |none=>false
def mz(hs:List FuncId)(au:dT)(g h:ar):Bool:=nN hs h.op||match h.op with
 | .aV _ (.t y) _=>match lG g.op with
  |some []=>true
  |_=>match gB au y with
   |some ms=>qG au g fun n => !ms.contains n
   |none=>false
 | .aV .. =>match lG g.op with
  |some []=>true
  |_=>false
 | .dM _ _ _ _ s _=>qG au g (fun _=>false)||qh (nK au s) []
 |_=>false
def me(hs:List FuncId)(au:dT)(g h:ar):Bool:=hJ g.op&&(mz hs au g h&&((match g.dst with
  |some d => !h.b9.contains d&&h.dst != some d
  |none=>true)&&(match h.dst with
  |some d => !g.b9.contains d
  |none=>true)))
theorem uP{op:bq}(h:hJ op=true)(A:ab)(dst:Option Nat)(rest:List ar)(k:ab→bR):aU A dst op rest k=bZ (aT A op) fun v=>k (A.aK dst v):=by
 cases op <;>first | rfl | cases h
inductive bD (P:Program) (Y:Value→List I→List (Nat×ah)→bV→Prop) (hs:List FuncId) (K:ab→Prop):bR→Prop where
 |done {A:ab} : K A→bD P Y hs K (.done A)
 |flat {f:FuncId} {avs cargs:List I} {a2:Option (List I)} {dst:Option Nat} {rest:List ar} {A:ab} (r:I):aR P f cargs r→r.flat=true→bD P Y hs K (ao rest (A.aK dst r))→bD P Y hs K (.call f avs (some cargs) a2 dst rest A)
 |lead {f:FuncId} {avs cargs:List I} {a1:Option (List I)} {dst:Option Nat} {rest:List ar} {A:ab} (r:I):aR P f cargs r→bD P Y hs K (ao rest (A.aK dst r))→bD P Y hs K (.call f avs a1 (some cargs) dst rest A)
 |bx {f:FuncId} {avs:List I} {a1 a2:Option (List I)} {dst:Option Nat} {rest:List ar} {ts:List (Nat×I)} {os0:List (Nat×ah)} (ρ:List (Nat×Nat)) (cargs:List I) (post:bV):eG P f cargs [] post →
   eH ρ [] os0→fI false (aw ts os0) ρ [] avs cargs→(∀ r os',post r os'→dx false ρ [] os0 r os') →
   (∀ r os',post r os'→bD P Y hs K (ao rest ((aw ts (cV ρ os'++os0)).aK dst (r.aQ (bp ρ)))))→bD P Y hs K (.call f avs a1 a2 dst rest (aw ts os0))
 |any {p:Nat→Prop} {k:Nat→bR} : (∀ m,p m→bD P Y hs K (k m))→bD P Y hs K (.any p k)
 |vr {f:FuncId} {avs:List I} {a1 a2:Option (List I)} {dst:Option Nat} {rest:List ar} {ts:List (Nat×I)} {os0:List (Nat×ah)} (aA:Bool) (ρ:List (Nat×Nat)) (os:List (Nat×ah)) (cargs:List I) (post:bV):hs.contains f=true→eG P f cargs os post →
   eH ρ os os0→fI aA (aw ts (dO (im ρ os) os0)) ρ os avs cargs→(∀ r os',post r os'→dx aA ρ os os0 r os') →
   (∀ r os',post r os'→bD P Y hs K (ao rest ((aw ts (cV ρ os'++os0)).aK dst (r.aQ (bp ρ)))))→bD P Y hs K (.call f avs a1 a2 dst rest (aw ts os0))
 |Xd {v:Value} {avs:List I} {dst:Option Nat} {rest:List ar} {ts:List (Nat×I)} {os0:List (Nat×ah)} (os:List (Nat×ah)) (cargs:List I) (post:bV):Y v cargs os post →
   eH [] os os0→fI false (aw ts (dO (im [] os) os0)) [] os avs cargs→(∀ r os',post r os'→dx false [] os os0 r os') →
   (∀ r os',post r os'→bD P Y hs K (ao rest ((aw ts (cV [] os'++os0)).aK dst (r.aQ (bp [])))))→bD P Y hs K (.kE v avs dst rest (aw ts os0))
theorem Kq(os:List (Nat×ah)):dO [] os=os:=by simp[dO]
section
variable {P:Program} {hs:List FuncId} {K:ab→Prop} {Y:Value→List I→List (Nat×ah)→bV→Prop}
theorem bD.qE{p:Nat→Prop}{k:Nat→bR}(h:bD P Y hs K (.any p k)):∀ m,p m→bD P Y hs K (k m):=by cases h;assumption
theorem dy.put{au:dT}{A B:ab}(h:dy au A)(ht:∀ k,B.t k=A.t k){dst:Option Nat}{v:I}(hv:∀ d,dst=some d→∀ ns,gB au d=some ns→v.only (fun n=>ns.contains n)=true):dy au (B.aK dst v):=by
 intro s ns hs';cases dst with
 |none=>exact (ht s).symm▸h s ns hs'
 |some d =>
  simp only[ab.aK,ab.put];by_cases hd:s=d
  ·rw[if_pos hd];exact hv d rfl ns (hd▸hs')
  ·rw[if_neg hd,ht];exact h s ns hs'
theorem mV{au:dT}{A:ab}(h:dy au A){x:av}{ns:List Nat}(hx:qh (nK au x) ns=true):(af A x).only (fun n=>ns.contains n)=true:=by
 cases x with
 |c x =>
  simp only[nK] at hx;split at hx
  ·rename_i hc;exact lK _ x hc
  ·cases hx
 |t s =>
  simp only[nK] at hx;cases hl:gB au s with
  |none=>rw[hl] at hx;cases hx
  |some ms =>
   rw[hl] at hx;simp only[qh,X3] at hx;exact jd (fun n hn=>hx n (by simpa using hn)) _ (h s ms hl)
theorem FU{op:BinOp}{x y v:I}(p:Nat→Bool)(h:bB op x y=some v):v.only p=true:=by
 unfold bB at h
 (repeat' split at h) <;>first | (cases h;done) | (simp only[v6] at h;subst h;rfl)
theorem VB{q:tu}{xs:List I}{v:I}(p:Nat→Bool)(h:dZ q xs=some v):v.only p=true:=by
 unfold dZ at h
 (repeat' split at h) <;>first | (cases h;done) | (rename_i hc;simp only[v6] at h;subst h;simp only[I.only];exact lK _ _ hc.1) | (simp only[v6] at h;subst h;rfl) | (simp only[t7] at h;obtain ⟨_,_,rfl⟩:=h;rfl)
theorem FC{x:Option (List I)}{v:I}(p:Nat→Bool)(h:ku x=some v):v.only p=true:=by
 unfold ku at h;split at h
 ·simp only[t7] at h;obtain ⟨_,_,rfl⟩:=h;rfl
 ·cases h
theorem sn{p:Nat→Bool} : ∀ {xs:List I} {i:Nat} {x:I},I.cD p xs=true→xs[i]?=some x→x.only p=true
 | [],_,_,_,h=>by simp at h
 |a::xs,0,x,h,e=>by
  simp only[I.cD,Z0] at h;simp only[List.getElem?_cons_zero,v6] at e;exact e▸h.1
 |a::xs,i+1,x,h,e=>by
  simp only[I.cD,Z0] at h;exact sn (xs:=xs) h.2 (by simpa using e)
theorem Bp{au:dT}{A:ab}{g:ar}(h:dy au A)(hg:gT au g=true){v:I}(hv:aT A g.op=some v):∀ d,g.dst=some d→∀ ns,gB au d=some ns→v.only (fun n=>ns.contains n)=true:=by
 intro d hd ns hn;obtain ⟨dst,op,gd⟩:=g;simp only at hd hv;subst hd;simp only[gT,hn] at hg;cases op <;>simp only at hg <;>(try (cases hg;done)) <;>simp only[aT] at hv <;>(try (cases hv;done))
 case mv x=>simp only[v6] at hv;exact hv▸mV h hg
 case nilC x =>
  have:=mV h hg;generalize af A x=u at hv this;cases u <;>simp only[ml] at hv <;>first | (cases hv;done) | (simp only[v6] at hv;exact hv▸this)
 case bin op x y=>exact FU _ hv
 case conv k x=>split at hv <;>first | (cases hv;done) | (simp only[v6] at hv;subst hv;rfl)
 case prim p xs=>exact VB _ hv
 case is esz x i =>
  have hx:=mV h hg;split at hv
  case h_2=>cases hv
  split at hv
  ·rename_i sz es he;rw[he] at hx;simp only[I.only] at hx;split at hv
   ·simp only[t7] at hv;obtain ⟨u,hu,rfl⟩:=hv;simp only[I.only];exact jd (fun n hn=>by simp at hn) _ (sn hx hu)
   ·cases hv
  ·rename_i m l he;rw[he] at hx;simp[I.only] at hx
  ·rename_i m p sz lo l he;rw[he] at hx;simp[I.only] at hx
  ·cases hv
 case ld s x =>
  have hx:=mV h hg;split at hv
  case h_2=>cases hv
  rename_i u hu;split at hv
  case isFalse=>cases hv
  simp only[v6] at hv;subst hv;generalize af A x=z at hx hu;cases z <;>simp only[bL] at hu <;>try (cases hu;done)
  ·simp only[v6] at hu;subst hu;simp only[I.only] at hx;exact jd (fun n hn=>by simp at hn) _ hx
  ·simp[I.only] at hx
 case b2s x=>exact FC _ hv
 case lenT x=>split at hv <;>first | (cases hv;done) | (simp only[v6] at hv;subst hv;rfl)
 case len x=>(repeat' split at hv) <;>first | (cases hv;done) | (simp only[v6] at hv;subst hv;rfl)
 case bs0 e=>simp only[v6] at hv;subst hv;rfl
 case bs e ps =>
  split at hv
  ·split at hv
   ·rename_i hc;simp only[v6] at hv;subst hv;simp only[I.only];exact mw _ _ hc.2
   ·cases hv
  ·cases hv
 case fa f off x =>
  have hx:=mV h hg;split at hv
  ·rename_i fs he;rw[he] at hx;simp only[I.only] at hx;split at hv
   ·rename_i u hu;split at hv
    ·simp only[v6] at hv;subst hv;simp only[I.only];exact sn hx hu
    ·cases hv
   ·cases hv
  ·rename_i n q he;rw[he] at hx;simp only[I.only] at hx;split at hv
   ·split at hv
    ·simp only[v6] at hv;subst hv;simpa only[I.only] using hx
    ·cases hv
   ·cases hv
  ·cases hv
 case ia n esz x i =>
  have hx:=mV h hg;split at hv
  case h_2=>cases hv
  split at hv
  case isFalse=>cases hv
  split at hv
  ·rename_i fs he;rw[he] at hx;simp only[I.only] at hx;split at hv
   ·simp only[t7] at hv;obtain ⟨u,hu,rfl⟩:=hv;simp only[I.only];exact sn hx hu
   ·cases hv
  ·rename_i m q he;rw[he] at hx;simp only[I.only] at hx;split at hv
   ·split at hv
    ·simp only[v6] at hv;subst hv;simpa only[I.only] using hx
    ·cases hv
   ·cases hv
  ·cases hv
def qv(A:ab)(dst:Option Nat)(s:I)(B:ab):Prop:=(∀ t,dst≠some t→B.t t=A.t t)∧(s.only (fun _=>false)=true→dk A B)
def lV(A:ab)(dst:Option Nat)(s:I)(R:(ab→bR)→bR):Prop :=
 (∀ k,R k=.fail)∨(∃ B,(∀ k,R k=k B)∧qv A dst s B)∨∃ (p:Nat→Prop) (bl:Nat→ab),(∀ k,R k=.any p fun m=>k (bl m))∧∀ m,qv A dst s (bl m)
theorem pN{A B:ab}{dst:Option Nat}{v:I}{t:Nat}(ht:∀ k,B.t k=A.t k)(h:dst≠some t):(B.aK dst v).t t=A.t t:=by
 cases dst with
 |none=>exact ht t
 |some d =>
  have:t≠d:=fun e=>h (by rw[e]);simp only[ab.aK,ab.put,if_neg this];exact ht t
theorem Fi(A:ab)(dst:Option Nat)(esz bytes:Nat)(z s:I)(es ys:List I):lV A dst s (eI A dst esz bytes z es ys):=by
 cases dst with
 |none=>exact .inl fun _=>rfl
 |some d =>
  cases ho:A.o d with
  |some y=>exact .inl fun k=>by simp only[eI,ho]
  |none =>
   by_cases hc:(es.length+ys.length)*bytes≤140737488355328∧es.length+ys.length≤maxLen
   ·refine .inr (.inr ⟨_,fun m=>(A.aP d (.box (.agg (es++(ys++List.replicate m z))))).aK (some d) (.view d [] esz 0 (es.length+ys.length)),fun k=>by simp only[eI,ho];rw[if_pos hc],fun m=>⟨fun t ht=>pN (A:=A) (B:=A.aP d _) (fun _=>rfl) ht,fun _ n y hy =>?_⟩⟩);have:n≠d:=fun e=>by rw[e,ho] at hy;cases hy
    rw[gn];simp only[ab.aP,if_neg this];exact hy
   ·exact .inl fun k=>by simp only[eI,ho];rw[if_neg hc]
theorem Fm(A:ab)(dst:Option Nat)(esz bytes:Nat)(z s:I)(es ys:Option (List I)):lV A dst s (dU A dst esz bytes z s es ys):=by
 cases es with
 |none=>exact .inl fun _=>rfl
 |some es =>
  cases ys with
  |none=>exact .inl fun _=>rfl
  |some ys =>
   by_cases h0:ys=[]
   ·exact .inr (.inl ⟨A.aK dst s,fun k=>by simp only[dU,if_pos h0],fun t ht=>pN (A:=A) (fun _=>rfl) ht,fun _ n y hy=>by rw[gn];exact hy⟩)
   ·have gg:=fun s'=>Fi A dst esz bytes z s' es ys;cases s
    case nils=>simp only[lV,dU,if_neg h0];exact gg _
    case c0=>simp only[lV,dU,if_neg h0];exact gg _
    case view n p sz lo l =>
     cases ho:A.o n with
     |none=>exact .inl fun k=>by simp only[dU,if_neg h0,ho]
     |some y =>
      cases y with
      |box b =>
       cases hb:b.at p with
       |none=>exact .inl fun k=>by simp only[dU,if_neg h0,ho,hb]
       |some c =>
        cases c
        case agg fs =>
         by_cases h1:lo+l+ys.length≤fs.length
         ·by_cases h2:sz=esz∧I.cB ys=I.cB ((fs.drop (lo+l)).take ys.length)
          ·exact .inr (.inl ⟨(A.aP n (.box (gZ b p (lo+l) fs ys))).aK dst (.view n p esz lo (l+ys.length)),fun k=>by simp only[dU,if_neg h0,ho,hb,if_pos h1];rw[if_pos h2],fun t ht=>pN (A:=A) (B:=A.aP n _) (fun _=>rfl) ht,fun h=>by simp[I.only] at h⟩)
          ·exact .inl fun k=>by simp only[dU,if_neg h0,ho,hb,if_pos h1];rw[if_neg h2]
         ·simp only[lV,dU,if_neg h0,ho,hb,if_neg h1];exact gg _
        all_goals exact .inl fun k=>by simp only[dU,if_neg h0,ho,hb]
      |_=>exact .inl fun k=>by simp only[dU,if_neg h0,ho]
    all_goals exact .inl fun k=>by simp only[dU,if_neg h0]
theorem xn(A:ab)(dst:Option Nat)(e esz bytes:Nat)(z:I)(s x:av)(rest:List ar):lV A dst (af A s) (aU A dst (.dM e esz bytes z s x) rest):=by
 generalize hs:af A s=gH;cases gH
 case own n l =>
  cases hx:af A x
  case slice sz ys =>
   cases ho:A.o n with
   |none=>exact .inl fun k=>by simp only[aU,hs,hx,ho]
   |some y =>
    cases y with
    |bE T sz' es =>
     by_cases hc:vv e esz bytes l sz ys T sz' es
     ·exact .inr (.inl ⟨(A.aP n (.bE e esz (es++ys))).aK dst (.own n (es.length+ys.length)),fun k=>by simp only[aU,hs,hx,ho];rw[if_pos hc],fun t ht=>pN (A:=A) (B:=A.aP n _) (fun _=>rfl) ht,fun h=>by simp[I.only] at h⟩)
     ·exact .inl fun k=>by simp only[aU,hs,hx,ho];rw[if_neg hc]
    |dG T xs =>
     by_cases hc:vx e esz bytes l ys T xs z
     ·exact .inr (.inl ⟨(A.aP n (.dG e (xs++pj ys))).aK dst (.own n (xs.length+ys.length)),fun k=>by simp only[aU,hs,hx,ho];rw[if_pos hc],fun t ht=>pN (A:=A) (B:=A.aP n _) (fun _=>rfl) ht,fun h=>by simp[I.only] at h⟩)
     ·exact .inl fun k=>by simp only[aU,hs,hx,ho];rw[if_neg hc]
    |_=>exact .inl fun k=>by simp only[aU,hs,hx,ho]
  all_goals exact .inl fun k=>by simp only[aU,hs,hx]
 all_goals (simp only[lV,aU,hs];exact Fm ..)
theorem vI{A:ab}{d:Nat}{v:I}{n:Nat}{y:ah}{dst:Option Nat}{u:I}(h:dst≠some d):((A.put d v).aP n y).aK dst u=((A.aP n y).aK dst u).put d v:=by
 cases dst with
 |none=>rfl
 |some e =>
  have:e≠d:=fun he=>h (by rw[he]);simp only[ab.aK,ab.put,ab.aP,ab.mk.injEq,and_true]
  funext k
  by_cases h1:k=e <;>by_cases h2:k=d <;>simp_all
theorem VM{A:ab}{d:Nat}{v:I}{dst:Option Nat}{u:I}(h:dst≠some d):(A.put d v).aK dst u=(A.aK dst u).put d v:=by
 cases dst with
 |none=>rfl
 |some e =>
  have:e≠d:=fun he=>h (by rw[he]);simp only[ab.aK,ab.put,ab.mk.injEq,and_true]
  funext k
  by_cases h1:k=e <;>by_cases h2:k=d <;>simp_all
theorem Fj{A:ab}{d:Nat}{v:I}{dst:Option Nat}(h:dst≠some d)(esz bytes:Nat)(z:I)(es ys:List I)(k:ab→bR):eI (A.put d v) dst esz bytes z es ys k=eI A dst esz bytes z es ys fun B=>k (B.put d v):=by
 cases dst with
 |none=>rfl
 |some e =>
  simp only[eI];have:(A.put d v).o=A.o:=rfl;rw[this];cases A.o e with
  |some _=>rfl
  |none =>
   simp only;split
   ·simp only[vI h]
   ·rfl
theorem Fo{A:ab}{d:Nat}{v:I}{dst:Option Nat}(h:dst≠some d)(esz bytes:Nat)(z s:I)(es ys:Option (List I))(k:ab→bR):dU (A.put d v) dst esz bytes z s es ys k=dU A dst esz bytes z s es ys fun B=>k (B.put d v):=by
 have ho:(A.put d v).o=A.o:=rfl;cases es with
 |none=>rfl
 |some es =>
  cases ys with
  |none=>rfl
  |some ys =>
   simp only[dU];split
   ·rw[VM h]
   ·cases s <;>simp only[Fj h,ho]
    rename_i n p sz lo l;cases A.o n with
    |none=>rfl
    |some y =>
     cases y with
     |box b =>
      simp only;cases b.at p with
      |none=>rfl
      |some c =>
       cases c <;>simp only[vI h]
     |_=>rfl
theorem Fu{A:ab}{d:Nat}{v:I}{dst:Option Nat}(h:dst≠some d){e esz bytes:Nat}{z:I}{s x:av}(hag:dj A (A.put d v) (s.sl++x.sl))(rest rest':List ar)(k:ab→bR) :
  aU (A.put d v) dst (.dM e esz bytes z s x) rest k=aU A dst (.dM e esz bytes z s x) rest' fun B=>k (B.put d v):=by
 have ho:(A.put d v).o=A.o:=rfl;have hsrc:∀ y,cM (A.put d v) esz y=cM A esz y:=fun y=>by cases y <;>rfl
 simp only[aU,cn hag.l,cn hag.r,hsrc];cases af A s <;>simp only[Fo h]
 rename_i n l;cases af A x <;>simp only[ho]
 cases A.o n with
 |none=>rfl
 |some y=>cases y <;>simp only[vI h]
theorem bD.yP{au:dT}{f:FuncId}{avs:List I}{a1 a2:Option (List I)}{dst:Option Nat}{rest:List ar}{A:ab}(hi:dy au A)(hd:∀ d,dst=some d→gB au d=none)(h:bD P Y hs K (.call f avs a1 a2 dst rest A)) :
  aX P Y false (fun B=>bD P Y hs K (ao rest B)∧dy au B) (.call f avs a1 a2 dst [] A):=by
 have no:∀ {v:I},∀ d,dst=some d→∀ ns,gB au d=some ns→v.only (fun n=>ns.contains n)=true:=fun d e ns hn=>by rw[hd d e] at hn;cases hn
 cases h with
 |flat r hc hf hw=>exact .flat r hc hf (.done ⟨hw,hi.put (fun _=>rfl) no⟩)
 |lead r hc hw=>exact .lead r hc (.done ⟨hw,hi.put (fun _=>rfl) no⟩)
 |bx ρ cargs post hc hg ha hb hw=>exact .bx false ρ [] cargs post rfl hc hg (by simp only[im,X0,Kq];exact ha) hb fun r os' hp=>.done ⟨hw r os' hp,hi.put (B:=aw _ (cV ρ os'++_)) (fun _=>rfl) no⟩
 |vr aA ρ os cargs post _ hc hg ha hb hw=>exact .bx aA ρ os cargs post rfl hc hg ha hb fun r os' hp=>.done ⟨hw r os' hp,hi.put (B:=aw _ (cV ρ os'++_)) (fun _=>rfl) no⟩
theorem bD.Hf{au:dT}{v:Value}{avs:List I}{dst:Option Nat}{rest:List ar}{A:ab}(hi:dy au A)(hd:∀ d,dst=some d→gB au d=none)(h:bD P Y hs K (.kE v avs dst rest A)) :
  aX P Y false (fun B=>bD P Y hs K (ao rest B)∧dy au B) (.kE v avs dst [] A):=by
 have no:∀ {v:I},∀ d,dst=some d→∀ ns,gB au d=some ns→v.only (fun n=>ns.contains n)=true:=fun d e ns hn=>by rw[hd d e] at hn;cases hn
 cases h with
 |Xd os cargs post hc hg ha hb hw=>exact .td os cargs post rfl hc hg ha hb fun r os' hp=>.done ⟨hw r os' hp,hi.put (B:=aw _ (cV [] os'++_)) (fun _=>rfl) no⟩
theorem bD.one{au:dT}{A:ab}{g:ar}{rest:List ar}(hi:dy au A)(ho:sk g.op=true)(hL:gT au g=true)(h:bD P Y hs K (aU A g.dst g.op rest (ao rest))):aX P Y false (fun B=>bD P Y hs K (ao rest B)∧dy au B) (aU A g.dst g.op [] (ao [])):=by
 have hval:=fun v (hv:aT A g.op=some v)=>Bp hi hL hv;obtain ⟨dst,op,gd⟩:=g;simp only at ho h hval ⊢;have pure:hJ op=true→aX P Y false (fun B=>bD P Y hs K (ao rest B)∧dy au B) (aU A dst op [] (ao [])):=by
  intro hsm;rw[uP hsm] at h ⊢;cases hv:aT A op with
  |none=>rw[hv] at h;cases h
  |some v=>rw[hv] at h;exact .done ⟨h,hi.put (fun _=>rfl) (hval v hv)⟩
 have unl:(∀ ns d,dst=some d→gB au d=some ns→gT au ⟨dst,op,gd⟩=false)→∀ d,dst=some d→gB au d=none:=fun h1 d hd=>by
  cases hn:gB au d with
  |none=>rfl
  |some ns=>rw[h1 ns d hd hn] at hL;cases hL
 cases op with
 |alloc z =>
  cases dst with
  |none=>simp only[aU] at h;cases h
  |some d =>
   simp only[aU] at h ⊢;split at h
   case h_2=>cases h
   refine .done ⟨h,hi.put (B:=A.aP d _) (dst:=some d) (fun _=>rfl) fun d' e ns hn =>?_⟩;simp only[v6] at e;subst e;simpa only[gT,hn,I.only] using hL
 |box x =>
  cases dst with
  |none=>simp only[aU] at h;cases h
  |some d =>
   simp only[aU] at h ⊢;split at h
   case h_2=>cases h
   split at h
   case isFalse=>cases h
   rename_i hv;rw[if_pos hv];refine .done ⟨h,hi.put (B:=A.aP d _) (dst:=some d) (fun _=>rfl) fun d' e ns hn =>?_⟩;simp only[v6] at e;subst e;simpa only[gT,hn,I.only] using hL
 |aV s x v =>
  cases dst with
  |some d=>simp only[aU] at h;cases h
  |none =>
   simp only[aU] at h ⊢;split at h
   case h_2=>cases h
   rename_i n p hx;split at h
   case h_2=>cases h
   rename_i b hb;split at h
   case h_2=>cases h
   rename_i old hold;split at h
   case isFalse=>cases h
   rename_i hok;simp only[if_pos hok];exact .done ⟨h,fun s ns hn=>hi s ns hn⟩
 |ez x =>
  simp only[aU] at h ⊢;cases hse:kZ (af A x) with
  |none=>rw[hse] at h;simp only[gY] at h;cases h
  |some ys =>
   rw[hse] at h;cases dst with
   |none=>simp only[gY] at h;cases h
   |some d =>
    simp only[gY] at h ⊢;split at h
    case h_2=>cases h
    rename_i ho;refine .any rfl fun m hm=>.done ⟨h.qE m hm,hi.put (B:=A.aP d _) (dst:=some d) (fun _=>rfl) fun d' e ns hn =>?_⟩;simp only[v6] at e;subst e;simpa only[gT,hn,I.only] using hL
 |call f args=>exact bD.yP hi (unl fun ns d e hn=>by subst e;simp only[gT,hn]) h
 |eR x args =>
  have hu:=unl fun ns d e hn=>by subst e;simp only[gT,hn]
  simp only[aU] at h ⊢;split at h
  ·exact bD.yP hi hu h
  ·exact bD.Hf hi hu h
  ·cases h
 |dM e esz bytes z s x =>
  have hu:=unl fun ns d e hn=>by subst e;simp only[gT,hn]
  have rG:∀ B,qv A dst (af A s) B→dy au B:=fun B hB t ns hn=>by
   rw[hB.1 t fun e=>by rw[hu t e] at hn;cases hn];exact hi t ns hn
  have hf:=xn A dst e esz bytes z s x;rcases hf rest with h1 | ⟨B,h1,h2⟩ | ⟨p,bl,h1,h2⟩
  ·rw[h1] at h;cases h
  ·rw[h1] at h;have:aU A dst (.dM e esz bytes z s x) [] (ao [])=ao [] B:=(show aU A dst (.dM e esz bytes z s x) [] (ao [])=aU A dst (.dM e esz bytes z s x) rest (ao []) from rfl).trans (h1 _);rw[this];exact .done ⟨h,rG B h2⟩
  ·rw[h1] at h;have:aU A dst (.dM e esz bytes z s x) [] (ao [])=.any p fun m=>ao [] (bl m):=(show aU A dst (.dM e esz bytes z s x) [] (ao [])=aU A dst (.dM e esz bytes z s x) rest (ao []) from rfl).trans (h1 _);rw[this];exact .any rfl fun m hm=>.done ⟨h.qE m hm,rG _ (h2 m)⟩
 |_=>first | exact pure rfl | cases ho
def eW(g:ar)(A:ab)(v:I):Prop:=(ft A g∧v=.undef)∨(pass A g∧aT A g.op=some v)
theorem bD.wk{A:ab}{g:ar}{rest:List ar}(hs':hJ g.op=true)(h:bD P Y hs K (ao (g::rest) A)):∃ v,eW g A v∧bD P Y hs K (ao rest (A.aK g.dst v)):=by
 have step:pass A g→bD P Y hs K (aU A g.dst g.op rest (ao rest))→∃ v,eW g A v∧bD P Y hs K (ao rest (A.aK g.dst v)):=by
  intro hp h;rw[uP hs'] at h;cases hv:aT A g.op with
  |none=>rw[hv] at h;cases h
  |some v=>rw[hv] at h;exact ⟨v,.inr ⟨hp,hv⟩,h⟩
 simp only[ao] at h;split at h
 ·rename_i hg;exact step (by simp only[pass,hg]) h
 ·rename_i t b hg;split at h
  ·rename_i b' hb;split at h
   ·rename_i hbb;subst hbb;exact step (by simp only[pass,hg];exact hb) h
   ·rename_i hbb;exact ⟨_,.inl ⟨by simp only[ft,hg];exact .inl (by rw[hb,tN hbb]),rfl⟩,h⟩
  ·rename_i hb;exact ⟨_,.inl ⟨by simp only[ft,hg];exact .inr hb,rfl⟩,h⟩
  ·cases h
theorem qF{A:ab}{g:ar}{rest:List ar}(hn:ft A g):ao (g::rest) A=ao rest (A.aK g.dst .undef):=by
 simp only[ao];cases hg:g.guard with
 |none=>simp only[ft,hg] at hn
 |some tb =>
  obtain ⟨t,b⟩:=tb;simp only[ft,hg] at hn;rcases hn with hn | hn
  ·simp only[hn];rw[if_neg (by cases b <;>simp)]
  ·simp only[hn]
theorem eW.to{A:ab}{g:ar}{rest:List ar}{v:I}(hs':hJ g.op=true)(h:eW g A v):ao (g::rest) A=ao rest (A.aK g.dst v):=by
 rcases h with ⟨hn,rfl⟩ | ⟨hp,hv⟩
 ·exact qF hn
 ·rw[l8 hp,uP hs',hv];rfl
theorem J6{A A':ab}{p:Nat→Bool}(ho:∀ n,p n=true→A'.o n=A.o n){x:I}(hx:x.only p=true):bL A' x=bL A x:=by
 cases x <;>simp only[bL]
 rename_i n q;rw[ho n (by simpa[I.only] using hx)]
mutual
theorem KX{A A':ab}{p:Nat→Bool}(ho:∀ n,p n=true→A'.o n=A.o n):∀ {x:I},x.only p=true→ba false A' x=ba false A x
 | .own n k,h=>by simp only[ba];rw[ho n (by simpa[I.only] using h)]
 | .func f caps,h=>by simp only[ba];rw[rj ho (xs:=caps) (by simpa[I.only] using h)]
 | .agg fs,h=>by simp only[ba];rw[rj ho (xs:=fs) (by simpa[I.only] using h)]
 | .undef,_ | .cS,_ | .bool _,_ | .int _ _,_ | .aj _,_ | .nilp,_ | .cY,_ | .cJ,_ | .any,_ | .raw _,_ | .nils _,_ | .c0 _,_ | .slice _ _,_ | .tuple _,_ | .ref _,_ | .iface _ _,_ | .ptr _ _,_ | .view _ _ _ _ _,_ | .mref _,_ | .cP _,_ | .cU _ _,_=>by simp[ba]
theorem rj{A A':ab}{p:Nat→Bool}(ho:∀ n,p n=true→A'.o n=A.o n):∀ {xs:List I},I.cD p xs=true→bA false A' xs=bA false A xs
 | [],_=>rfl
 |x::xs,h=>by
  simp only[I.cD,Z0] at h;simp only[bA,KX ho h.1,rj ho h.2]
end
theorem Bz{p:Nat→Bool}{f:av→I} : ∀ {xs:List av},(∀ x∈xs,(f x).only p=true)→I.cD p (xs.map f)=true
 | [],_=>rfl
 |x::xs,h=>by
  simp only[Z3,I.cD,Z0];exact ⟨h x (by simp),Bz fun y hy=>h y (by simp[hy])⟩
theorem TY{A A':ab}{p:Nat→Bool}(ho:∀ n,p n=true→A'.o n=A.o n){x:I}(hx:x.only p=true):fE A' x=fE A x:=by
 cases x with
 |mref n=>simp only[fE];rw[ho n (by simpa[I.only] using hx)]
 |raw v=>cases v <;>first | rfl | (rename_i o;cases o <;>rfl)
 |_=>rfl
theorem VD{A A':ab}{op:bq}{xs:List Nat}{p:Nat→Bool}(hm:lG op=some xs)(h:dj A A' op.b9)(hx:∀ s∈xs,(A.t s).only p=true)(ho:∀ n,p n=true→A'.o n=A.o n):aT A' op=aT A op:=by
 have jt:op.fC=0→aT A' op=aT A op:=fun hc=>vH hc h;have dl:=fun {x:I} (hx:x.only p=true)=>J6 ho hx;unfold lG at hm;split at hm
 ·rename_i s x;simp only[v6] at hm;subst hm;have e:=h x (by simp[bq.b9,av.sl]);simp only[aT,af,e,dl (hx x (by simp))]
 ·rename_i f off x;simp only[v6] at hm;subst hm;have e:=h x (by simp[bq.b9,av.sl]);have k:=hx x (by simp);simp only[aT,af,e];generalize A.t x=u at k ⊢;cases u with
  |ptr n q=>simp only[dl (x:=.ptr n q) k]
  |ref c=>cases c <;>rfl
  |_=>rfl
 ·rename_i n esz x i;simp only[v6] at hm;subst hm;have e:=h x (by simp[bq.b9,av.sl]);have ei:=cn (x:=i) (fun m hm=>h m (by simp[bq.b9,hm]));have k:=hx x (by simp);simp only[aT,ei];generalize af A i=w;simp only[af,e];generalize A.t x=u at k ⊢;cases u with
  |ptr n q=>simp only[dl (x:=.ptr n q) k]
  |ref c=>cases c <;>rfl
  |_=>rfl
 ·rename_i esz x i;simp only[v6] at hm;subst hm;have e:=h x (by simp[bq.b9,av.sl]);have ei:=cn (x:=i) (fun m hm=>h m (by simp[bq.b9,hm]));have k:=hx x (by simp);simp only[aT,ei];generalize af A i=w;simp only[af,e];generalize A.t x=u at k ⊢;cases u with
  |own n l=>simp only[ho n (by simpa[I.only] using k)]
  |view n q=>simp only[dl (x:=.ptr n q) (by simpa[I.only] using k)]
  |_=>rfl
 ·rename_i x;simp only[v6] at hm;subst hm;have e:=h x (by simp[bq.b9,av.sl]);have k:=hx x (by simp);simp only[aT,af,e];generalize A.t x=u at k ⊢;cases u with
  |own n l=>simp only[ho n (by simpa[I.only] using k)]
  |_=>rfl
 ·rename_i n esz x;simp only[v6] at hm;subst hm;have e:=h x (by simp[bq.b9,av.sl]);have k:=hx x (by simp);simp only[aT,af,e];generalize A.t x=u at k ⊢;cases u with
  |ptr n q=>simp only[dl (x:=.ptr n q) k]
  |ref c=>cases c <;>rfl
  |_=>rfl
 ·rename_i esz x lo hi mx;simp only[v6] at hm;subst hm;have e:=h x (by simp[bq.b9,av.sl]);have e1:=nz (x:=lo) (fun m hm=>h m (by simp[bq.b9,hm]));have e2:=nz (x:=hi) (fun m hm=>h m (by simp[bq.b9,hm]));have e3:=nz (x:=mx) (fun m hm=>h m (by simp[bq.b9,hm]));have k:=hx x (by simp);simp only[aT,e1,e2,e3];generalize lo.map (af A)=w1;generalize hi.map (af A)=w2;generalize mx.map (af A)=w3;simp only[af,e];generalize A.t x=u at k ⊢;cases u with
  |view n q=>simp only[dl (x:=.ptr n q) (by simpa[I.only] using k)]
  |_=>rfl
 ·rename_i x;simp only[v6] at hm;subst hm;have e:=h x (by simp[bq.b9,av.sl]);have k:=hx x (by simp);simp only[aT,af,e];generalize A.t x=u at k ⊢;cases u with
  |view n q=>simp only[dl (x:=.ptr n q) (by simpa[I.only] using k)]
  |_=>rfl
 ·rename_i ty z ok x kk;simp only[v6] at hm;subst hm;have e:=h x (by simp[bq.b9,av.sl]);have ek:=cn (x:=kk) (fun m hm=>h m (by simp[bq.b9,hm]));have k:=hx x (by simp);simp only[aT,ek];generalize af A kk=w;simp only[af,e,TY ho k]
 ·rename_i x;simp only[v6] at hm;subst hm;have e:=h x (by simp[bq.b9,av.sl]);have k:=hx x (by simp);simp only[aT,af,e];generalize A.t x=u at k ⊢;cases u with
  |own n l=>simp only[cM,ho n (by simpa[I.only] using k)]
  |view n q=>simp only[cM,dl (x:=.ptr n q) (by simpa[I.only] using k)]
  |_=>rfl
 ·rename_i esz ps;split at hm
  case isFalse=>cases hm
  rename_i hall;simp only[v6] at hm;subst hm;have hev:ps.map (af A')=ps.map (af A):=jW h;have hon:I.cD p (ps.map (af A))=true:=Bz fun x hx'=>by
   have h1:=X3.1 hall x hx';cases x with
   |c _=>cases h1
   |t s=>exact hx s (by simp only[iz,List.mem_flatMap];exact ⟨_,hx',by simp[av.sl]⟩)
  simp only[aT,hev,rj ho hon]
 ·rfl
 ·split at hm
  ·rename_i hc;exact jt hc.1
  ·cases hm
theorem xl{au:dT}{A:ab}{g:ar}{p:Nat→Bool}(hi:dy au A)(h:qG au g p=true):∃ xs,lG g.op=some xs∧∀ s∈xs,(A.t s).only p=true:=by
 unfold qG at h;split at h
 case h_2=>cases h
 rename_i xs hm;refine ⟨xs,hm,fun s hs' =>?_⟩;have h1:=X3.1 h s hs';split at h1
 case h_2=>cases h1
 rename_i ns hn;exact jd (fun n h2=>X3.1 h1 n (by simpa using h2)) _ (hi s ns hn)
theorem eW.vb{A A':ab}{g:ar}{v:I}{xs:List Nat}{p:Nat→Bool}(h:eW g A v)(hm:lG g.op=some xs)(ha:dj A A' g.b9)(hx:∀ s∈xs,(A.t s).only p=true)(ho:∀ n,p n=true→A'.o n=A.o n):eW g A' v:=by
 rcases h with ⟨h,rfl⟩ | ⟨h,k⟩
 ·exact .inl ⟨nS ha h,rfl⟩
 ·exact .inr ⟨lL ha h,by rw[VD hm (ar.iH ha) hx ho];exact k⟩
theorem eW.rG{au:dT}{A:ab}{g:ar}{v:I}(hi:dy au A)(hg:gT au g=true)(h:eW g A v):dy au (A.aK g.dst v):=by
 rcases h with ⟨_,rfl⟩ | ⟨_,k⟩
 ·exact hi.put (fun _=>rfl) fun _ _ _ _=>rfl
 ·exact hi.put (fun _=>rfl) (Bp hi hg k)
theorem eW.cj{A A':ab}{g:ar}{v:I}(h:eW g A v)(hu:dk A A')(ha:dj A A' g.b9):eW g A' v:=by
 rcases h with ⟨h,rfl⟩ | ⟨h,k⟩
 ·exact .inl ⟨nS ha h,rfl⟩
 ·exact .inr ⟨lL ha h,BP hu (ar.iH ha) k⟩
theorem Ar{au:dT}{g h:ar}(hi:me hs au g h=true):hJ g.op=true∧mz hs au g h=true∧(∀ d,g.dst=some d→d∉h.b9)∧(∀ d,g.dst=some d→h.dst≠some d)∧(∀ d,h.dst=some d→d∉g.b9):=by
 simp only[me,Z0] at hi;obtain ⟨h1,h2,h3,h4⟩:=hi;refine ⟨h1,h2,fun d hd =>?_,fun d hd =>?_,fun d hd =>?_⟩
 ·rw[hd] at h3;simp at h3;exact h3.1
 ·rw[hd] at h3;simp at h3;exact h3.2
 ·rw[hd] at h4;simpa using h4
theorem xr{aA:Bool}{A A':ab}{ρ:List (Nat×Nat)}{os:List (Nat×ah)}(hu:dk A A'):∀ {xs cs:List I},fI aA A ρ os xs cs→fI aA A' ρ os xs cs
 | [],[],_=>trivial
 |x::xs,c::cs,h=>⟨h.1.imp id fun h=>zJ hu h,xr hu h.2⟩
 | [],_::_,h=>h.elim
 |_::_,[],h=>h.elim
theorem Ua{A:ab}{d:Option Nat}{v:I}{ts:List (Nat×I)}{os:List (Nat×ah)}(h:A.aK d v=aw ts os):∃ ts2,A=aw ts2 os∧∀ X:List (Nat×ah),(aw ts2 X).aK d v=aw ts X:=by
 cases d with
 |none=>exact ⟨ts,h,fun _=>rfl⟩
 |some d =>
  have ht:∀ k,(A.aK (some d) v).t k=b7 ts k:=fun k=>by rw[h];rfl
  have ho:A.o=aE os:=by
   have:(A.aK (some d) v).o=aE os:=by rw[h];rfl
   rwa [gn] at this
  refine ⟨(d,A.t d)::ts,?_,fun X =>?_⟩
  ·cases A with
   |mk t o =>
    simp only[aw,ab.mk.injEq];refine ⟨funext fun k =>?_,ho⟩;have:=ht k;simp only[ab.aK,ab.put] at this;simp only[b7];by_cases hk:k=d
    ·subst hk;simp
    ·rw[if_neg hk] at this;have hk':¬ d=k:=fun e=>hk e.symm;simp only[hk,if_false];exact this
  ·simp only[ab.aK,ab.put,aw,ab.mk.injEq,and_true]
   funext k
   have:=ht k;simp only[ab.aK,ab.put] at this;by_cases hk:k=d
   ·subst hk;simp at this ⊢;exact this
   ·have hk':¬ d=k:=fun e=>hk e.symm;simp only[b7,hk,if_false]
theorem Vy{ρ:List (Nat×Nat)}{os0 os':List (Nat×ah)}{r:I}(hb:dx false ρ [] os0 r os'){n:Nat}{x:ah}(hx:aE os0 n=some x):aE (cV ρ os'++os0) n=some x:=by
 rw[rY];cases hp:pre ρ os' n with
 |none=>exact hx
 |some m =>
  obtain ⟨h1,h2⟩:=kS hp;have:=(hb.nP m h1 (by simp[aC,aE])).1;rw[h2,hx] at this;cases this
theorem bD.Hd{A B:ab}{j:ar}{v:I}{f:FuncId}{args:List av}{dst:Option Nat}{rest:List ar}(hj:hJ j.op=true)(hv:eW j A v)(hB:B=A.aK j.dst v)(hf:hs.contains f=false)(hag:dj A B (iz args))(hd:∀ d,j.dst=some d→dst≠some d)(hr:∀ d,dst=some d→d∉j.b9)
  (h:bD P Y hs K (.call f (args.map (af B)) (bA true B (args.map (af B))) (bA false B (args.map (af B))) dst rest B)):bD P Y hs K (.call f (args.map (af A)) (bA true A (args.map (af A))) (bA false A (args.map (af A))) dst (j::rest) A):=by
 have eo:B.o=A.o:=by rw[hB,gn]
 have cj:dk B A:=fun n x hx=>by rwa [←eo]
 have up':dk A B:=fun n x hx=>by rwa [eo]
 have eav:args.map (af B)=args.map (af A):=jW hag;rw[eav] at h;have cont:∀ r:I,bD P Y hs K (ao rest (B.aK dst r))→bD P Y hs K (ao (j::rest) (A.aK dst r)):=fun r hw=>by
  have h1:eW j (A.aK dst r) v:=hv.cj (fun n x hx=>by rwa [gn]) (kT hr);rw[h1.to hj,n5 (fun d hd'=>fun e=>hd d e hd'),←hB];exact hw
 generalize e1:bA true B (args.map (af A))=a1 at h;generalize e2:bA false B (args.map (af A))=a2 at h;generalize hBm:B=B0 at h;cases h with
 |flat r hc hfl hw =>
  subst hBm;rw[jY cj e1];exact .flat r hc hfl (cont r hw)
 |lead r hc hw =>
  subst hBm;rw[jY cj e2];exact .lead r hc (cont r hw)
 |bx ρ cargs post hc hg ha hb hw =>
  rename_i ts os0;rw[hB] at hBm;obtain ⟨ts2,hA,hts⟩:=Ua hBm;have hA':=hA;clear cont;subst hA;refine .bx ρ cargs post hc hg (xr (A:=aw ts os0) (A':=aw ts2 os0) (fun n x hx=>hx) ha) hb fun r os' hp =>?_;have h1:eW j ((aw ts2 (cV ρ os'++os0)).aK dst (r.aQ (bp ρ))) v:=hv.cj (fun n x hx=>by
   rw[gn];exact Vy (hb r os' hp) hx) (fun k hk=>by
    have:=kT (A:=aw ts2 (cV ρ os'++os0)) (v:=r.aQ (bp ρ)) hr k hk;rw[this];rfl)
  rw[h1.to hj,n5 (fun d hd'=>fun e=>hd d e hd'),hts];exact hw r os' hp
 |vr aA ρ os cargs post hfs =>
  rw[hf] at hfs;cases hfs
theorem bD.qj{au:dT}{A:ab}{j g:ar}{rest:List ar}(hinv:dy au A)(hi:me hs au j g=true)(hw:bD P Y hs K (ao (j::g::rest) A)):bD P Y hs K (ao (g::j::rest) A):=by
 obtain ⟨hj,hl,i1,i2,i3⟩:=Ar hi;obtain ⟨v,hv,hw⟩:=bD.wk hj hw;have ag:dj (A.aK j.dst v) A g.b9:=(kT i1).symm;have ag':dj A (A.aK j.dst v) g.b9:=kT i1;have cj:dk (A.aK j.dst v) A:=fun n x hx=>by rwa [gn] at hx
 have up':∀ (d:Option Nat) (u:I),dk A (A.aK d u):=fun d u n x hx=>by rwa [gn]
 by_cases hsg:hJ g.op=true
 ·obtain ⟨u,hu,hw⟩:=bD.wk hsg hw;rw[(hu.cj cj ag).to hsg,(hv.cj (up' _ _) (kT i3)).to hj,←n5 i2];exact hw
 ·-- the guard
  have guard:(ft (A.aK j.dst v) g∧ao (g::rest) (A.aK j.dst v)=ao rest ((A.aK j.dst v).aK g.dst .undef))∨(pass (A.aK j.dst v) g∧ao (g::rest) (A.aK j.dst v)=aU (A.aK j.dst v) g.dst g.op rest (ao rest))∨ao (g::rest) (A.aK j.dst v)=.fail:=by
   cases hg:g.guard with
   |none=>exact .inr (.inl ⟨by simp only[pass,hg],by simp only[ao,hg]⟩)
   |some tb =>
    obtain ⟨t,b⟩:=tb;cases ht:(A.aK j.dst v).t t with
    |bool b' =>
     by_cases hbb:b'=b
     ·subst hbb;have hp:pass (A.aK j.dst v) g:=by simp only[pass,hg,ht]
      exact .inr (.inl ⟨hp,l8 hp⟩)
     ·have hn:ft (A.aK j.dst v) g:=by simp only[ft,hg];exact .inl (by rw[ht,tN hbb])
      exact .inl ⟨hn,qF hn⟩
    |undef =>
     have hn:ft (A.aK j.dst v) g:=by simp only[ft,hg];exact .inr ht
     exact .inl ⟨hn,qF hn⟩
    |_=>exact .inr (.inr (by simp only[ao,hg,ht]))
  rcases guard with ⟨hn,he⟩ | ⟨hp,he⟩ | he
  ·rw[he] at hw;rw[qF (nS ag hn),(hv.cj (up' _ _) (kT i3)).to hj,←n5 i2];exact hw
  ·rw[he] at hw;rw[l8 (lL ag hp)];obtain ⟨dst,op,gd⟩:=g;simp only at hw hsg i2 i3 ⊢;cases op with
   |alloc z =>
    cases dst with
    |none=>simp only[aU] at hw;cases hw
    |some d =>
    simp only[aU] at hw ⊢;split at hw
    case h_2=>cases hw
    rename_i ho;rw[gn] at ho;simp only[ho];have h1:eW j ((A.aP d (.box z)).put d (.ptr d [])) v:=hv.cj (fun n y hy=>by
     have:n≠d:=fun he=>by rw[he,ho] at hy;cases hy
     simp only[ab.put,ab.aP,this,if_false];exact hy) (fun k hk=>by
     have:k≠d:=fun he=>i3 d rfl (he▸hk);simp only[ab.put,ab.aP,this,if_false])
    rw[h1.to hj];have e:((A.aK j.dst v).aP d (.box z)).put d (.ptr d [])=((A.aP d (.box z)).put d (.ptr d [])).aK j.dst v:=by
     cases hgd:j.dst with
     |none=>rfl
     |some e =>
      have hne:e≠d:=fun he=>i2 e hgd (by rw[he]);simp only[ab.aK,ab.put,ab.aP,ab.mk.injEq,and_true]
      funext k
      by_cases h1:k=e <;>by_cases h2:k=d <;>simp_all
    rw[←e];exact hw
   |box x =>
    have ex:af (A.aK j.dst v) x=af A x:=cn (ar.iH ag');cases dst with
    |none=>simp only[aU] at hw;cases hw
    |some d =>
    simp only[aU] at hw ⊢;split at hw
    case h_2=>cases hw
    rename_i ho;rw[gn] at ho;simp only[ho];rw[ex] at hw;split at hw
    case isFalse=>cases hw
    rename_i hval;rw[if_pos hval];have h1:eW j ((A.aP d (.box (af A x))).put d (.ptr d [])) v:=hv.cj (fun n y hy=>by
     have:n≠d:=fun he=>by rw[he,ho] at hy;cases hy
     simp only[ab.put,ab.aP,this,if_false];exact hy) (fun k hk=>by
     have:k≠d:=fun he=>i3 d rfl (he▸hk);simp only[ab.put,ab.aP,this,if_false])
    rw[h1.to hj];have e:((A.aK j.dst v).aP d (.box (af A x))).put d (.ptr d [])=((A.aP d (.box (af A x))).put d (.ptr d [])).aK j.dst v:=by
     cases hgd:j.dst with
     |none=>rfl
     |some e =>
      have hne:e≠d:=fun he=>i2 e hgd (by rw[he]);simp only[ab.aK,ab.put,ab.aP,ab.mk.injEq,and_true]
      funext k
      by_cases h1:k=e <;>by_cases h2:k=d <;>simp_all
    rw[←e];exact hw
   |ez x =>
    have ex:af (A.aK j.dst v) x=af A x:=cn (ar.iH ag');simp only[aU] at hw ⊢;rw[ex] at hw;cases hse:kZ (af A x) with
    |none=>rw[hse] at hw;simp only[gY] at hw;cases hw
    |some ys =>
    rw[hse] at hw;cases dst with
    |none=>simp only[gY] at hw;cases hw
    |some d =>
    simp only[gY] at hw ⊢;rw[gn] at hw;split at hw
    case h_2=>cases hw
    rename_i ho;refine .any fun m hm =>?_;have hw:=hw.qE m hm;generalize hbx:ah.box (.agg (ys++List.replicate m (.int .u8 0)))=aA at hw ⊢;generalize hvw:I.view d [] 1 0 ys.length=vw at hw ⊢;have h1:eW j ((A.aP d aA).aK (some d) vw) v:=hv.cj (fun n y hy=>by
     have:n≠d:=fun he=>by rw[he,ho] at hy;cases hy
     simp only[ab.aK,ab.put,ab.aP,this,if_false];exact hy) (fun k hk=>by
     have:k≠d:=fun he=>i3 d rfl (he▸hk);simp only[ab.aK,ab.put,ab.aP,this,if_false])
    rw[h1.to hj];have e:((A.aK j.dst v).aP d aA).aK (some d) vw=((A.aP d aA).aK (some d) vw).aK j.dst v:=by
     cases hgd:j.dst with
     |none=>rfl
     |some e =>
      have hne:e≠d:=fun he=>i2 e hgd (by rw[he]);simp only[ab.aK,ab.put,ab.aP,ab.mk.injEq,and_true]
      funext k
      by_cases h1:k=e <;>by_cases h2:k=d <;>simp_all
    rw[←e];exact hw
   |call f args =>
    simp only[aU] at hw ⊢;refine bD.Hd hj hv rfl (by simpa[mz,nN] using hl) (ar.iH ag') i2 i3 hw
   |aV s y u =>
    cases dst with
    |some d=>simp only[aU] at hw;cases hw
    |none =>
    have ey:af (A.aK j.dst v) y=af A y:=cn (ar.iH ag').l;have eu:af (A.aK j.dst v) u=af A u:=cn (ar.iH ag').r;simp only[aU] at hw ⊢;rw[ey,eu,gn] at hw;cases hx:af A y <;>simp only[hx] at hw ⊢ <;>try (cases hw;done)
    rename_i n q;cases ho:A.o n with
    |none=>rw[ho] at hw;cases hw
    |some ob =>
    rw[ho] at hw;cases ob <;>simp only at hw ⊢ <;>try (cases hw;done)
    rename_i b;cases hb:b.at q with
    |none=>rw[hb] at hw;cases hw
    |some old =>
    rw[hb] at hw;simp only at hw ⊢;split at hw
    case isFalse=>cases hw
    rename_i hok;rw[if_pos hok];have h1:eW j (A.aP n (.box (b.dh q (af A u)))) v:=by
     have none0:lG j.op=some []→eW j (A.aP n (.box (b.dh q (af A u)))) v:=fun hm=>hv.vb (p:=fun _=>false) hm (fun _ _=>rfl) (fun s hs'=>by cases hs') (fun m hm=>by cases hm);cases y with
     |c y =>
      simp only[mz,nN,hJ,Bool.false_or] at hl;split at hl
      ·rename_i hm;exact none0 hm
      ·cases hl
     |t y =>
      simp only[mz,nN,hJ,Bool.false_or] at hl;split at hl
      ·rename_i hm;exact none0 hm
      ·split at hl
       case h_2=>cases hl
       rename_i ms hms;obtain ⟨xs,hm,hx2⟩:=xl hinv hl;refine hv.vb hm (fun _ _=>rfl) hx2 fun m hm2 =>?_;have hn:=hinv y ms hms;simp only[af] at hx;rw[hx] at hn;have:m≠n:=fun e=>by subst e;simp[I.only] at hn hm2;exact hm2 hn
       simp only[ab.aP,if_neg this]
    rw[h1.to hj];have e:(A.aK j.dst v).aP n (.box (b.dh q (af A u)))=(A.aP n (.box (b.dh q (af A u)))).aK j.dst v:=by cases j.dst <;>rfl
    rw[←e];exact hw
   |dM e esz bytes z s x =>
    have hag:dj A (A.aK j.dst v) (s.sl++x.sl):=ar.iH ag';have he2:aU (A.aK j.dst v) dst (.dM e esz bytes z s x) rest (ao rest)=aU A dst (.dM e esz bytes z s x) (j::rest) fun B=>ao rest (B.aK j.dst v):=by
     cases hjd:j.dst with
     |none=>rfl
     |some d =>
      rw[hjd] at hag;exact Fu (fun e=>i2 d hjd e) hag rest (j::rest) (ao rest)
    rw[he2] at hw;have jv:∀ B,qv A dst (af A s) B→ao (j::rest) B=ao rest (B.aK j.dst v):=fun B hB=>by
     have hagB:dj A B j.b9:=fun k hk=>hB.1 k fun e=>i3 k e hk;have:eW j B v:=by
      simp only[mz,nN,hJ,Bool.false_or,Bool.or_eq_true] at hl;rcases hl with hl | hl
      ·obtain ⟨xs,hm,hx2⟩:=xl hinv hl;exact hv.vb hm hagB hx2 fun m hm2=>by cases hm2
      ·have:=mV hinv hl;exact hv.cj (hB.2 (by simpa using this)) hagB
     rw[this.to hj]
    rcases xn A dst e esz bytes z s x (j::rest) with h1 | ⟨B,h1,h2⟩ | ⟨p,bl,h1,h2⟩
    ·rw[h1] at hw;cases hw
    ·rw[h1] at hw ⊢;rw[jv B h2];exact hw
    ·rw[h1] at hw ⊢;exact .any fun m hm=>by rw[jv _ (h2 m)];exact hw.qE m hm
   |_=>first | exact absurd rfl hsg | (simp[mz,nN,hJ] at hl)
  ·rw[he] at hw;cases hw
theorem bD.oN{au:dT}{g:ar} : ∀ {l:List ar} {r:List ar} {A:ab},dy au A→(∀ j∈l,me hs au j g=true∧gT au j=true)→bD P Y hs K (ao (l++g::r) A)→bD P Y hs K (ao (g::(l++r)) A)
 | [],r,A,_,_,h=>h
 |j::l,r,A,hinv,hi,h=>by
  have hj:=(Ar (hi j (by simp)).1).1;obtain ⟨v,hv,h2⟩:=bD.wk (g:=j) (rest:=l++g::r) hj h;have h3:=bD.oN (l:=l) (r:=r) (hv.rG hinv (hi j (by simp)).2) (fun k hk=>hi k (by simp[hk])) h2;refine bD.qj hinv (hi j (by simp)).1 ?_;rw[hv.to hj];exact h3
end
def sa:List Nat→Bool
 | []=>true
 |a::l => !l.contains a&&sa l
def qB(hs:List FuncId)(au:dT)(gs:List ar)(cl:List Nat):List Nat→List Nat→Bool
 |_,[]=>true
 |before,i::σ=>(before.all fun j=>(cl.getD i 0).testBit j||me hs au (gs.getD j default) (gs.getD i default))&&qB hs au gs cl (i::before) σ
def sv(hs:List FuncId)(au:dT)(on:List (List Nat))(gs:List ar)(cl:List Nat)(σ:List Nat):Bool :=
 (Nat.beq σ.length gs.length&&(sa σ&&(σ.all (fun i=>decide (i<gs.length))&&((List.range gs.length).all (fun i=>σ.contains i)&&gs.all fun g=>sk g.op&&gT au g))))&&(qB hs au gs cl [] σ&&(List.range gs.length).all fun i=>(on.getD i []).all (fun k=>decide (k<i))&&Nat.beq (cl.getD i 0) (mX cl (on.getD i [])))
theorem Ba:∀ {l:List Nat},sa l=true→l.Nodup
 | [],_=>List.nodup_nil
 |a::l,h=>by
  simp only[sa,Z0,Bool.not_eq_true',List.contains_eq_mem,decide_eq_false_iff_not] at h;exact List.nodup_cons.2 ⟨h.1,Ba h.2⟩
theorem xj{hs:List FuncId}{au:dT}{gs:List ar}{cl:List Nat} : ∀ {σ before:List Nat},qB hs au gs cl before σ=true→∀ s1 i s2,σ=s1++i::s2→∀ j,j∈before∨j∈s1→(cl.getD i 0).testBit j=true∨me hs au (gs.getD j default) (gs.getD i default)=true
 | [],_,_,s1,i,s2,e,_,_=>by cases s1 <;>cases e
 |a::σ,before,h,s1,i,s2,e,j,hj=>by
  simp only[qB,Z0,X3,Bool.or_eq_true] at h;cases s1 with
  |nil =>
   simp only[X4,Y7] at e;obtain ⟨rfl,rfl⟩:=e;rcases hj with hj | hj
   ·exact h.1 j hj
   ·cases hj
  |cons b s1 =>
   simp only[Y3,Y7] at e;obtain ⟨rfl,rfl⟩:=e;refine xj h.2 s1 i s2 rfl j ?_;rcases hj with hj | hj
   ·exact .inl (List.mem_cons_of_mem _ hj)
   ·rcases zz1.1 hj with hj | hj
    ·exact .inl (by rw[hj];exact List.mem_cons_self)
    ·exact .inr hj
def gX(σ:List Nat)(listed:Array Bool):List Nat:=σ.filter fun i => !listed.getD i true
def mC(gs:List ar)(σ:List Nat)(listed:Array Bool):List ar:=(gX σ listed).map fun i=>gs.getD i default
theorem V1{σ:List Nat}{listed:Array Bool}{i:Nat}(hn:σ.Nodup)(hi:i∈σ)(hl:i<listed.size)(hu:listed.getD i true=false):∃ s1 s2,σ=s1++i::s2∧gX σ listed=(s1.filter fun j => !listed.getD j true)++i::(s2.filter fun j => !listed.getD j true) ∧
  gX σ (listed.setIfInBounds i true)=(s1.filter fun j => !listed.getD j true)++(s2.filter fun j => !listed.getD j true):=by
 obtain ⟨s1,s2,rfl⟩:=List.append_of_mem hi;have same:∀ j,j≠i→(listed.setIfInBounds i true).getD j true=listed.getD j true:=fun j hj=>getD_set_ne true (Ne.symm hj);have jw:(listed.setIfInBounds i true).getD i true=true:=by simp[hl]
 have hnd:=List.nodup_append.1 hn;have h1:∀ j∈s1,j≠i:=fun j hj=>hnd.2.2 j hj i List.mem_cons_self;have h2:∀ j∈s2,j≠i:=fun j hj e=>(List.nodup_cons.1 hnd.2.1).1 (e▸hj);refine ⟨s1,s2,rfl,?_,?_⟩
 ·simp only[gX,List.filter_append,List.filter_cons,hu,Bool.not_false,if_true]
 ·simp only[gX,List.filter_append,List.filter_cons,jw,Bool.not_true,Z4,if_false]
  congr 1
  ·exact List.filter_congr fun j hj=>by rw[same j (h1 j hj)]
  ·exact List.filter_congr fun j hj=>by rw[same j (h2 j hj)]
structure xe (hs:List FuncId) (au:dT) (l:List Oper) (gs:List ar) (σ:List Nat):Prop where
 Uj:σ.Nodup
 lt:∀ i∈σ,i<gs.length
 all:∀ i,i<gs.length→i∈σ
 ok:∀ g∈gs,sk g.op=true∧gT au g=true
 len:σ.length=gs.length
 kv:∀ i o,l[i]?=some o→∀ k∈dC o,k<i
 uX:∀ (S:Nat→Prop),(∀ i o,l[i]?=some o→S i→∀ k∈dC o,S k)→∀ s1 i s2 o,σ=s1++i::s2→l[i]?=some o→(∀ k∈dC o,S k)→∀ j∈s1,¬ S j→me hs au (gs.getD j default) (gs.getD i default)=true
theorem Vu{hs:List FuncId}{au:dT}{l:List Oper}{gs:List ar}{cl σ:List Nat}(hlen:gs.length=l.length)(h:sv hs au (l.map dC) gs cl σ=true):xe hs au l gs σ:=by
 simp only[sv,Z0,X3,decide_eq_true_eq,List.mem_range,List.contains_eq_mem] at h;obtain ⟨⟨h1,h2,h3,h4,h5⟩,h6,h7⟩:=h;have bz:∀ i o,l[i]?=some o→(∀ k∈dC o,k<i)∧(∀ j,(cl.getD i 0).testBit j=true→j∈dC o∨∃ k∈dC o,(cl.getD k 0).testBit j=true):=by
  intro i o ho;have hi:i<l.length:=(Z6.1 ho).1;have h8:=h7 i (by omega);have hon:(l.map dC).getD i []=dC o:=by simp[Y8,ho]
  rw[hon] at h8;have hb:=Nat.eq_of_beq_eq_true h8.2;exact ⟨h8.1,fun j hj=>wM (by rw[←hb];exact hj)⟩
 refine ⟨Ba h2,h3,h4,h5,Nat.eq_of_beq_eq_true h1,fun i o ho=>(bz i o ho).1,?_⟩;intro S hS s1 i s2 o e ho hon j hj hnj;have key:∀ n i o,i≤n→l[i]?=some o→(∀ k∈dC o,S k)→∀ j,(cl.getD i 0).testBit j=true→S j:=by
  intro n
  induction n with
  |zero =>
   intro i o hi ho hon j hj;obtain ⟨h8,h9⟩:=bz i o ho;rcases h9 j hj with h | ⟨k,hk,_⟩
   ·exact hon j h
   ·have:=h8 k hk;omega
  |succ n ih =>
   intro i o hi ho hon j hj;obtain ⟨h8,h9⟩:=bz i o ho;rcases h9 j hj with h | ⟨k,hk,hjk⟩
   ·exact hon j h
   ·have hki:=h8 k hk;have hkl:k<l.length:=Nat.lt_trans hki (Z6.1 ho).1;obtain ⟨ok,hok⟩:∃ ok,l[k]?=some ok:=⟨l[k],Y6 hkl⟩
    exact ih k ok (by omega) hok (hS k ok hok (hon k hk)) j hjk
 rcases xj h6 s1 i s2 e j (.inr hj) with h | h
 ·exact absurd (key i i o (Z5 _) ho hon j h) hnj
 ·exact h
section
variable {c:b8}
theorem RZ{K:ab→Prop}{hs:List FuncId}{au:dT}{bd:Array Oper}{Q:Exit→Act→World→Prop}{o:Oper}{g:ar}{rest:List ar}{A:ab}{a:Act}{w:World}{Kw:Act→World→Prop}(hg:kD c.P c.n bd o=some g)(hi:dy au A)(ho:sk g.op=true∧gT au g=true)(hwp:bD c.P c.Y hs K (ao (g::rest) A))(hs':bw c A a w)
  (hK:∀ B a' w',bD c.P c.Y hs K (ao rest B)→dy au B→bw c B a' w'→Kw a' w'):if Region.wanted o (yielded bd a.tmps) then o.wpIn c.bl 9 c.P a w Kw Q else (∀ f,o.about c.P w a.eval=some f→c.bl.fn f)∧Kw (a.put o.dst undef) w:=by
 obtain ⟨h1,h2,h3,h4⟩:=nq hg;have step:bD c.P c.Y hs K (aU A g.dst g.op rest (ao rest))→o.wpIn c.bl 9 c.P a w Kw Q:=fun h =>
  rz h1 h2.symm (by rw[h2];exact h3) (bD.one (Y:=c.Y) hi ho.1 ho.2 h) hs' (fun B a' w' hw hs2=>by
   cases hw with
   |done hk=>exact hK B a' w' hk.1 hk.2 hs2)
 simp only[ao] at hwp;rcases h4 with ⟨h5,h6⟩ | ⟨j,b,t,h5,h6,h7⟩
 ·rw[h6] at hwp;have hw:Region.wanted o (yielded bd a.tmps)=true:=by simp[Region.wanted,h5]
  rw[hw,if_pos rfl];exact step hwp
 ·rw[h7] at hwp;simp only at hwp;split at hwp
  ·rename_i b' hb';rw[rE hs' h5 h6 hb'];split at hwp
   ·rename_i hbb;subst hbb;simp only[BEq.rfl,if_true];exact step hwp
   ·rename_i hbb;have:(b'==b)=false:=by simpa using hbb
    rw[this];simp only[Z4,if_false];exact ⟨fun f _=>kM c f,hK _ _ _ hwp (hi.put (fun _=>rfl) fun _ _ _ _=>rfl) (by rw[h2];exact hs'.lN h3)⟩
  ·rename_i hb';rw[rF hs' h5 h6 hb'];simp only[Z4,if_false];exact ⟨fun f _=>kM c f,hK _ _ _ hwp (hi.put (fun _=>rfl) fun _ _ _ _=>rfl) (by rw[h2];exact hs'.lN h3)⟩
  ·cases hwp
theorem Fg{K:ab→Prop}{fs:List FuncId}{au:dT}{bd:Array Oper}{gs:List ar}{σ:List Nat}{Q:Exit→Act→World→Prop}(hQ:∀ B a w,K B→bw c B a w→Q .normal a w)(hgs:eX c.P c.n bd bd.toList=some gs)(hd:xe fs au bd.toList gs σ) :
  ∀ (fuel:Nat) (listed:Array Bool) (A:ab) (a:Act) (w:World),listed.size=bd.size→(∀ i o,bd.toList[i]?=some o→listed.getD i false=true→∀ k∈dC o,listed.getD k false=true)→(gX σ listed).length≤fuel →
   dy au A→bD c.P c.Y fs K (ao (mC gs σ listed) A)→bw c A a w→wpAnyIn c.bl 9 c.P .any bd Q fuel listed a w:=by
 obtain ⟨hlen,hat⟩:=ly hgs;have onOf_mem:∀ (o:Oper) (e:Edge),e∈o.after→Region.binds .any e=true→e.on∈dC o:=fun o e he hb=>by
  simp only[dC,X1,List.mem_filter];exact ⟨e,⟨by simpa using he,hb⟩,rfl⟩
 have of_onOf:∀ (o:Oper) (k:Nat),k∈dC o→∃ e∈o.after,Region.binds .any e=true∧e.on=k:=fun o k hk=>by
  simp only[dC,X1,List.mem_filter] at hk;obtain ⟨e,⟨h1,h2⟩,h3⟩:=hk;exact ⟨e,by simpa using h1,h2,h3⟩
 have hgl:gs.length=bd.size:=by rw[hlen,X2]
 have last:∀ (listed:Array Bool) (A:ab) (a:Act) (w:World),listed.size=bd.size→Region.ready .any bd listed=[]→bD c.P c.Y fs K (ao (mC gs σ listed) A)→bw c A a w→Q .normal a w:=by
  intro listed A a w hsz hr hwp hs;have hnone:gX σ listed=[]:=by
   have all:∀ n,∀ i,i<n→i<bd.size→listed.getD i true=true:=by
    intro n
    induction n with
    |zero=>intro i hi;omega
    |succ n ih =>
     intro i hi his;cases hb:listed.getD i true with
     |true=>rfl
     |false =>
      exfalso
      have ho:bd[i]?=some bd[i]:=Array.getElem?_eq_getElem his;have:i∈Region.ready .any bd listed:=mem_ready.2 ⟨hb,bd[i],ho,fun e he hbd=>by
       have hlt:=hd.kv i bd[i] (by simp) e.on (onOf_mem _ e he hbd);have h1:=ih e.on (by omega) (by omega);have h2:e.on<listed.size:=by omega
       simpa[Array.getD_eq_getD_getElem?,h2] using h1⟩
      rw[hr] at this;cases this
   simp only[gX];refine List.filter_eq_nil_iff.2 fun i hi =>?_;have:=all (i+1) i (by omega) (by rw[←hgl];exact hd.lt i hi);simp only[this,Bool.not_true,Z4,not_false_eq_true]
  simp only[mC,hnone,X0,ao] at hwp;cases hwp with
  |done hk=>exact hQ A a w hk hs
 intro fuel
 induction fuel with
 |zero =>
  intro listed A a w hsz hcl hcnt hinv hwp hs;have hnone:gX σ listed=[]:=List.length_eq_zero_iff.1 (by omega);have hr:Region.ready .any bd listed=[]:=by
   refine List.eq_nil_iff_forall_not_mem.2 fun i hi =>?_;obtain ⟨h1,o,ho,_⟩:=mem_ready.1 hi;have:i∈gX σ listed:=by
    simp only[gX,List.mem_filter,h1,Bool.not_false,and_true];exact hd.all i (by rw[hgl];exact (Y1.1 ho).1)
   rw[hnone] at this;cases this
  exact ⟨hr,last listed A a w hsz hr hwp hs⟩
 |succ fuel ih =>
  intro listed A a w hsz hcl hcnt hinv hwp hs;refine ⟨fun hr=>last listed A a w hsz hr hwp hs,fun i hi =>?_⟩;obtain ⟨hun,o,ho,hall⟩:=mem_ready.1 hi;have hin:i<bd.size:=(Y1.1 ho).1;obtain ⟨s1,s2,hσ,e1,e2⟩:=V1 hd.Uj (hd.all i (by omega)) (by omega) hun;have hol:bd.toList[i]?=some o:=by simpa using ho
  obtain ⟨g,hgi,hcg⟩:=hat i o hol;have hon:∀ k∈dC o,listed.getD k false=true:=fun k hk=>by
   obtain ⟨e,h1,h2,h3⟩:=of_onOf o k hk;exact h3▸hall e h1 h2
  have hgd:gs.getD i default=g:=by simp[Y8,hgi]
  have hwp':bD c.P c.Y fs K (ao (g::mC gs σ (listed.setIfInBounds i true)) A):=by
   simp only[mC,e1,X5,Z3,hgd] at hwp;simp only[mC,e2,X5];refine bD.oN hinv (fun j hj =>?_) hwp;obtain ⟨k,hk,rfl⟩:=X1.1 hj;obtain ⟨hk1,hk2⟩:=List.mem_filter.1 hk;have:=hd.uX (fun k=>listed.getD k false=true) hcl s1 i s2 o hσ hol hon k hk1 (by
    have hks:k<listed.size:=by
     have:=hd.lt k (by rw[hσ];exact List.mem_append_left _ hk1);omega
    simp[Array.getD_eq_getD_getElem?,hks] at hk2 ⊢;exact hk2)
   rw[hgd] at this;refine ⟨this,(hd.ok _ ?_).2⟩;have hkl:=hd.lt k (by rw[hσ];exact List.mem_append_left _ hk1);rw[Y8,Y6 hkl];exact List.getElem_mem _
  unfold wpOpIn;rw[ho];refine RZ hcg hinv (hd.ok g (List.mem_of_getElem? hgi)) hwp' hs fun B a' w' hw hiB hs'=>ih _ B a' w' (by simpa using hsz) ?_ ?_ hiB hw hs'
  ·intro m om hom hm k hk;by_cases hmi:m=i
   ·subst hmi;rw[hol,v6] at hom;subst hom;exact getD_set_true (hon k hk)
   ·rw[getD_set_ne false (Ne.symm hmi)] at hm;exact getD_set_true (hcl m om hom hm k hk)
  ·have:(gX σ listed).length=(gX σ (listed.setIfInBounds i true)).length+1:=by
    rw[e1,e2];simp;omega
   omega
def j8(σ:List Nat)(gs:List ar):List ar:=σ.map fun i=>gs.getD i default
theorem U.VY{Q:Exit→ab→Prop}{A:ab}{on:List (List Nat)}{gs:List ar}(hs:List FuncId)(au:dT)(cl σ:List Nat)(hd:sv hs au on gs cl σ=true)(hi:dy au A)(h:∀ K:ab→Prop,(∀ B,Q .normal B→K B)→bD c.P c.Y hs K (ao (j8 σ gs) A)):U c (.bS (some on) gs) Q A:=by
 intro code hc a w hs';cases code <;>simp only[dI] at hc <;>try (first | (cases hc;done) | ((repeat' split at hc) <;>cases hc;done))
 rename_i id bd draw;split at hc
 ·rename_i gs' hgs;split at hc
  case isFalse=>cases hc
  rename_i hok;simp only[v6,bm.bS.injEq] at hc;obtain ⟨he,rfl⟩:=hc;cases draw with
  |false=>cases he
  |true =>
   simp only[cond_true,v6] at he;subst he;simp only[Bool.not_true,Bool.false_or] at hok;have hp:=Vu (ly hgs).1 hd;refine wpIn_region_any hok (Fg (K:=Q .normal) (fun B a w hk hs=>⟨B,hk,hs⟩) hgs hp bd.size (Array.replicate bd.size false) A a _ (by simp) ?_ ?_ hi ?_ ?_)
   ·intro i o _ h
    exfalso
    simp only[Array.getD_eq_getD_getElem?,Array.getElem?_replicate] at h;split at h <;>simp at h
   ·refine Nat.le_trans (List.length_filter_le _ _) ?_;rw[hp.len,(ly hgs).1,X2];exact Z5 _
   ·have hall:gX σ (Array.replicate bd.size false)=σ:=by
     simp only[gX];refine List.filter_eq_self.2 fun i hi =>?_;have h1:=hp.lt i hi;rw[(ly hgs).1,X2] at h1;simp[h1]
    simp only[mC,hall];exact h _ fun _ hb=>hb
   ·obtain ⟨D,E,hs'⟩:=hs';exact ⟨D,E,hs'.grow (w' := { w with drawn:=w.drawn+1 }) ⟨rfl,rfl,rfl,Z5 _,fun _ _=>rfl⟩ (fun _ _ h=>h) (fun _ _ h _=>h) (fun b o h=>hs'.cI b o h)⟩
 ·cases hc
def jx(ts:List (Nat×I)):dT→Prop
 | []=>True
 |(s,ns)::au=>(b7 ts s).only (fun n=>ns.contains n)=true∧jx ts au
theorem dy.of{ts:List (Nat×I)}{os:List (Nat×ah)}{au:dT}(h:jx ts au):dy au (aw ts os):=by
 intro s ns hn;simp only[aw]
 induction au with
 |nil=>cases hn
 |cons q au ih =>
  obtain ⟨s',ns'⟩:=q;simp only[jx] at h;simp only[gB,List.find?_cons] at hn;split at hn
  ·rename_i e;simp only[Z7,v6] at hn;simp only[beq_iff_eq] at e;subst e hn;exact h.1
  ·exact ih h.2 hn
end
end Go.Abs
namespace Go.Abs
open Go Go.RowKit
open Enc (enc)
theorem Wo{P:Program}(w:World)(tS tR e:TypeId)(ht:P.underlying tS=some (.slice e))(size:Nat)(hz:∀ w,(Go.sizeOf e).run P w=.ok size w)
  (a b:Addr) (la ca lb cb:Nat) (hne:a.block≠b.block) (tA tB:TypeId) (kA kB:Nat) (hsa:w.shape? a.block=some (tA,kA+1)) (hsb:w.shape? b.block=some (tB,kB+1)) (hfb:w.frozen? b=false) (hfe:w.frozen? { block:=b.block,off:=kB+1 } = false) :
  (Extern.SlicesOverlaps.overlaps #[tS,tS] #[tR] #[.slice (some a) la ca,.slice (some b) lb cb]).run P w=.ok (.bool false) w:=by
 have hnb:(a.block != b.block)=true:=by simpa using hne
 have hnb':(a.block==b.block)=false:=by simpa using hne
 change Sem.run P (α:=Value) (do
  let some t := (#[tS, tS] : Array TypeId)[0]? | stuck "slices.overlaps: no parameter types"
  let .slice elem ← underlying t | stuck "slices.overlaps: slice type expected"
  let size ←sizeOf elem
  match (some a:Option Addr),(some b:Option Addr) with
  |some a,some b =>
   if la=0∨lb=0∨size=0 then pure (Value.bool false)
   else if a.block != b.block&&(←frozen a)&&(←frozen b) then unsupported .addressObserved
   else do
    if a.block != b.block then do
     noView a;noView b
     if ← mayBeOne a b then return Value.bool ((← choose (.extern "sameAddr.stringBytes" 2)) == 1)
    pure (Value.bool (a.block==b.block&&a.off<b.off+lb*size&&b.off<a.off+la*size))
  |_,_=>pure (Value.bool false)) w=_
 by_cases h0:la=0∨lb=0∨size=0
 ·simp[run_underlying ht,hz,h0]
 ·cases hfa:w.frozen? a <;>cases hfk:w.frozen? { block:=a.block,off:=kA+1 } <;>
   simp[run_underlying ht,hz,h0,hnb,hnb',frozen,noView,viewAt,mayBeOne,stringish,shape,Sem.run,hsa,hsb,hfa,hfb,hfe,hfk]
theorem Da{P:Program}(w:World)(tS tR e:TypeId)(ht:P.underlying tS=some (.slice e))(size:Nat)(hz:∀ w,(Go.sizeOf e).run P w=.ok size w)(a:Option Addr)(b:Addr)(ca lb cb:Nat) :
  (Extern.SlicesOverlaps.overlaps #[tS,tS] #[tR] #[.slice a 0 ca,.slice (some b) lb cb]).run P w=.ok (.bool false) w:=by
 cases a with
 |none =>
  change Sem.run P (α:=Value) (do
   let some t := (#[tS, tS] : Array TypeId)[0]? | stuck "slices.overlaps: no parameter types"
   let .slice elem ← underlying t | stuck "slices.overlaps: slice type expected"
   let size ←sizeOf elem
   pure (Value.bool false)) w=_
  simp[run_underlying ht,hz]
 |some a =>
  change Sem.run P (α:=Value) (do
   let some t := (#[tS, tS] : Array TypeId)[0]? | stuck "slices.overlaps: no parameter types"
   let .slice elem ← underlying t | stuck "slices.overlaps: slice type expected"
   let size ←sizeOf elem
   if (0:Nat)=0∨lb=0∨size=0 then pure (Value.bool false)
   else if a.block != b.block&&(←frozen a)&&(←frozen b) then unsupported .addressObserved
   else do
    if a.block != b.block then do
     noView a;noView b
     if ← mayBeOne a b then return Value.bool ((← choose (.extern "sameAddr.stringBytes" 2)) == 1)
    pure (Value.bool (a.block==b.block&&a.off<b.off+lb*size&&b.off<a.off+0*size))) w=_
  simp[run_underlying ht,hz]
theorem WA{w:World}{b o:Nat}{v:Value}(h:w.cell? ⟨b,o,none⟩=some v):∃ t k,w.shape? b=some (t,k+1):=by
 simp only[World.cell?] at h;cases hb:w.heap[b]? with
 |none=>rw[hb] at h;cases h
 |some ob =>
  rw[hb] at h;cases ob with
  |cells cs T fr =>
   simp only at h;have hlt:o<cs.size:=(Y1.1 (by simpa using h)).1;exact ⟨T,cs.size-1,by simp only[World.shape?,hb];congr 2;omega⟩
  |_=>cases h
theorem K5{α:Type}[Enc α]{xs:List α}(h:xs≠[])(hs:(Enc.aF α).Az=false):(I.agg (xs.map Enc.enc)).aF.flat=false:=by
 cases xs with
 |nil=>exact absurd rfl h
 |cons x xs=>simp only[Z3,I.aF,I.cB,bJ.flat,List.all_cons,Enc.hG,hs,Bool.false_and]
theorem Xb {P : Program} {f : FuncId} {fn : Func} {tS tR e : TypeId} (hf : P.funcs[f]? = some fn) (hname : (fn.name == "runtime.NumGoroutine") = false) (hb : fn.body.isNone = true) (hn : Extern.findNext fn = none) (he : Extern.find fn = some (Extern.SlicesOverlaps.overlaps #[tS, tS] #[tR]))
  (ht:P.underlying tS=some (.slice e)) (hi:(P.info? e).isSome=true) {A:ab} {n sz sz' lo k:Nat} {p:List Nat} {y:I} {es fs:List I} (hA:A.o n=some (.box y)) (hat:y.at p=some (.agg fs)) (hy:y.size≠0) (hsz:sz'≠0) (hfl:y.aF.flat=false):xh P A f [.slice sz' es,.view n p sz lo k] (.bool false):=by
 intro c a w D E vs hP hs hargs;subst hP;obtain ⟨i,hi⟩:=Y4.1 hi;have hz:∀ w,(Go.sizeOf e).run c.P w=.ok i.size w:=fun w=>by simp[sizeOf,typeInfo,hi]
 cases hargs with
 |cons h1 hrest =>
  cases hrest with
  |cons h2 hnil =>
   cases hnil;rename_i v1 v2;refine ⟨.bool false,?_,j2 false⟩;rw[run_callFunc_extern hf hname hb hn he];obtain ⟨ad,cap,rfl,c1,c2,c3,c4⟩:=kc h1;obtain ⟨y',b,cs,T,off,d1,d2,d3,q1,q2,q3,q4,q5,q6,q7,q8,q9,q10,q11,q12,rfl⟩:=hs.view (fs:=fs) h2 (by simp only[bL,hA,hat]);rw[hA] at q1;simp only[v6,ah.box.injEq] at q1;subst q1;rcases c3 with rfl | ⟨b1,off1,cs1,rfl,r1,iu⟩
   ·rw[X9,Da w tS tR e ht i.size hz];rfl
   ·cases es with
    |nil=>rw[X9,Da w tS tR e ht i.size hz];rfl
    |cons e0 es =>
     have hl:=ay.length _ _ iu;have he0:=c4 e0 (by simp);have hpos:0<cs1.length:=by rw[hl];simp only[I.sizes];omega
     have hc:=r1 0 cs1[0] (Y6 hpos);obtain ⟨tA,kA,hsa⟩:=WA hc.1;have ho:=hs.bx n;rw[hA] at ho;obtain ⟨b',cs',T',k1,k2,k3,k4,k5⟩:=ho;rw[q2] at k1;simp only[v6,bt.aA.injEq,and_true] at k1;subst k1;have hne:b1≠b:=fun e1=>k5 _ (e1▸hc.2);have hcs:cs.size≠0:=by
      have:=ae.length _ _ q9;rw[X2] at this;omega
     replace q3:=q3.plain hfl
     obtain ⟨kB,hkB⟩:∃ kB,cs.size=kB+1:=⟨cs.size-1,by omega⟩
     rw[Wo w tS tR e ht i.size hz ⟨b1,off1,none⟩ ⟨b,off+lo*sz,none⟩ _ _ _ _ hne tA T kA kB hsa (by simp only[World.shape?,q3,hkB]) (by simp[World.frozen?,q3]) (by simp[World.frozen?,q3])];rfl
noncomputable def tG(A:ab)(d:Option Nat)(esz bytes:Nat)(z s:I)(rest:List ar):I→bR
 | .int _ m=>oJ A d esz bytes z m.toNat s (cM A esz s) (ao rest)
 |_=>.fail
theorem Ur(A:ab)(d:Option Nat)(rest:List ar)(e esz bytes:Nat)(z:I)(s n:av):bn A d (.jl e esz bytes z s n) rest=tG A d esz bytes z (af A s) rest (af A n):=by
 simp only[bn,aU];cases af A n <;>rfl
theorem U6(A:ab)(d:Option Nat)(rest:List ar)(f:FuncId)(args:List av):bn A d (.gu f args) rest=.gu f (args.map (af A)) d rest A:=rfl
def qP(A:ab):I→Option I
 | .nils _ | .c0 _=>some (.int .i64 ((0:Nat):Int))
 | .view n p _ lo _=>match ej (dz p (A.o n)) with
  |some fs=>some (.int .i64 ((fs.length-lo:Nat):Int))
  |none=>none
 |_=>none
theorem Uy(A:ab)(d:Option Nat)(rest:List ar)(x:av):bn A d (.cap x) rest=bZ (qP A (af A x)) (cw d rest A):=by
 simp only[bn,aU,aT];cases af A x <;>try rfl
 rename_i n p sz l0 k;simp only[qP,jr,fo];cases dz p (A.o n) with
 |none=>rfl
 |some c=>cases c <;>rfl
theorem lI(A:ab)(d:Option Nat)(rest:List ar)(esz:Nat)(x y:av):bn A d (.fK esz x y) rest=jT A d esz (ao rest) (af A x) (jL A esz (af A y)):=rfl
section
variable {α:Type} [Enc α] {P:Program} {Y:Value→List I→List (Nat×ah)→bV→Prop} {K:ab→Prop} {A:ab} {rest:List ar} {esz bytes:Nat}
theorem Hj{n lo k sz:Nat}{xs:List α}(ho:A.o n=some (.box (.agg (xs.map enc)))):qP A (.view n [] sz lo k)=some (.int .i64 ((xs.length-lo:Nat):Int)):=by
 have h2:(I.agg (xs.map (enc (α:=α)))).at []=some (.agg (xs.map enc)):=rfl;simp only[qP,dz,ho,h2,ej,I.cX,Z2]
theorem mQ{n lo k:Nat}{xs:List α}(ho:A.o n=some (.box (.agg (xs.map enc))))(h:lo+k≤xs.length):cM A esz (.view n [] esz lo k)=some (((xs.drop lo).take k).map enc):=by
 have h1:bL A (.ptr n [])=some (.agg (xs.map enc)):=by simp only[bL,ho];rfl
 simp only[cM,h1,Z2];rw[if_pos ⟨h,trivial⟩,List.map_take,List.map_drop]
theorem Ds{xs ys:List α}(h:xs.length=ys.length):I.cB (xs.map enc)=I.cB (ys.map enc):=by
 rw[wh,wh,h]
theorem nu{d:Option Nat}{n lo l c:Nat}{xs ys:List α}(ho:A.o n=some (.box (.agg (xs.map enc))))(hl:lo+l≤xs.length)(hc:min ys.length l=c) :
  jT A d esz (ao rest) (.view n [] esz lo l) (some (ys.map enc))=ao rest ((A.aP n (.box (.agg ((xs.take lo++(ys.take c++xs.drop (lo+c))).map enc)))).aK d (.int .i64 (c:Nat))):=by
 have h2:(I.agg (xs.map (enc (α:=α)))).at []=some (.agg (xs.map enc)):=rfl;have h1:I.cB ((ys.map (enc (α:=α))).take c)=I.cB (((xs.map (enc (α:=α))).drop lo).take c):=by
  rw[←List.map_take,←List.map_drop,←List.map_take];exact Ds (by rw[Y0,Y0,List.length_drop];omega)
 have hc':min (ys.map (enc (α:=α))).length l=c:=by rw[Z2];exact hc
 simp only[jT,ho,h2,hc'];rw[if_pos ⟨rfl,by rw[hc'];exact h1⟩];have h3:((ys.map (enc (α:=α))).take c).length=c:=by rw[Y0,Z2];omega
 simp only[gZ,fg,h3,X5,List.map_take,List.map_drop]
theorem aX.Fw{d:Nat}(z:α)(hs:Enc.sz α=esz){n l m:Nat}{xs:List α}(ho:A.o n=some (.box (.agg (xs.map enc))))(hl:l≤xs.length)(hm:0<m)(hr:xs.length<l+m)(hf:A.o d=none)(hb:(l+m)*bytes≤140737488355328)(hml:l+m≤maxLen)
  (h:∀ q,aX P Y false K (ao rest ((A.aP d (.box (.agg ((xs.take l++(List.replicate m z++List.replicate q z)).map enc)))).aK (some d) (.view d [] esz 0 (l+m))))):aX P Y false K (tG A (some d) esz bytes (enc z) (.view n [] esz 0 l) rest (.int .i64 (m:Nat))):=by
 have h1:=mQ (A:=A) (esz:=esz) (lo:=0) (k:=l) ho (by omega);have h2:(I.agg (xs.map (enc (α:=α)))).at []=some (.agg (xs.map enc)):=rfl;have h4:(xs.take l).length=l:=by rw[Y0];omega
 simp only[tG,h1,List.drop_zero,oJ,ho,h2,Z2,Int.toNat_natCast];rw[if_pos ⟨hm,by omega⟩];simp only[eI,hf,Z2,h4,List.length_replicate];rw[if_pos ⟨hb,hml⟩];refine .any rfl fun q _ =>?_;have:=h q;simp only[X5,List.map_replicate] at this;exact this
theorem xm{d:Option Nat}{e:Nat}(z:I)(hs:Enc.sz α=esz){n l:Nat}{xs ys:List α}(hy:ys≠[])(ho:A.o n=some (.box (.agg (xs.map enc))))(hr:l+ys.length≤xs.length) :
  eJ A d e esz bytes z (enc ys) rest (.view n [] esz 0 l)=ao rest ((A.aP n (.box (.agg ((xs.take l++(ys++xs.drop (l+ys.length))).map enc)))).aK d (.view n [] esz 0 (l+ys.length))):=by
 have h1:=mQ (A:=A) (esz:=esz) (lo:=0) (k:=l) ho (by omega);have h2:(I.agg (xs.map (enc (α:=α)))).at []=some (.agg (xs.map enc)):=rfl;have h3:I.cB (ys.map (enc (α:=α)))=I.cB (((xs.map (enc (α:=α))).drop l).take ys.length):=by
  rw[←List.map_drop,←List.map_take];exact Ds (by rw[Y0,List.length_drop];omega)
 simp only[eJ,h1,ke A esz ys hs,dU];rw[if_neg (by simpa using hy)];simp only[ho,h2,Z2,Z8];rw[if_pos hr,if_pos ⟨rfl,by rw[Z2,Z8];exact h3⟩];simp only[gZ,fg,Z2,X5,List.map_take,List.map_drop]
theorem aX.Fk{d e:Nat}(z:α)(hs:Enc.sz α=esz){n l:Nat}{xs ys:List α}(hy:ys≠[])(ho:A.o n=some (.box (.agg (xs.map enc))))(hl:l≤xs.length)(hr:xs.length<l+ys.length)(hf:A.o d=none)(hb:(l+ys.length)*bytes≤140737488355328)(hml:l+ys.length≤maxLen)
  (h:∀ q,aX P Y false K (ao rest ((A.aP d (.box (.agg ((xs.take l++(ys++List.replicate q z)).map enc)))).aK (some d) (.view d [] esz 0 (l+ys.length))))):aX P Y false K (eJ A (some d) e esz bytes (enc z) (enc ys) rest (.view n [] esz 0 l)):=by
 have h1:=mQ (A:=A) (esz:=esz) (lo:=0) (k:=l) ho (by omega);have h2:(I.agg (xs.map (enc (α:=α)))).at []=some (.agg (xs.map enc)):=rfl;have h4:(xs.take l).length=l:=by rw[Y0];omega
 simp only[eJ,h1,List.drop_zero,ke A esz ys hs,dU];rw[if_neg (by simpa using hy)];simp only[ho,h2,Z2,Z8];rw[if_neg (by omega)];simp only[eI,hf,Z2,h4];rw[if_pos ⟨hb,hml⟩];refine .any rfl fun q _ =>?_;have:=h q;simp only[X5,List.map_replicate] at this;exact this
theorem aX.Fl{d e q0:Nat}(z:α){l:List α}(hs:Enc.sz α=esz)(hl:l≠[])(hf:A.o d=none)(hb:l.length*bytes≤140737488355328)(hml:l.length≤maxLen)
  (h:∀ m,aX P Y false K (ao rest ((A.aP d (.box (.agg ((l++List.replicate m z).map enc)))).aK (some d) (.view d [] esz 0 l.length)))):aX P Y false K (eJ A (some d) e esz bytes (enc z) (enc l) rest (.nils q0)):=by
 have hne:l.map (enc (α:=α))≠[]:=by simpa using hl
 have h1:cM A esz (.nils q0)=some []:=rfl;simp only[eJ,h1,ke A esz l hs,dU,if_neg hne,eI,hf,X9,Z8,Z2,if_pos (y6 hb hml),X4];refine .any rfl fun m _ =>?_;have:=h m;simp only[X5,List.map_replicate] at this;exact this
end
theorem WD{n:Nat}{p:List Nat}{sz k total i:Nat}(h:i≤k)(hk:k≤total):∃ y,iy n p sz 0 k total (some (.int .i64 i)) none none=some y:=by
 simp only[iy,gJ];rw[if_pos ⟨by omega,by omega,by omega⟩];split <;>exact ⟨_,rfl⟩
theorem AY(k:Nat):b7 [] k=.cS:=rfl
def fQ(au:List Nat):List (Nat×I)→List (Nat×I)
 | []=>[]
 |(s,v)::ts=>if au.contains s=true then (s,v)::fQ au ts else fQ au ts
theorem Tw(au:List Nat):fQ au []=[]:=rfl
theorem Tv(au:List Nat)(s:Nat)(v:I)(ts:List (Nat×I)):fQ au ((s,v)::ts)=if au.contains s=true then (s,v)::fQ au ts else fQ au ts:=rfl
theorem AX(au:List Nat)(t:Nat):∀ ts,b7 (fQ au ts) t=.cS∨b7 (fQ au ts) t=b7 ts t
 | []=>.inl rfl
 |(s,v)::ts=>by
  simp only[fQ];have ih:=AX au t ts;by_cases hs:au.contains s=true
  ·rw[if_pos hs];simp only[b7];split
   ·exact .inr rfl
   ·exact ih
  ·rw[if_neg hs];simp only[b7];split
   ·rename_i e;subst e
    left
    have:∀ ts,b7 (fQ au ts) t=.cS:=by
     intro ts
     induction ts with
     |nil=>rfl
     |cons q ts ih2 =>
      obtain ⟨s',v'⟩:=q;simp only[fQ];split
      ·rename_i h';simp only[b7];have:t≠s':=fun e=>hs (e▸h');rw[if_neg this];exact ih2
      ·exact ih2
    exact this ts
   ·exact ih
theorem U.pw(au:List Nat){c:b8}{x:bm}{Q:Exit→ab→Prop}{ts:List (Nat×I)}{os:List (Nat×ah)}(h:U c x Q (aw (fQ au ts) os)):U c x Q (aw ts os):=by
 refine U.sub ?_ h;rintro cc a w ⟨D,E,hs⟩;refine ⟨D,E,hs.sz,hs.eb,fun t =>?_,hs.db,hs.cC,hs.cI,hs.bx,hs.ct,hs.dp,hs.eD,hs.cj,hs.eF,hs.fi⟩;simp only[aw];rcases AX au t ts with e | e
 ·rw[e];simp[aO]
 ·rw[e];exact hs.dw t
theorem AD:(∀ au,fQ au []=[])∧(∀ au s v ts,fQ au ((s,v)::ts)=if au.contains s=true then (s,v)::fQ au ts else fQ au ts)∧(∀ (a:Nat) l b,(a::l).contains b=(b==a||l.contains b))∧(∀ b:Nat,([]:List Nat).contains b=false)∧(∀ b,(false||b)=b)∧(∀ b,(true||b)=true)∧(∀ b,(b||true)=true)∧(∀ b,(b||false)=b)∧((false=true)=False) :=
 ⟨Tw,Tv,fun _ _ _=>List.contains_cons,fun _=>rfl,fun _=>rfl,fun _=>rfl,fun b=>by cases b <;>rfl,fun b=>by cases b <;>rfl,by simp⟩
end Go.Abs
namespace Go.Abs
open Go Go.RowKit
open Enc (enc)
def vc:Option ah→Option (List I×List I)
 |some (.bW ks vs)=>some (ks,vs)
 |_=>none
noncomputable def vl(A:ab)(n:Nat)(rest:List ar):Option (List I×List I)→bR
 |some (ks,vs)=>ao rest (A.aP n (.bW ks vs))
 |none=>.fail
noncomputable def vk(A:ab)(n:Nat)(ty:bU)(k v:I)(rest:List ar):Option ah→bR
 |some (.bW ks vs)=>vl A n rest (pF ty k v ks vs)
 |_=>.fail
noncomputable def vj(A:ab)(ty:bU)(k v:I)(rest:List ar):I→bR
 | .mref n=>vk A n ty k v rest (A.o n)
 |_=>.fail
noncomputable def vh(A:ab)(d:Nat)(rest:List ar):Option ah→bR
 |none=>ao rest ((A.aP d (.bW [] [])).put d (.mref d))
 |some _=>.fail
open Classical in
noncomputable def r7(A:ab)(d bytes:Nat)(z:I)(rest:List ar):I→bR
 | .int _ n=>if 0≤n∧n.toNat*bytes≤281474976710656∧n.toNat≤maxLen then ao rest ((A.aP d (.box (.agg (List.replicate n.toNat z)))).put d (.view d [] 1 0 n.toNat)) else .fail
 |_=>.fail
noncomputable def r6(A:ab)(d bytes:Nat)(z n:I)(rest:List ar):Option ah→bR
 |none=>r7 A d bytes z rest n
 |some _=>.fail
noncomputable def vS(A:ab)(d:Nat)(rest:List ar):I→bR
 | .cU ks vs=>ao rest ((A.aP d (.it ks vs (List.range ks.length) none)).put d (.cP d))
 |_=>.fail
noncomputable def sL(A:ab)(d:Nat)(x:I)(rest:List ar):Option ah→bR
 |none=>vS A d rest x
 |some _=>.fail
def um:Option ah→Option I
 |some (.it ks vs _ cur)=>qZ ks vs cur
 |_=>none
def uk(A:ab):I→Option I
 | .cP n=>um (A.o n)
 |_=>none
open Classical in
noncomputable def Bd(A:ab)(d:Option Nat)(n:Nat)(rest:List ar):Option ah→bR
 |some (.it ks vs left _)=>if left=[] then ao rest (A.aK d (.tuple [.bool false])) else
   .any (fun i=>i∈left) fun i=>match ks[i]?,vs[i]? with
    |some kk,some x=>ao rest ((A.aP n (.it ks vs (left.filter (· != i)) (some i))).aK d (.tuple [.bool true,kk,x]))
    |_,_=>.fail
 |_=>.fail
noncomputable def vq(A:ab)(d:Option Nat)(rest:List ar):I→bR
 | .cP n=>Bd A d n rest (A.o n)
 |_=>.fail
section
variable (d:Option Nat) (rest:List ar) (A:ab)
theorem US(x:av):bn A d (.nilC x) rest=bZ (ml (af A x)) (cw d rest A):=rfl
theorem UX(neg:Bool)(x y:av):bn A d (.ptrE neg x y) rest=bZ (lM neg (gQ (af A x)) (gQ (af A y))) (cw d rest A):=rfl
theorem UM(ty:bU)(z:I)(ok:Bool)(m k:av):bn A d (.lk ty z ok m k) rest=bZ (pA ty z ok (af A k) (fE A (af A m))) (cw d rest A):=rfl
theorem T0(n:Nat):fE A (.mref n)=vc (A.o n):=by
 simp only[fE];cases A.o n with
 |none=>rfl
 |some y=>cases y <;>rfl
theorem UQ(ty:bU)(m k v:av):bn A none (.jB ty m k v) rest=vj A ty (af A k) (af A v) rest (af A m):=by
 simp only[bn,aU];cases af A m <;>rfl
theorem UO(d:Nat):bn A (some d) .j4 rest=vh A d rest (A.o d):=by
 simp only[bn,aU];cases A.o d <;>rfl
theorem UP(d e bytes:Nat)(z:I)(n:av):bn A (some d) (.jc e bytes z n) rest=r6 A d bytes z (af A n) rest (A.o d):=by
 simp only[bn,aU];cases A.o d with
 |some _=>rfl
 |none=>simp only[r6];cases af A n <;>rfl
theorem UY(d:Nat)(x:av):bn A (some d) (.jJ x) rest=sL A d (af A x) rest (A.o d):=by
 simp only[bn,aU];cases A.o d with
 |some _=>rfl
 |none=>simp only[sL];cases af A x <;>rfl
theorem UB(x:av):bn A d (.ent x) rest=bZ (uk A (af A x)) (cw d rest A):=by
 simp only[bn,aU,aT];cases af A x <;>rfl
theorem UU(x:av):bn A d (.jC x) rest=vq A d rest (af A x):=by
 simp only[bn,aU];cases af A x <;>rfl
end
theorem r0 :
  (∀ d rest A x,bn A d (.nilC x) rest=bZ (ml (af A x)) (cw d rest A))∧(∀ n p,ml (.ptr n p)=some (.ptr n p))∧(∀ x,ml (.ref x)=some (.ref x)) ∧
  (∀ d rest A neg x y,bn A d (.ptrE neg x y) rest=bZ (lM neg (gQ (af A x)) (gQ (af A y))) (cw d rest A))∧(gQ .nilp=some true)∧(∀ n p,gQ (.ptr n p)=some false)∧(∀ x,gQ (.ref x)=some false) ∧
  (lM false (some true) (some true)=some (.bool true))∧(lM false (some false) (some true)=some (.bool false))∧(lM true (some true) (some true)=some (.bool false))∧(lM true (some false) (some true)=some (.bool true)) ∧
  (∀ d rest A ty z ok m k,bn A d (.lk ty z ok m k) rest=bZ (pA ty z ok (af A k) (fE A (af A m))) (cw d rest A))∧(∀ A n,fE A (.mref n)=vc (A.o n))∧(∀ A ks vs,fE A (.cU ks vs)=some (ks,vs))∧(∀ ks vs,vc (some (.bW ks vs))=some (ks,vs)) ∧
  (∀ ty z ok k ks vs,pA ty z ok k (some (ks,vs))=pB ok (pC ty z k ks vs))∧(∀ v b,pB false (some (v,b))=some v)∧(∀ v b,pB true (some (v,b))=some (.tuple [v,.bool b])) ∧
  (∀ rest A ty m k v,bn A none (.jB ty m k v) rest=vj A ty (af A k) (af A v) rest (af A m))∧(∀ A ty k v rest n,vj A ty k v rest (.mref n)=vk A n ty k v rest (A.o n))∧(∀ A n ty k v rest ks vs,vk A n ty k v rest (some (.bW ks vs))=vl A n rest (pF ty k v ks vs)) ∧
  (∀ A n rest ks vs,vl A n rest (some (ks,vs))=ao rest (A.aP n (.bW ks vs))) ∧
  (∀ rest A d,bn A (some d) .j4 rest=vh A d rest (A.o d))∧(∀ A d rest,vh A d rest none=ao rest ((A.aP d (.bW [] [])).put d (.mref d))) ∧
  (∀ rest A d e bytes z n,bn A (some d) (.jc e bytes z n) rest=r6 A d bytes z (af A n) rest (A.o d))∧(∀ A d bytes z n rest,r6 A d bytes z n rest none=r7 A d bytes z rest n) ∧
  (∀ rest A d x,bn A (some d) (.jJ x) rest=sL A d (af A x) rest (A.o d))∧(∀ A d x rest,sL A d x rest none=vS A d rest x)∧(∀ A d rest ks vs,vS A d rest (.cU ks vs)=ao rest ((A.aP d (.it ks vs (List.range ks.length) none)).put d (.cP d))) ∧
  (∀ d rest A x,bn A d (.ent x) rest=bZ (uk A (af A x)) (cw d rest A))∧(∀ A n,uk A (.cP n)=um (A.o n))∧(∀ ks vs l cur,um (some (.it ks vs l cur))=qZ ks vs cur) ∧
  (∀ d rest A x,bn A d (.jC x) rest=vq A d rest (af A x))∧(∀ A d rest n,vq A d rest (.cP n)=Bd A d n rest (A.o n)) :=
 ⟨US,fun _ _=>rfl,fun _=>rfl,UX,rfl,fun _ _=>rfl,fun _=>rfl,rfl,rfl,rfl,rfl,UM,T0,fun _ _ _=>rfl,fun _ _=>rfl,fun _ _ _ _ _ _=>rfl,fun _ _=>rfl,fun _ _=>rfl,
  fun rest A ty m k v=>UQ rest A ty m k v,fun _ _ _ _ _ _=>rfl,fun _ _ _ _ _ _ _ _=>rfl,fun _ _ _ _ _=>rfl,fun rest A d=>UO rest A d,fun _ _ _=>rfl,fun rest A d e bytes z n=>UP rest A d e bytes z n,fun _ _ _ _ _ _=>rfl,
  fun rest A d x=>UY rest A d x,fun _ _ _ _=>rfl,fun _ _ _ _ _=>rfl,UB,fun _ _=>rfl,fun _ _ _ _=>rfl,UU,fun _ _ _ _=>rfl⟩
theorem r8{A:ab}{d bytes:Nat}{z:I}{rest:List ar}{n:Nat}(h1:n*bytes≤281474976710656)(h2:n≤maxLen):r7 A d bytes z rest (.int .i64 n)=ao rest ((A.aP d (.box (.agg (List.replicate n z)))).put d (.view d [] 1 0 n)):=by
 simp only[r7,Int.toNat_natCast];rw[if_pos ⟨Int.natCast_nonneg n,h1,h2⟩]
section
variable {α:Type} [Enc α]
theorem WK{A:ab}{n i:Nat}{xs:List α}(v u:α){rest:List ar}(hA:Enc.gf α=false)(h:i<xs.length):ep A none n [i] (.agg (xs.map enc)) (enc v) rest (some (enc u))=ao rest (A.aP n (.box (.agg ((xs.set i v).map enc)))):=by
 rw[fh (eY v) (by rw[Kx,hA];rfl) ((eh v).trans (eh u).symm)];have h2:(xs.map (enc (α:=α)))[i]?=some (enc (xs[i])):=by simp[h]
 simp only[I.dh,h2,List.map_set]
end
theorem Tn{m sz lo l i:Nat}{fs:List I}(h:i<l):mf m [] sz lo l sz (i:Int) (some fs)=some (.ptr m [lo+i]):=by rw[Tm h];rfl
theorem yU:(∀ {α:Type} [Enc α] (x:α),(enc x).br=true)∧(∀ n p z lo k,(I.view n p z lo k).br=false)∧(∀ n,(I.mref n).br=false)∧(∀ n p,(I.ptr n p).br=false)∧(∀ n k,(I.own n k).br=false) :=
 ⟨@jV,fun _ _ _ _ _=>rfl,fun _=>rfl,fun _ _=>rfl,fun _ _=>rfl⟩
end Go.Abs
namespace Go.Abs
open Go Go.RowKit
def qQ(on:List (List Nat)):List Nat:=on.foldl (fun acc ks=>acc++[mX acc ks]) []
def uh(d:Option (List (List Nat)))(gs:List ar):Bool:=match d with
 |none=>true
 |some on=>qX on gs (qQ on)
section
variable {c:b8} {Q:Exit→ab→Prop} {A:ab} {d:Option (List (List Nat))} {on:List (List Nat)} {gs:List ar}
theorem U.gV(hd:uh d gs=true)(h:∀ K:ab→Prop,(∀ B,Q .normal B→K B)→aX c.P c.Y d.isSome K (ao gs A)):U c (.bS d gs) Q A:=by
 cases d with
 |none=>exact U.bS (cl:=[]) rfl h
 |some on=>exact U.bS (cl:=qQ on) hd h
theorem U.dK{y:bm}(hd:uh d gs=true)(h:∀ K:ab→Prop,(∀ B,U c y Q B→K B)→aX c.P c.Y d.isSome K (ao gs A)):U c (.seq (.bS d gs) y) Q A :=
 U.seq (U.gV hd h)
theorem U.lO(hs:List FuncId)(au:dT)(σ:List Nat)(hd:sv hs au on gs (qQ on) σ=true)(hi:dy au A)(h:∀ K:ab→Prop,(∀ B,Q .normal B→K B)→bD c.P c.Y hs K (ao (j8 σ gs) A)):U c (.bS (some on) gs) Q A :=
 U.VY hs au (qQ on) σ hd hi h
def fB(c:b8):bm→(Exit→ab→Prop)→ab→Prop
 | .seq x y,Q,A=>fB c x (cO (fun B=>U c y Q B) Q) A
 | .block id x,Q,A=>fB c x (kC id Q) A
 | .skip,Q,A=>Q .normal A
 | .exit id,Q,A=>Q (.exit id) A
 | .ret,Q,A=>Q .ret A
 | .cond b x y,Q,A=>aB (af A b) (U c x Q A) (U c y Q A)
 |x,Q,A=>U c x Q A
def Tk:bm→Bool
 | .seq _ _ | .block _ _ | .skip | .exit _ | .ret | .cond _ _ _=>true
 |_=>false
theorem fB.tJ:∀ (x:bm) {Q:Exit→ab→Prop} {A:ab},fB c x Q A→U c x Q A
 | .seq x y,_,_,h=>U.seq (fB.tJ x h)
 | .block id x,_,_,h=>U.block (fB.tJ x h)
 | .skip,_,_,h=>U.skip h
 | .exit _,_,_,h=>U.exit h
 | .ret,_,_,h=>U.ret h
 | .cond _ _ _,_,_,h=>U.gA h
 | .bS _ _,_,_,h | .loop _,_,_,h | .scope _,_,_,h | .label,_,_,h | .oL,_,_,h | .mI _ _ _ _,_,_,h=>h
theorem U.of{x:bm}(_:Tk x=true)(h:fB c x Q A):U c x Q A:=fB.tJ x h
theorem aM :
  (∀ c x y Q A,fB c (.seq x y) Q A=fB c x (cO (fun B=>U c y Q B) Q) A)∧(∀ c id x Q A,fB c (.block id x) Q A=fB c x (kC id Q) A)∧(∀ c Q A,fB c .skip Q A=Q .normal A)∧(∀ c id Q A,fB c (.exit id) Q A=Q (.exit id) A)∧(∀ c Q A,fB c .ret Q A=Q .ret A) ∧
  (∀ c b x y Q A,fB c (.cond b x y) Q A=aB (af A b) (U c x Q A) (U c y Q A))∧(∀ c d gs Q A,fB c (.bS d gs) Q A=U c (.bS d gs) Q A)∧(∀ c x Q A,fB c (.loop x) Q A=U c (.loop x) Q A)∧(∀ c f ps x y Q A,fB c (.mI f ps x y) Q A=U c (.mI f ps x y) Q A) ∧
  (∀ k Q A,cO k Q .normal A=k A)∧(∀ k Q A,cO k Q .ret A=Q .ret A)∧(∀ k Q A i,cO k Q (.exit i) A=Q (.exit i) A)∧(∀ i Q A,kC i Q .normal A=Q .normal A)∧(∀ i Q A,kC i Q .ret A=Q .ret A)∧(∀ i Q A j,kC i Q (.exit j) A=if j=i then Q .normal A else Q (.exit j) A) ∧
  (∀ p q,aB (.bool true) p q=p)∧(∀ p q,aB (.bool false) p q=q)∧(type_of% @AD) :=
 ⟨fun _ _ _ _ _=>rfl,fun _ _ _ _ _=>rfl,fun _ _ _=>rfl,fun _ _ _ _=>rfl,fun _ _ _=>rfl,fun _ _ _ _ _ _=>rfl,fun _ _ _ _ _=>rfl,fun _ _ _ _=>rfl,fun _ _ _ _ _ _ _=>rfl,fun _ _ _=>rfl,fun _ _ _=>rfl,fun _ _ _ _=>rfl,fun _ _ _=>rfl,fun _ _ _=>rfl,fun _ _ _ _=>rfl,
  fun p q=>by simp[aB],fun p q=>by simp[aB],AD⟩
theorem aB.aJ{t:Bool}{p q:Prop}(h1:t=true→p)(h2:t=false→q):aB (.bool t) p q:=⟨h1,h2⟩
theorem U.aL{g:ar}{r:List ar}(hd:uh d gs=true)(e:gs=g::r)(h:∀ K:ab→Prop,(∀ B,Q .normal B→K B)→aX c.P c.Y d.isSome K (ao (g::r) A)):U c (.bS d gs) Q A :=
 U.gV hd (e▸h)
theorem aX.aI(au:List Nat){P:Program}{Y:Value→List I→List (Nat×ah)→bV→Prop}{dr:Bool}{x:bm}{K:ab→Prop}{ts:List (Nat×I)}{os:List (Nat×ah)}(hK:∀ B,U c x Q B→K B)(h:U c x Q (aw (fQ au ts) os)):aX P Y dr K (.done (aw ts os)) :=
 .done (hK _ (U.pw au h))
theorem bD.aI(au:List Nat){P:Program}{Y:Value→List I→List (Nat×ah)→bV→Prop}{hs:List FuncId}{x:bm}{K:ab→Prop}{ts:List (Nat×I)}{os:List (Nat×ah)}(hK:∀ B,U c x Q B→K B)(h:U c x Q (aw (fQ au ts) os)):bD P Y hs K (.done (aw ts os)) :=
 .done (hK _ (U.pw au h))
end
section
variable {c:b8} {A:ab} {o:Oper}
theorem yJ{P:Program}{m:Nat}{bd:Array Oper}{l:List Oper}{gs:List ar}(h:eX P m bd (o::l)=some gs):∃ g gs',gs=g::gs'∧kD P m bd o=some g∧eX P m bd l=some gs':=by
 simp only[eX] at h;split at h
 ·rename_i g gs' h1 h2;simp only[v6] at h;exact ⟨g,gs',h.symm,h1,h2⟩
 ·cases h
end
def sN(P:Program)(f:FuncId)(ch:List PanicEntry)(vs:Array Value)(w:World)(R:Ending→World→Prop):Prop :=
 Calls P f vs w fun e w'=>e=.panicked ch∧R (.returned (.tuple #[])) w'
theorem sN.mono{P:Program}{f:FuncId}{ch:List PanicEntry}{vs:Array Value}{w:World}{R R':Ending→World→Prop}(h:sN P f ch vs w R)(hr:∀ e w',R e w'→R' e w'):sN P f ch vs w R' :=
 Calls.mono h fun _ _ q=>⟨q.1,hr _ _ q.2⟩
def nZ(post:List (Nat×ah)→Prop):bV:=fun r os'=>r=.tuple []∧post os'
def oz(P:Program)(f:FuncId)(ch:List PanicEntry)(args:List I)(os:List (Nat×ah))(post:List (Nat×ah)→Prop):Prop :=
 dJ P f=true∧lX (sN P f ch) (fun w _ E=>ev P w (bM E)) args os (nZ post)
def vE(ch:List PanicEntry)(post:List (Nat×ah)→Prop):Exit→ab→Prop
 | .panic ch',A=>ch'=ch∧iC [] (nZ post) A
 |_,_=>False
theorem AP{P:Program}{n:Nat}{w:World}{D:aD}{E:aN}{Y:Value→List I→List (Nat×ah)→bV→Prop}{post:List (Nat×ah)→Prop}{fn:Func}{A:ab}{D':aD}{E':aN}{ch:List PanicEntry}(h:iC [] (nZ post) A){R:World→Prop}(hR:∀ v w',kp w D E (nZ post) v w'→R w') :
  ∀ (ds:List Deferred) (a:Act) (w':World),a.defers=ds→aG ⟨P,w,D,n,bM E,E,Y,none,none⟩ A a w' D' E'→LeavesInM Fence.wide 9 P fn a.tmps (fun e w'=>e=.panicked ch∧R w') ds (.panicking ch) w'
 | [],a,w',_,hs=>by
  obtain ⟨v,h1,h2⟩:=hs.rP (fn := { fn with results := #[] }) (rs:=[]) rfl h;exact ⟨rfl,hR v w' h2⟩
 |d::ds,a,w',hd,hs=>by
  obtain ⟨Bs,h1,_⟩:=hs.eb;rw[hd] at h1;cases Bs with
  |nil=>cases h1
  |cons B Bs =>
   simp only[Z3,Y7] at h1;obtain ⟨rfl,rfl⟩:=h1;obtain ⟨k1,k2⟩:=hs.yV rfl hd;exact ⟨by simp,.inl ⟨B,_,rfl,run_takeDeferred k1,AP h hR _ { a with defers:=Bs.map _ } _ rfl k2⟩⟩
theorem TO{w:World}{D:aD}{E:aN}{post:List (Nat×ah)→Prop}{v:Value}{w':World}(h:kp w D E (nZ post) v w'):∃ v' D' E' r os',Ending.returned (.tuple #[])=.returned v'∧nZ post r os'∧aO w' D' E' r v'∧iN (fun b=>w.heap.size≤b∨bM E b) w' D' E' (aE os') ∧
   eg (fun b=>w.heap.size≤b∨bM E b) w w'∧(∀ b o,D b o→D' b o)∧(∀ b o,D' b o→b<w'.heap.size)∧(∀ b o,D' b o→b<w.heap.size→¬ bM E b→D b o) ∧
   (∀ n e,E n=some e→aC os' n=true→∃ e',E' n=some e'∧e.eZ e')∧fH w D w':=by
 obtain ⟨D',E',r,os',h1,h2,h3⟩:=h;refine ⟨_,D',E',r,os',rfl,h1,?_,h3⟩;obtain ⟨rfl,_⟩:=h1;simp only[aO];exact ⟨[],by simp,by simp[al]⟩
theorem oz.mk{P:Program}{f:FuncId}{fn:Func}{x:bm}{ch:List PanicEntry}{args:List I}{os:List (Nat×ah)}{post:List (Nat×ah)→Prop}(hf:P.funcs[f]?=some fn)(hcall:dJ P f=true)(hc:(fn.body.bind (dI P fn.ntmps))=some x)
  (hn:args.length≤fn.ntmps) (hn2:fn.ntmps≤1000000) (hos:∀ m,aC os m=true→1000000≤m) (h:I.gr args→∀ (w:World) (D:aD) (E:aN),U ⟨P,w,D,fn.ntmps,bM E,E,fq,none,none⟩ x (vE ch post) (aw (bC 0 args) os)):oz P f ch args os post:=by
 obtain ⟨body,hb,hc'⟩:=Option.bind_eq_some_iff.1 hc;refine ⟨hcall,fun w D E vs hl hD ho hv =>?_⟩;have hlen:=p6 hv;have hsim:=wu (P:=P) (n:=fn.ntmps) (Y:=fq) hD ho hv (by omega) (fun m hm=>⟨Nat.le_trans hn2 (hos m hm),hos m hm⟩) (ov hl);refine (callsIn_wide (n:=9)).1 (callsIn_of_wp_marks hf hb trivial ?_);refine wpIn_mono (((h (og _ _ hv) w D E).sub (sY args os)) body hc' _ w ⟨D,E,hsim⟩) ?_;rintro e a w' ⟨A,hq,D',E',hs⟩;cases e <;>simp only[vE] at hq
 obtain ⟨rfl,hq⟩:=hq;exact AP hq (fun v w' h=>TO h) a.defers a w' rfl hs
section
variable {c:b8} {A:ab} {Q:Exit→ab→Prop}
theorem rC{dr:Bool}{K:ab→Prop}{bd:Array Oper}{Q:Exit→Act→World→Prop}{l2:List Oper}(hQ:∀ B a w,K B→bw c B a w→wpListIn c.bl 9 c.P bd Q l2 a w):∀ (l:List Oper) (gs:List ar) (A:ab) (a:Act) (w:World),eX c.P c.n bd l=some gs→aX c.P c.Y dr K (ao gs A) →
  bw c A a w→wpListIn c.bl 9 c.P bd Q (l++l2) a w
 | [],gs,A,a,w,hc,hwp,hs=>by
  simp only[eX,v6] at hc;subst hc;simp only[ao] at hwp;cases hwp with
  |done hk=>exact hQ A a w hk hs
 |o::l,gs,A,a,w,hc,hwp,hs=>by
  simp only[eX] at hc;split at hc
  case h_2=>cases hc
  rename_i g gs' hg hgs;simp only[v6] at hc;subst hc;obtain ⟨h1,h2,h3,h4⟩:=nq hg;have step:aX c.P c.Y dr K (aU A g.dst g.op gs' (ao gs'))→o.wpIn c.bl 9 c.P a w (wpListIn c.bl 9 c.P bd Q (l++l2)) Q:=fun h =>
   rz h1 h2.symm (by rw[h2];exact h3) h hs (fun B a' w' hw hs'=>rC hQ l gs' B a' w' hgs hw hs')
  simp only[Y3,wpListIn];simp only[ao] at hwp;rcases h4 with ⟨h5,h6⟩ | ⟨j,b,t,h5,h6,h7⟩
  ·rw[h6] at hwp;have hw:Region.wanted o (yielded bd a.tmps)=true:=by simp[Region.wanted,h5]
   rw[hw,if_pos rfl];exact step hwp
  ·rw[h7] at hwp;simp only at hwp;split at hwp
   ·rename_i b' hb';rw[rE hs h5 h6 hb'];split at hwp
    ·rename_i hbb;subst hbb;simp only[BEq.rfl,if_true];exact step hwp
    ·rename_i hbb;have:(b'==b)=false:=by simpa using hbb
     rw[this];simp only[Z4,if_false];exact ⟨fun f _=>kM c f,rC hQ l gs' _ _ w hgs hwp (by rw[h2];exact hs.lN h3)⟩
   ·rename_i hb';rw[rF hs h5 h6 hb'];simp only[Z4,if_false];exact ⟨fun f _=>kM c f,rC hQ l gs' _ _ w hgs hwp (by rw[h2];exact hs.lN h3)⟩
   ·cases hwp
theorem yI{P:Program}{m:Nat}{bd:Array Oper}{g:ar}{gs2:List ar} : ∀ {l:List Oper} {gs1:List ar},eX P m bd l=some (gs1++g::gs2)→∃ l1 o l2,l=l1++o::l2∧eX P m bd l1=some gs1∧kD P m bd o=some g
 | [],gs1,h=>by simp[eX] at h
 |o::l,[],h=>by
  obtain ⟨g',gs',e,h1,h2⟩:=yJ h;simp only[X4,Y7] at e;obtain ⟨rfl,rfl⟩:=e;exact ⟨[],o,l,rfl,rfl,h1⟩
 |o::l,k::gs1,h=>by
  obtain ⟨g',gs',e,h1,h2⟩:=yJ h;simp only[Y3,Y7] at e;obtain ⟨rfl,rfl⟩:=e;obtain ⟨l1,o',l2,rfl,q1,q2⟩:=yI h2;exact ⟨o::l1,o',l2,rfl,by simp only[eX,h1,q1],q2⟩
inductive oD (P:Program) (Q:Exit→ab→Prop) (f:FuncId) (avs:List I):ab→Prop where
 |mk {ts:List (Nat×I)} {os0:List (Nat×ah)} (aA:Bool) (ρ:List (Nat×Nat)) (os:List (Nat×ah)) (cargs:List I) (ch:List PanicEntry) (post:List (Nat×ah)→Prop):oz P f ch cargs os post→eH ρ os os0→fI aA (aw ts (dO (im ρ os) os0)) ρ os avs cargs →
  (∀ os',post os'→dx aA ρ os os0 (.tuple []) os')→(∀ os',post os'→Q (.panic ch) (aw ts (cV ρ os'++os0)))→oD P Q f avs (aw ts os0)
inductive lv (P:Program) (Q:Exit→ab→Prop):bq→ab→Prop where
 |call {f:FuncId} {args:List av} {A:ab} : oD P Q f (args.map (af A)) A→lv P Q (.call f args) A
 |eR {x:av} {args:List av} {f:Nat} {caps:List I} {A:ab} : af A x=.func f caps→oD P Q (jX f) (gy f (args.map (af A)) caps) A→lv P Q (.eR x args) A
 |j7 {x:av} {t:TypeId} {A:ab} : af A x=.iface t (.agg [])→Q (.panic [{ v:=.iface t (.agg #[]),recovered:=false }]) A→lv P Q (.prim .j7 [x]) A
theorem vF{o:Oper}{g:bq}{f:FuncId}{avs:List I}{vs:List Value}{a:Act}{w:World}{D:aD}{E:aN}{Kw:Act→World→Prop}(hop0:cm c.P o=some g)(h:oD c.P Q f avs A)(hs:aG c A a w D E)(hall:dR (aO w D E) avs vs)
  (hrun:dJ c.P f=true→(execOp a.eval o).run c.P w=.ok (.enter f vs.toArray) w):o.wpIn c.bl 9 c.P a w Kw (rR c Q):=by
 cases h with
 |mk aA ρ os cargs ch post hspec hgv ha hb hrest =>
  have hu:=hspec.2.use hs aA (fun h=>h.mono) ⟨fun _ _=>hs.nL,fun _=>hs.nL⟩ hgv ha (fun r os' hp=>by obtain ⟨rfl,hp⟩:=hp;exact hb os' hp) hall;refine ⟨iP,?_⟩;rw[ji hop0,hrun hspec.1,Oper.uponIn_enter];refine ⟨ue c,yR (Calls.mono hu ?_)⟩;rintro e w' ⟨rfl,v,r,os',D2,E2,he,⟨rfl,hp⟩,hs',hv,_⟩;exact ⟨_,hrest os' hp,D2,E2,hs'⟩
theorem Vt{o:Oper}{g:bq}{a:Act}{w:World}{Kw:Act→World→Prop}(hop:cm c.P o=some g)(h:lv c.P Q g A)(hsim:bw c A a w):o.wpIn c.bl 9 c.P a w Kw (rR c Q):=by
 have hop0:=hop;obtain ⟨D,E,hs⟩:=hsim;cases h with
 |call h =>
  unfold cm at hop;split at hop <;>try (first | (simp at hop;done) | ((repeat' split at hop) <;>simp at hop;done))
  rename_i f' xs ts ho;split at hop
  case isFalse=>simp at hop
  simp only[t7,bq.call.injEq] at hop;obtain ⟨ys,hys,rfl,rfl⟩:=hop;have e:xs.map a.eval=(xs.toList.map a.eval).toArray:=by apply Array.ext';simp
  refine vF (vs:=xs.toList.map a.eval) hop0 h hs (jQ hs xs.toList ts.toList ys hys) fun hc =>?_;simp only[execOp,ho,resolve,Act.eval,Deferred.ofValue,Sem.run_bind,Sem.run_pure,Result.andThen_ok,invoke,Array.append_empty,Array.empty_append,lP hc];rw[←e]
 |eR hx h =>
  rename_i x args f caps;unfold cm at hop;split at hop <;>try (first | (simp at hop;done) | ((repeat' split at hop) <;>simp at hop;done))
  rename_i y xs ts _ ho;split at hop
  case h_2=>cases hop
  rename_i y' ys h1 h2;simp only[v6,bq.eR.injEq] at hop;obtain ⟨rfl,rfl⟩:=hop;have hv:=bo hs h1;rw[hx] at hv;obtain ⟨cs,q1,q2⟩:=hv;simp only[ae] at q2;obtain ⟨vs,q3,q4⟩:=q2;have hval:a.eval y=iF f vs:=by simpa[aW,I.isAgg,q3] using q1.symm
  have e:xs.map a.eval=(xs.toList.map a.eval).toArray:=by apply Array.ext';simp
  have hargs:=jQ hs xs.toList ts.toList ys h2;rcases Nat.lt_or_ge f 1000000 with hf | hf
  ·rw[uz hf,uy hf] at h;rw[lC hf] at hval;refine vF (vs:=xs.toList.map a.eval++vs) hop0 h hs (hargs.append (od q4)) fun hc =>?_;simp only[execOp,ho,resolve,hval,Deferred.ofValue,Sem.run_bind,Sem.run_pure,Result.andThen_ok,invoke,Array.empty_append,lP hc];rw[e];simp
  ·obtain ⟨g,rfl⟩:∃ g:Nat,f=g+1000000:=⟨Nat.sub f 1000000,(Nat.sub_add_cancel hf).symm⟩
   rw[zC,zB] at h;rw[o9] at hval;refine vF (vs:=vs++xs.toList.map a.eval) hop0 h hs ((od q4).append hargs) fun hc =>?_;simp only[execOp,ho,resolve,hval,Deferred.ofValue,Sem.run_bind,Sem.run_pure,Result.andThen_ok,invoke,Array.append_empty,lP hc];rw[e];simp

 |j7 hx hq =>
  rename_i x t;unfold cm at hop;split at hop <;>try (first | (simp at hop;done) | ((repeat' split at hop) <;>simp at hop;done))
  rename_i x0 ho;simp only[t7,bq.prim.injEq,Y7,and_true,true_and] at hop;obtain ⟨y,hy,rfl⟩:=hop;have hv:=bo hs hy;rw[hx] at hv;obtain ⟨cs,q1,q2⟩:=hv;simp only[ae] at q2;obtain ⟨u,cs',q3,q4,q5⟩:=q2;simp only[ay] at q5;subst q5;have hu:u=.agg #[]:=by simpa[aW,I.isAgg] using q4
  have hval:a.eval x0=.iface t (.agg #[]):=by simpa[aW,I.isAgg,q3,hu] using q1.symm
  have hrun:(execOp a.eval o).run c.P w=.halt (.panic (.iface t (.agg #[]))) w:=by simp[execOp,ho,hval,Instr.panic,goPanic]
  refine ⟨iP,?_⟩;rw[ji hop0,hrun,Oper.uponIn_panic];exact ⟨A,hq,D,E,hs⟩
theorem U.VX{gs:List ar}(k:Nat){g:bq}{dst:Option Nat}(hk:gs=gs.take k++⟨dst,g,none⟩::gs.drop (k+1))(h:∀ K:ab→Prop,(∀ B,lv c.P Q g B→K B)→aX c.P c.Y false K (ao (gs.take k) A)):U c (.bS none gs) Q A:=by
 intro code hc a w hs;cases code <;>simp only[dI] at hc <;>try (first | (cases hc;done) | ((repeat' split at hc) <;>cases hc;done))
 rename_i id bd draw;split at hc
 case h_2=>cases hc
 rename_i gs' hgs;split at hc
 case isFalse=>cases hc
 simp only[v6,bm.bS.injEq] at hc;obtain ⟨hdr,rfl⟩:=hc;cases draw with
 |true=>simp at hdr
 |false =>
  refine wpIn_region_list ?_;rw[hk] at hgs;obtain ⟨l1,o,l2,hl,h1,h2⟩:=yI hgs;rw[hl];refine rC (K:=lv c.P Q g) (fun B a' w' hp hs' =>?_) l1 _ A a w h1 (h _ fun _ hb=>hb) hs;obtain ⟨q1,q2,q3,q4⟩:=nq h2;have wn:Region.wanted o (yielded bd a'.tmps)=true:=by
   rcases q4 with ⟨a5,_⟩ | ⟨_,_,_,_,_,a5⟩
   ·simp[Region.wanted,a5]
   ·simp at a5
  simp only[wpListIn,wn,if_true];exact Vt q1 hp hs'
theorem U.kV{gs gs1 gs2:List ar}{g:bq}{dst:Option Nat}(e:gs=gs1++⟨dst,g,none⟩::gs2)(h:∀ K:ab→Prop,(∀ B,lv c.P Q g B→K B)→aX c.P c.Y false K (ao gs1 A)):U c (.bS none gs) Q A:=by
 subst e;refine U.VX gs1.length (g:=g) (dst:=dst) ?_ fun K hK =>?_
 ·simp
 ·simpa using h K hK
end
section
variable {P:Program} {n:Nat} {w:World} {D:aD} {E:aN} {rs:List bu} {post:bV} {fn:Func} {ch:List PanicEntry} {f:FuncId} {N b:Nat}
theorem nM{bl:Fence}{m:Nat}{tmps:Array Value}{R R':Ending→World→Prop}(hr:∀ e w,R e w→R' e w):∀ (ds:List Deferred) (u:FrameMode) (w:World),LeavesInM bl m P fn tmps R ds u w→LeavesInM bl m P fn tmps R' ds u w
 | [],u,w,h=>by
  cases u with
  |run=>exact h
  |returning=>obtain ⟨v,h1,h2⟩:=h;exact ⟨v,h1,hr _ _ h2⟩
  |panicking c=>exact hr _ _ h
 |d::ds,u,w,h=>by
  obtain ⟨h1,h2⟩:=h;refine ⟨h1,?_⟩;rcases h2 with ⟨r,w',k1,k2,k3⟩ | ⟨k1,fv,cap,g,args,k2,k3,k4,k5⟩
  ·exact .inl ⟨r,w',k1,k2,nM hr ds u w' k3⟩
  ·refine .inr ⟨k1,fv,cap,g,args,k2,k3,k4,k5.mono fun e u' w' h =>?_⟩;cases e with
   |returned v=>exact nM hr ds _ w' h
   |panicked c=>exact nM hr ds _ w' h
   |outgrown=>exact hr _ _ h
def pZ(P:Program)(fn:Func)(rest:Code)(slots:List Nat)(a:Act)(vs:Array Value)(w:World)(R:Ending→World→Prop):Prop :=
 vs.toList=slots.map (fun t=>a.tmps.getD t undef)→rest.wpIn Fence.wide 9 P (bodyPostM Fence.wide 9 P fn R) a w
theorem pZ.mono{rest:Code}{slots:List Nat}{a:Act}{vs:Array Value}{w:World}{R R':Ending→World→Prop}(h:pZ P fn rest slots a vs w R)(hr:∀ e w,R e w→R' e w):pZ P fn rest slots a vs w R':=fun hv=>by
 refine wpIn_mono (h hv) fun e a' w' q =>?_;cases e <;>simp only[bodyPostM] at q ⊢ <;>first
  |exact nM hr _ _ _ q
  |exact hr _ _ q
  |exact q
theorem DS{w:World}{D:aD}{E:aN}(g:Nat→Value):∀ (slots:List Nat) (args:List I),al w D E args (slots.map g)→∀ t,aO w D E (b7 (slots.zip args) t) (g t)
 | [],args,h,t=>by simp[b7,aO]
 |s::slots,[],h,t=>by simp[b7,aO]
 |s::slots,x::args,h,t=>by
  simp only[al,Z3] at h;obtain ⟨v,rest,cs,e,h1,h2,h3⟩:=h;simp only[Y7] at e;obtain ⟨rfl,rfl⟩:=e;simp only[List.zip_cons_cons,b7];split
  ·rename_i hk;subst hk;exact fb h1 h2
  ·exact DS g slots args h3 t
end
abbrev qT(P:Program)(w:World)(D:aD)(n:Nat)(E:aN)(b:Option (List Deferred)):b8:=⟨P,w,D,n,bM E,E,fq,none,b⟩
theorem aG.TM{P:Program}{n:Nat}{w:World}{D:aD}{E:aN}{dQ:Option (List Deferred)}{post:bV}{A:ab}{a:Act}{w':World}{D':aD}{E':aN}{r:I}{v:Value}{os:List (Nat×ah)}
  (hs:aG (qT P w D n E dQ) A a w' D' E') (h1:∀ m z,aE os m=some z→A.o m=some z∧z.only (aC os)=true∧z.ed=true) (hf:r.flat=true) (hv:aO w' D' E' r v) (hp:post r os):kp w D E post v w':=by
 obtain ⟨D2,E2,hw,e2,e2n,q1,q2,q3,q4,q5,q6⟩:=hs.u7 h1;exact ⟨D2,E2,r,os,hp,aO.flat hf hv,q1,q2,q3,q4,q5,q6⟩
def jG(b:Nat):Value:=.pointer (some ⟨b,0,none⟩)
def qw(P:Program)(f:FuncId)(k:Nat):Prop:=dJ P f=true∧∀ (bs:List Nat) (w:World),bs.length=k →
 CallsDIn Fence.wide 8 P f (bs.map jG).toArray .returning w fun e u' w'=>(∃ v,e=.returned v)∧u'=.returning∧w'=w
def mM(A:ab):List Nat→List I→ab
 |N::Ns,z::zs=>mM (A.aP N (.box z)) Ns zs
 |_,_=>A
def kj(E:aN):List Nat→List Nat→List I→Prop
 | [],[],[]=>True
 |N::Ns,b::bs,z::zs=>E N=some (.aA b z.aF)∧kj E Ns bs zs
 |_,_,_=>False
def nc(A:ab):List Nat→List I→Prop
 | [],[]=>True
 |N::Ns,z::zs=>(∃ x,A.o N=some (.box x)∧x.aF=z.aF)∧nc A Ns zs
 |_,_=>False
def qq(P:Program)(f:FuncId)(ch:List PanicEntry)(zs:List I):Prop:=dJ P f=true∧∀ (c:b8) (A:ab) (a:Act) (w:World) (D:aD) (E:aN) (Ns bs:List Nat),c.P=P→aG c A a w D E→kj E Ns bs zs→nc A Ns zs →
 CallsDIn Fence.wide 8 P f (bs.map jG).toArray (.panicking ch) w fun e u' w'=>(∃ v,e=.returned v)∧settle u'=.returning∧aG c (mM A Ns zs) a w' D E
def jq(f:FuncId)(vs:List Value):Deferred := { target:=.fn (.func f) vs.toArray,args := #[] }
def pQ(rs:List bu)(post:bV)(ch:List PanicEntry)(Ns:List Nat)(zs:List I):Exit→ab→Prop
 | .ret,A=>nc A Ns zs∧iC rs post A
 | .panic ch',A=>ch'=ch∧nc A Ns zs∧iC rs post (mM A Ns zs)
 |_,_=>False
theorem kj.len{E:aN} : ∀ {Ns bs:List Nat} {zs:List I},kj E Ns bs zs→bs.length=zs.length∧Ns.length=zs.length
 | [],[],[],_=>⟨rfl,rfl⟩
 |_::Ns,_::bs,_::zs,h=>by
  have:=kj.len h.2;simp[this.1,this.2]
 | [],_::_,_,h=>h.elim
 | [],[],_::_,h=>h.elim
 |_::_,[],_,h=>h.elim
 |_::_,_::_,[],h=>h.elim
section
variable {P:Program} {n:Nat} {w:World} {D:aD} {E:aN} {rs:List bu} {post:bV} {fn:Func} {ch:List PanicEntry} {f:FuncId} {Ns bs:List Nat} {zs:List I}
theorem xD{A:ab}{a:Act}{w':World}{D':aD}{E':aN}{dQ:Option (List Deferred)}(hs:aG ⟨P,w,D,n,bM E,E,fq,none,dQ⟩ A a w' D' E'):∀ {Ns bs:List Nat} {zs:List I},kj E Ns bs zs→nc A Ns zs→kj E' Ns bs zs
 | [],[],[],_,_=>trivial
 |N::Ns,b::bs,z::zs,h,hx=>by
  refine ⟨?_,xD hs h.2 hx.2⟩;obtain ⟨x,hx,_⟩:=hx.1;have hob:cW _ w' D' E' N (some (.box x)):=hx▸hs.bx N;rcases hs.uH (n:=N) (e:=.aA b z.aF) h.1 rfl with k | k
  ·exact absurd k (pH hob)
  ·exact k
 | [],_::_,_,h,_=>h.elim
 | [],[],_::_,h,_=>h.elim
 |_::_,[],_,h,_=>h.elim
 |_::_,_::_,[],h,_=>h.elim
theorem AQ(hrs:fJ P fn.results.toList=some rs)(hEN:kj E Ns bs zs){A:ab}{D':aD}{E':aN}{u:FrameMode}(hx:nc A Ns zs)
  (hcase:(u=.returning∧iC rs post A∧qw P f zs.length)∨(u=.panicking ch∧iC rs post (mM A Ns zs)∧qq P f ch zs)) :
  ∀ (ds:List Deferred) (a:Act) (w':World),a.defers=ds→aG ⟨P,w,D,n,bM E,E,fq,none,some [jq f (bs.map jG)]⟩ A a w' D' E'→LeavesInM Fence.wide 9 P fn a.tmps (fun e w'=>∃ v,e=.returned v∧kp w D E post v w') ds u w'
 | [],a,w',hd,hs=>by
  have h1:a.defers=[jq f (bs.map jG)]:=hs.eb;rw[hd] at h1;cases h1
 |d::ds,a,w',hd,hs=>by
  have h1:a.defers=[jq f (bs.map jG)]:=hs.eb;rw[hd] at h1;simp only[Y7] at h1;obtain ⟨rfl,rfl⟩:=h1;refine ⟨by rcases hcase with ⟨rfl,_⟩ | ⟨rfl,_⟩ <;>simp,.inr ⟨fun _=>by decide,.func f,(bs.map jG).toArray,f,(bs.map jG).toArray,rfl,?_,fun _ _=>trivial,?_⟩⟩
  ·have hcb:dJ P f=true:=by rcases hcase with ⟨_,_,h⟩ | ⟨_,_,h⟩ <;>exact h.1
   simp only[jq,invoke,lP hcb,Array.empty_append]
  ·rcases hcase with ⟨rfl,hr,hi⟩ | ⟨rfl,hr,hc⟩
   ·refine (hi.2 bs w' hEN.len.1).mono ?_;rintro e u' w'' ⟨⟨v,rfl⟩,rfl,rfl⟩;obtain ⟨v,h1,h2⟩:=hs.rP hrs hr;exact ⟨v,h1,v,rfl,h2⟩
   ·refine (hc.2 _ A a w' D' E' Ns bs rfl hs (xD hs hEN hx) hx).mono ?_;rintro e u' w'' ⟨⟨v,rfl⟩,hu,hs2⟩;obtain ⟨v,h1,h2⟩:=hs2.rP hrs hr;simp only[hu];exact ⟨v,h1,v,rfl,h2⟩
theorem BN{w:World}{D:aD}{E:aN} : ∀ {Ns:List Nat} {zs:List I} {vs:List Value},dR (aO w D E) (Ns.map fun N=>.ptr N []) vs→(∀ q∈Ns.zip zs,∃ b,E q.1=some (.aA b q.2.aF))→Ns.length=zs.length→∃ bs,vs=bs.map jG∧kj E Ns bs zs
 | [],[],_,.nil,_,_=>⟨[],rfl,trivial⟩
 |N::Ns,z::zs,_,.cons h hs,hb,hl=>by
  obtain ⟨bs,rfl,h2⟩:=BN (zs:=zs) hs (fun q hq=>hb q (by simp[hq])) (by simpa using hl);obtain ⟨b,aq⟩:=hb (N,z) (by simp);obtain ⟨b',aF,off,p1,p2,rfl⟩:=kb h;simp only at aq;rw[aq] at p1;simp only[v6,bt.aA.injEq] at p1;obtain ⟨rfl,rfl⟩:=p1;have hoff:off=0:=by
   cases hz:z.aF <;>rw[hz] at p2 <;>simpa[bJ.off] using p2.symm
  subst hoff;exact ⟨b::bs,rfl,aq,h2⟩
 | [],_::_,_,_,_,hl=>by simp at hl
 |_::_,[],_,_,_,hl=>by simp at hl
theorem qC{α:Type}{R:I→Value→Prop}{f:α→I}{g:α→Value}(h:∀ x,R (f x) (g x)):∀ l:List α,dR R (l.map f) (l.map g)
 | []=>.nil
 |x::l=>.cons (h x) (qC h l)
theorem V9{rest:Code}{x:bm}{slots:List Nat}{a:Act}{args:List I}{os:List (Nat×ah)}{tss:List Nat}(hrs:fJ P fn.results.toList=some rs)(hx:dI P n rest=some x)(hsz:a.tmps.size=n)(hd:a.defers=[jq f (tss.map fun t=>a.tmps.getD t undef)])(hos:∀ m,aC os m=true→n≤m∧1000000≤m)
  (hts:tss.map (b7 (slots.zip args))=Ns.map fun N=>.ptr N []) (hl:Ns.length=zs.length) (hN:∀ q∈Ns.zip zs,∃ y,aE os q.1=some (.box y)∧y.aF=q.2.aF) (hi:qw P f zs.length) (hc:qq P f ch zs)
  (hAW:∀ (w:World) (D:aD) (E:aN) (d:Deferred),U ⟨P,w,D,n,bM E,E,fq,none,some [d]⟩ x (pQ rs post ch Ns zs) (aw (slots.zip args) os)):lX (pZ P fn rest slots a) (fun w _ E=>ev P w (bM E)) args os post:=by
 intro w D E vs hl0 hD ho hv hvs;have hvs':vs=slots.map (fun t=>a.tmps.getD t undef):=by simpa using hvs
 subst hvs';have htm:=DS (fun t=>a.tmps.getD t undef) slots args hv;have hp:=qC htm tss;rw[hts] at hp;obtain ⟨bs,hbs,hat⟩:=BN (zs:=zs) hp (fun q hq=>by
  obtain ⟨y,h1,h2⟩:=hN q hq;have hob:cW _ w D E q.1 (some (.box y)):=h1▸ho.bx q.1;obtain ⟨b',cs,T,e1,_⟩:=hob;exact ⟨b',by rw[e1,h2]⟩) hl
 rw[hbs] at hd;have hsim:aG ⟨P,w,D,n,bM E,E,fq,none,some [jq f (bs.map jG)]⟩ (aw (slots.zip args) os) a w D E:=by
  refine ⟨hsz,hd,htm,eg.refl _ _,fun _ _ h _=>h,hD,fun m =>?_,ho.ct,fun m e h=>.inr ⟨e,h,.refl e⟩,fun m hm =>?_,fun _ _ h=>h,ov hl0,.refl _ _⟩
  ·have h:=ho.bx m;simp only[aw];cases hx:aE os m with
   |none=>rw[hx] at h;exact h
   |some x=>rw[hx] at h;exact cW.jb h fun e b he hb=>.inr ⟨m,e,he,hb⟩
  ·refine hos m ?_;cases hx:aE os m with
   |none=>have h:=ho.bx m;rw[hx] at h;exact absurd h hm
   |some x=>simp[aC,hx]
 refine wpIn_mono ((hAW w D E _) rest hx a w ⟨D,E,hsim⟩) ?_;rintro e a' w' ⟨A,hq,D',E',hs⟩;have ba:∀ e w',(∃ v,e=Ending.returned v∧kp w D E post v w')→∃ v D' E' r os',e=.returned v∧post r os'∧aO w' D' E' r v∧iN (fun b=>w.heap.size≤b∨bM E b) w' D' E' (aE os') ∧
   eg (fun b=>w.heap.size≤b∨bM E b) w w'∧(∀ b o,D b o→D' b o)∧(∀ b o,D' b o→b<w'.heap.size)∧(∀ b o,D' b o→b<w.heap.size→¬ bM E b→D b o) ∧
   (∀ n e,E n=some e→aC os' n=true→∃ e',E' n=some e'∧e.eZ e')∧fH w D w':=fun e w' ⟨v,h1,D',E',r,os',h2⟩=>⟨v,D',E',r,os',h1,h2⟩
 cases e <;>simp only[pQ] at hq
 ·obtain ⟨h1,h2⟩:=hq;exact nM ba _ _ _ (AQ (ch:=ch) hrs hat h1 (.inl ⟨rfl,h2,hi⟩) a'.defers a' w' rfl hs)
 ·obtain ⟨rfl,h1,h2⟩:=hq;exact nM ba _ _ _ (AQ hrs hat h1 (.inr ⟨rfl,h2,hc⟩) a'.defers a' w' rfl hs)
end
def oo:List av→Option (List Nat)
 | []=>some []
 | .t n::l=>(oo l).map (n :: ·)
 |_=>none
theorem DT:∀ {l:List av} {ts:List Nat},oo l=some ts→l=ts.map .t
 | [],ts,h=>by simp only[oo,v6] at h;subst h;rfl
 | .t n::l,ts,h=>by
  simp only[oo,t7] at h;obtain ⟨r,h1,rfl⟩:=h;rw[DT h1];rfl
 | .c _::_,_,h=>by simp[oo] at h
def ud(P:Program)(n:Nat):Code→Option (bm×FuncId×List Nat×Nat×bm)
 | .seq ir (.seq (.region _ bd false) rest)=>match bd.toList with
  | [o1,o2]=>match kD P n bd o1,o2.op with
   |some ⟨some t5,.mk g caps,none⟩,.defer { callee:=.value (.tmp t),args,.. } =>if t=t5∧args = #[]∧o2.guard=none∧o2.dst=none then (match dI P n ir,dI P n rest,oo caps with
     |some x0,some x,some tss=>some (x0,g,tss,t5,x)
     |_,_,_=>none)
    else none
   |_,_=>none
  |_=>none
 |_=>none
structure EY (P:Program) (n:Nat) (x:bm) (rs:List bu) (post:bV) (ch:List PanicEntry) (g:FuncId) (tss:List Nat) (t5:Nat) (tsl:List (Nat×I)) (os0:List (Nat×ah)) (ρ:List (Nat×Nat)) (os1:List (Nat×ah)) (slots:List Nat) (cargs:List I) (Ns:List Nat) (zs:List I) (post1:bV):Prop where
 bz:tss.map (b7 tsl)=Ns.map fun N=>.ptr (bp ρ N) []
 Aj:eH ρ os1 os0
 arg:fI false (aw ((t5,.func g (Ns.map fun N=>.ptr (bp ρ N) []))::tsl) (dO (im ρ os1) os0)) ρ os1 (slots.map (b7 ((t5,.func g (Ns.map fun N=>.ptr (bp ρ N) []))::tsl))) cargs
 xw:∀ r os',post1 r os'→dx false ρ os1 os0 r os'
 DA:tss.map (b7 (slots.zip cargs))=Ns.map fun N=>.ptr N []
 len:Ns.length=zs.length
 box:∀ q∈Ns.zip zs,∃ y,aE os1 q.1=some (.box y)∧y.aF=q.2.aF
 lD:∀ m,aC os1 m=true→n≤m∧1000000≤m
 rest:∀ (w:World) (D:aD) (E:aN) (d:Deferred),U ⟨P,w,D,n,bM E,E,fq,none,some [d]⟩ x (pQ rs post1 ch Ns zs) (aw (slots.zip cargs) os1)
 kv:∀ r os',post1 r os'→∃ osF,r.flat=true∧r.aQ (bp ρ)=r∧(∀ m z,aE osF m=some z→aE (cV ρ os'++os0) m=some z∧z.only (aC osF)=true∧z.ed=true)∧post r osF
theorem BO{w:World}{D:aD}{E:aN}{ρ:List (Nat×Nat)} : ∀ {Ns:List Nat} {vs vs':List Value},dR (aO w D E) (Ns.map fun N=>.ptr (bp ρ N) []) vs→dR (aO w D E) (Ns.map fun N=>.ptr (bp ρ N) []) vs'→vs=vs'
 | [],_,_,.nil,.nil=>rfl
 |N::Ns,_,_,.cons h hs,.cons h' hs'=>by
  obtain ⟨b1,sh1,off1,p1,p2,rfl⟩:=kb h;obtain ⟨b2,sh2,off2,q1,q2,rfl⟩:=kb h';rw[p1] at q1;simp only[v6,bt.aA.injEq] at q1;obtain ⟨rfl,rfl⟩:=q1;rw[p2] at q2;simp only[v6] at q2;subst q2;rw[BO hs hs']
theorem eG.U8{P:Program}{f:FuncId}{fn:Func}{x0 x:bm}{g:FuncId}{tss:List Nat}{t5:Nat}{rs:List bu}{args:List I}{os:List (Nat×ah)}{post:bV}{ch:List PanicEntry}{zs:List I}(hf:P.funcs[f]?=some fn)(hcall:dJ P f=true)(hc:(fn.body.bind (ud P fn.ntmps))=some (x0,g,tss,t5,x))
  (hrs:fJ P fn.results.toList=some rs) (hn:args.length≤fn.ntmps) (hn2:fn.ntmps≤1000000) (hos:∀ m,aC os m=true→1000000≤m) (hi:qw P g zs.length) (hca:qq P g ch zs) (hts:tss.contains t5=false)
  (h:I.gr args→∀ (w:World) (D:aD) (E:aN),U ⟨P,w,D,fn.ntmps,bM E,E,fq,none,some []⟩ x0 (cO (fun B=>∃ tsl os0 ρ os1 slots cargs Ns post1,B=aw tsl os0∧EY P fn.ntmps x rs post ch g tss t5 tsl os0 ρ os1 slots cargs Ns zs post1) (fun _ _=>False)) (aw (bC 0 args) os)):eG P f args os post:=by
 obtain ⟨body,hb,hc⟩:=Option.bind_eq_some_iff.1 hc;refine ⟨hcall,fun w D E vs hl hD ho hv =>?_⟩;have hlen:=p6 hv;have s0:=wu (P:=P) (n:=fn.ntmps) (Y:=fq) hD ho hv (by omega) (fun m hm=>⟨Nat.le_trans hn2 (hos m hm),hos m hm⟩) (ov hl);have hsim:aG (qT P w D fn.ntmps E (some [])) (mU args os) { tmps:=vs.toArray++Array.replicate (fn.ntmps-vs.toArray.size) undef,defers:=[] } w D E :=
  ⟨s0.sz,rfl,s0.dw,s0.db,s0.cC,s0.cI,s0.bx,s0.ct,s0.dp,s0.eD,s0.cj,ov hl,s0.fi⟩
 obtain ⟨RR,hRR⟩:∃ RR:Ending→World→Prop,RR=fun e w'=>∃ v,e=.returned v∧kp w D E post v w':=⟨_,rfl⟩
 refine Calls.mono (R:=RR) ?_ (fun e w' q=>by rw[hRR] at q;obtain ⟨v,he,D',E',r,os',k⟩:=q;exact ⟨v,D',E',r,os',he,k⟩);refine (callsIn_wide (n:=9)).1 (callsIn_of_wp_marks hf hb trivial ?_);unfold ud at hc;split at hc
 case h_2=>cases hc
 rename_i ir id bd rest;split at hc
 case h_2=>cases hc
 rename_i o1 o2 hops;split at hc
 case h_2=>cases hc
 rename_i t5' g' caps t dargs _ hg1 ho2;split at hc
 case isFalse=>cases hc
 rename_i hok;obtain ⟨ht,hda,hgd,hdst⟩:=hok;split at hc
 case h_2=>cases hc
 rename_i y0 y tss' hx0 hx htt;simp only[v6,Prod.mk.injEq] at hc;obtain ⟨e1,e2,e3,e4,e5⟩:=hc;subst e4 ht hda e1 e2 e3 e5;have hcaps:=DT htt;subst hcaps;refine wpIn_seq ?_;have hw0:=((h (og _ _ hv) w D E).sub (sY args os)) ir hx0 _ w ⟨D,E,hsim⟩;refine wpIn_mono hw0 ?_;rintro e a1 w1 ⟨B,hq,D1,E1,hs1⟩;cases e <;>simp only[cO] at hq
 obtain ⟨tsl,os0,ρ,os1,slots,cargs,Ns,post1,rfl,R⟩:=hq;simp only[Exit.then];refine wpIn_seq (wpIn_region_list ?_);rw[hops];obtain ⟨q1,q2,q3,q4⟩:=nq hg1;simp only at q1 q2;have wn1:∀ a:Act,Region.wanted o1 (yielded bd a.tmps)=true:=fun a=>by
  rcases q4 with ⟨a5,_⟩ | ⟨_,_,_,_,_,a5⟩
  ·simp[Region.wanted,a5]
  ·simp at a5
 have wn2:∀ a:Act,Region.wanted o2 (yielded bd a.tmps)=true:=fun a=>by simp[Region.wanted,hgd]
 simp only[wpListIn,wn1,if_true];have hmk:aT (aw tsl os0) (.mk g' (tss'.map .t))=some (.func g' (Ns.map fun N=>.ptr (bp ρ N) [])):=by
  have e:(tss'.map av.t).map (af (aw tsl os0))=Ns.map fun N=>.ptr (bp ρ N) []:=by
   rw[←R.bz,List.map_map];rfl
  simp only[aT,e];rw[if_pos];simp[I.cq]
 have d1:=(BQ (c:=qT P w D fn.ntmps E (some [])) q1 hmk).does q3;rw[←q2] at d1;refine d1.wp q1 ⟨D1,E1,hs1⟩ fun a2 w2 hs2 =>?_;obtain ⟨D2,E2,hs2⟩:=hs2;simp only[wn2,if_true];rw[A5] at hs2
 -- the deferred call
 have hglt:=yQ hi.1;have hfv:=hs2.dw t;simp only[aw,b7,if_true] at hfv;obtain ⟨fc,f1,f2⟩:=hfv;simp only[ae] at f2;obtain ⟨fvs,f3,f4⟩:=f2;have hval:a2.tmps.getD t undef=.func (.func g') #[] fvs.toArray:=by
  rw[←lC hglt];simpa[aW,I.isAgg,f3] using f1.symm
 have htl:tss'.map (b7 ((t,.func g' (Ns.map fun N=>.ptr (bp ρ N) []))::tsl))=Ns.map fun N=>.ptr (bp ρ N) []:=by
  rw[←R.bz];refine List.map_congr_left fun k hk =>?_;simp only[b7];rw[if_neg];intro e;have:tss'.contains k=true:=by simpa using hk
  rw[e,hts] at this;cases this
 have hfvs:fvs=tss'.map fun k=>a2.tmps.getD k undef:=by
  refine BO (w:=w2) (D:=D2) (E:=E2) (ρ:=ρ) (od f4) ?_;have:=qC (f:=b7 ((t,.func g' (Ns.map fun N=>.ptr (bp ρ N) []))::tsl)) (g:=fun k=>a2.tmps.getD k undef) (fun k=>hs2.dw k) tss'
  rwa [htl] at this
 have hdf:a2.defers=[]:=hs2.eb;obtain ⟨a3,ha3⟩:∃ a3:Act,a3 = { a2 with defers:=[jq g' (tss'.map fun k=>a2.tmps.getD k undef)] } :=⟨_,rfl⟩
 have hrun:(o2.semAt Fence.wide.round a2.eval).run P w2=.ok (.defer (jq g' (tss'.map fun k=>a2.tmps.getD k undef))) w2:=by
  show (execOp a2.eval o2).run P w2=_
  have he:a2.eval (.tmp t)=.func (.func g') #[] fvs.toArray:=hval;simp[execOp,ho2,resolve,he,Deferred.ofValue,jq,hfvs]
 refine ⟨fun _ _=>trivial,?_⟩;rw[hrun,Oper.uponIn_defer,hdf,hdst];simp only[Exit.then];have hput:({ tmps:=a2.tmps,defers:=[jq g' (tss'.map fun k=>a2.tmps.getD k undef)] } : Act).put none undef=a3:=by rw[ha3];rfl
 rw[hput]
 -- the rest
 have hand:=V9 (P:=P) (n:=fn.ntmps) (fn:=fn) (f:=g') (Ns:=Ns) (zs:=zs) (ch:=ch) (slots:=slots) (a:=a3) (args:=cargs) (os:=os1) (tss:=tss') hrs hx (by rw[ha3];exact hs2.sz) (by rw[ha3]) R.lD R.DA R.len R.box hi hca R.rest;have hs3:aG (qT P w D fn.ntmps E (some [jq g' (tss'.map fun k=>a2.tmps.getD k undef)])) (aw ((t,.func g' (Ns.map fun N=>.ptr (bp ρ N) []))::tsl) os0) a3 w2 D2 E2:=by
  rw[ha3];exact ⟨hs2.sz,rfl,hs2.dw,hs2.db,hs2.cC,hs2.cI,hs2.bx,hs2.ct,hs2.dp,hs2.eD,hs2.cj,ov hl,hs2.fi⟩
 have hall:∀ l:List Nat,dR (aO w2 D2 E2) (l.map (b7 ((t,.func g' (Ns.map fun N=>.ptr (bp ρ N) []))::tsl))) (l.map fun k=>a3.tmps.getD k undef):=fun l=>qC (fun k=>hs3.dw k) l;have hus:=hand.use hs3 false (fun h hr=>h.mono hr) ⟨(fun h=>by cases h),fun _=>hs3.nL⟩ R.Aj R.arg R.xw (hall slots);refine pZ.mono hus ?_ (by simp);rintro e w' ⟨v,r,os',D4,E4,rfl,hp,hs4,hv4,_⟩;rw[hRR];obtain ⟨osF,g1,g2,g3,g4⟩:=R.kv r os' hp;rw[g2] at hv4;exact ⟨v,rfl,hs4.TM g3 g1 hv4 g4⟩
end Go.Abs
namespace Go.Abs
open Go Go.RowKit
open Enc (enc)
def kq(w:World):aD:=fun b _=>b<w.heap.size
structure qz (P:Program) (t:TypeId) (α:Type) [Enc α]:Prop where
 cells:P.cellsOf t=Enc.sz α
 BJ:0<Enc.sz α
 su:∀ {H:Type} {enc0:TypeId×Value→H} {w:World} {fuel:Nat} {cs:List Value} {x:DataW H×List MemPlace},DataW.trod enc0 P w 0 (fun _=>true) true fuel t cs=some x→∃ a:α,ae w (kq w) cd (enc a) cs
theorem Vo{P:Program}{t:TypeId}(ht:P.underlying t=some (.int .i64))(hc:P.cellsOf t=1):qz P t Int :=
 ⟨hc,by decide,fun h=>by
  obtain ⟨n,rfl,_,hw⟩:=DataW.trod_int ht h;refine ⟨n,?_⟩;rw[qY,ae];simp only[Lit.wf,Z0,decide_eq_true_eq] at hw;exact ⟨rfl,hw.1,hw.2⟩⟩
end Go.Abs
namespace Go.Abs
open Go Go.RowKit Go.ChangeShapes
open Enc (enc)
def rK(P:Program)(t:TypeId)(l:List (TypeId×Nat)):Bool:=match P.underlying t with
 |some (.struct fs)=>fs.toList.map (fun f=>(f.type,f.offset))==l
 |_=>false
def Aw(P:Program)(t:TypeId)(n:Nat)(e:TypeId):Bool:=match P.underlying t with
 |some (.array n' e')=>n'==n&&e'==e
 |_=>false
theorem Th{P:Program}{t:TypeId}{n:Nat}{e:TypeId}(h:Aw P t n e=true):P.underlying t=some (.array n e):=by
 unfold Aw at h;split at h
 ·rename_i n' e' ht;simp only[Z0,beq_iff_eq] at h;rw[ht,h.1,h.2]
 ·cases h
theorem Tj{P:Program}{t:TypeId}{l:List (TypeId×Nat)}(h:rK P t l=true):∃ fs,P.underlying t=some (.struct fs)∧fs.toList.map (fun f=>(f.type,f.offset))=l:=by
 unfold rK at h;split at h
 ·rename_i fs ht;exact ⟨fs,ht,by simpa using h⟩
 ·cases h
theorem Vx{H:Type}{enc0:TypeId×Value→H}{P:Program}{f:Func}{s:ChangeSpec}{apart ju handsOn again:Bool}{W W':World}{args:Array Value}{v:Value}{ds gs:List (DataW H)}{before pa pv:List MemPlace}
  (hW:DataW.Whole enc0 P f.params.toList s.vars apart W args.toList ds gs before)
  (hres:∀ (b:Nat) (sp:Nat→Bool) (hd:Bool),DataW.TrodAll enc0 P W' b sp hd f.resultTypes.toList (v.resultList f.resultTypes.size) (s.fn H (ds++gs)).results [])
  (hargs:∀ sp:Nat→Bool,(∀ p∈before,sp p.block=true)→DataW.TrodAll enc0 P W' 0 sp true f.params.toList args.toList (s.fn H (ds++gs)).args pa)
  (hvars:∀ sp:Nat→Bool,(∀ p∈before,sp p.block=true)→DataW.TrodVars enc0 P W' sp s.vars (s.fn H (ds++gs)).vars pv)
  (hps:before=pa++pv) (hb:Below W.heap.size W W')
  (hok:∀ (j:Nat) (t:TypeId) (r:Value),f.resultTypes[j]?=some t→(v.resultList f.resultTypes.size)[j]?=some r→Value.okWide P W' .any 0 t r) :
  s.post enc0 P f apart ju handsOn again W args v W':=by
 have hlt:∀ p∈before,p.block<W.heap.size:=fun p hp=>by simpa using hW.lt p hp
 have hold:∀ p∈before,(fun b=>decide (b<W.heap.size)) p.block=true:=fun p hp=>by simpa using hlt p hp
 refine ⟨ds,gs,before,[],pa,pv,hW,hres _ _ _,hargs _ hold,hvars _ hold,World.keptBut_mono (fun p hp=>⟨hp,?_⟩) (hb.frame (· ∈ before)),fun _ =>?_⟩
 ·rw[hps,zz2] at hp;exact Or.inr hp
 ·obtain ⟨_,_,_,_,_,hz,hn⟩:=hW;refine ⟨hok,_,_,([]++pa)++pv,⟨[]++pa,pv,trodAll_append (hargs _ (fun _ _=>rfl)) (hres _ _ _),hvars _ (fun _ _=>rfl),rfl,?_,?_⟩,?_⟩
  ·intro b off hp;have hp':MemPlace.cell b off∈before:=by rw[hps];simpa using hp
   rw[hb.frozen (p:=⟨b,off,none⟩) (hlt _ hp')];exact hz b off hp'
  ·intro ha;have:=hn ha;rw[hps] at this;simpa using this
  ·intro p hp _;rw[hps];simpa using hp
def EX(P:Program)(u:TypeId)(n:Nat)(S:I→Prop):Prop:=P.cellsOf u=n ∧
 ∀ {H:Type} {enc0:TypeId×Value→H} {w:World} {fuel:Nat} {cs:List Value} {x:DataW H×List MemPlace},DataW.trod enc0 P w 0 (fun _=>true) true fuel u cs=some x→∃ v,S v∧ae w (kq w) cd v cs
def Vb(P:Program):Nat→List (TypeId×Nat)→List (Nat×(I→Prop))→Prop
 |_,[],[]=>True
 |o,(u,off)::l,(n,S)::Ss=>off=o∧EX P u n S∧Vb P (o+n) l Ss
 |_,_,_=>False
def ni:List (Nat×(I→Prop))→List I→Prop
 | [],[]=>True
 |(_,S)::Ss,v::vs=>S v∧ni Ss vs
 |_,_=>False
theorem jP{n:Nat}{S:I→Prop}{Ss:List (Nat×(I→Prop))} : ∀ {vs:List I},ni ((n,S)::Ss) vs→∃ v vs',vs=v::vs'∧S v∧ni Ss vs'
 | [],h=>h.elim
 |v::vs,h=>⟨v,vs,rfl,h.1,h.2⟩
theorem tC:∀ {vs:List I},ni [] vs→vs=[]
 | [],_=>rfl
 |_::_,h=>h.elim
def qi:List (Nat×(I→Prop))→Nat
 | []=>0
 |(n,_)::Ss=>n+qi Ss
structure jN (P:Program) (t:TypeId) (α:Type) [Enc α] (B:α→Prop):Prop where
 cells:P.cellsOf t=Enc.sz α
 BJ:0<Enc.sz α
 su:∀ {H:Type} {enc0:TypeId×Value→H} {w:World} {fuel:Nat} {cs:List Value} {x:DataW H×List MemPlace},DataW.trod enc0 P w 0 (fun _=>true) true fuel t cs=some x→(∀ k∈x.1.weights P t,k≤reachBytes)→∃ a:α,B a∧ae w (kq w) cd (enc a) cs
theorem qz.Vm{P:Program}{t:TypeId}{α:Type}[Enc α](h:qz P t α):jN P t α fun _=>True:=⟨h.cells,h.BJ,fun hx _=>by
 obtain ⟨a,ha⟩:=h.su hx;exact ⟨a,trivial,ha⟩⟩
theorem WM{H:Type}{enc0:TypeId×Value→H}{P:Program}{w:World}{fuel:Nat}{t:TypeId}{l:List (TypeId×Nat)}{cs:List Value}{x:DataW H×List MemPlace}(ht:rK P t l=true)(h:DataW.trod enc0 P w 0 (fun _=>true) true fuel t cs=some x)(hwt:∀ k∈x.1.weights P t,k≤reachBytes) :
  cs.length=P.cellsOf t∧∃ m:Nat,∀ (i:Nat) (u:TypeId) (o:Nat),l[i]?=some (u,o)→∃ y,DataW.trod enc0 P w 0 (fun _=>true) true m u ((cs.drop o).take (P.cellsOf u))=some y∧∀ k∈y.1.weights P u,k≤reachBytes:=by
 obtain ⟨fs,h1,h2⟩:=Tj ht;obtain ⟨xs,m,_,hx,h3,h4,h5⟩:=DataW.trod_struct h1 h;refine ⟨h3,m,fun i u o hi =>?_⟩;rw[←h2] at hi;simp only[Y9,t7,Prod.mk.injEq] at hi;obtain ⟨f,hf,rfl,rfl⟩:=hi;have hf':fs[i]?=some f:=by simpa using hf
 have h6:=h5 i f hf';have hlt:i<fs.size:=(Y1.1 hf').1;rw[Y6 (by omega)] at h6;refine ⟨_,h6,fun k hk=>hwt k ?_⟩;rw[hx];simp only[DataW.weights,h1];refine DataW.weights_mem_each (j:=i) ?_ ?_ k hk
 ·rw[Y9,hf];rfl
 ·rw[Y9,Y6 (by omega)];rfl
theorem BA{P:Program}{t:TypeId}{α:Type}[Enc α]{B:α→Prop}{H:Type}{enc0:TypeId×Value→H}{w:World}{dQ:Nat}{v:Value}{d:DataW H}{p:List MemPlace}(ho:jN P t α B)(hA:Enc.gf α=true)(hst:(match P.underlying t with | some (.struct _) | some (.array _ _)=>true | _=>false)=true)(hv:Value.okWide P w .any dQ t v)
  (h:DataW.Trod enc0 P w 0 (fun _=>true) true t v d p) (hwt:∀ k∈d.weights P t,k≤reachBytes):∃ (a:α),B a∧∃ (cs:List Value),aW (enc a) v cs∧ae w (kq w) cd (enc a) cs:=by
 obtain ⟨fuel,h⟩:=h;have hagg:∃ cs,v=.agg cs:=by
  unfold Value.okWide at hv;split at hst
  ·rename_i fs ht;rw[ht] at hv;obtain ⟨cs,h1,_⟩:=hv;exact ⟨cs,h1⟩
  ·rename_i n e ht;rw[ht] at hv;obtain ⟨cs,h1,_⟩:=hv;exact ⟨cs,h1⟩
  ·cases hst
 obtain ⟨cs,rfl⟩:=hagg;have e:(Value.agg cs).cells.toList=cs.toList:=rfl;rw[e] at h;obtain ⟨a,hB,ha⟩:=ho.su h hwt;exact ⟨a,hB,cs.toList,by simp[aW,Enc.agg,hA],ha⟩
theorem TA{P:Program}{f:FuncId}{fn:Func}{s:ChangeSpec}{H:Type}{enc0:TypeId×Value→H}{W:World}{ds gs:List (DataW H)}{before:List MemPlace}{xs:List I}{tb:TypeId}{v0 v1:Value}{t0 t1:TypeId}{d0 d1:DataW H}{p0 p1:List MemPlace}{again handsOn ju:Bool}
  (hl:laidOutB P=true) (hpar:fn.params.toList=[t0,t1]) (hds:ds=[d0,d1]) (hgs:gs=[]) (hbef:before=p0++p1)
  (hvars:s.vars=[]) (hfn:s.fn H [d0,d1] = { results:=[.lit (.bool true)],args:=[d0,d1] }) (hres:fn.resultTypes = #[tb]) (htb:P.underlying tb=some .bool)
  (hW:DataW.Whole enc0 P fn.params.toList s.vars false W #[v0,v1].toList ds gs before)
  (h0:DataW.Trod enc0 P W 0 (fun _=>true) true t0 v0 d0 p0) (h1:DataW.Trod enc0 P W 0 (fun _=>true) true t1 v1 d1 p1)
  (hr:∀ t∈[t0,t1],P.readableRec t=true∧t<P.types.size)
  (hctr:aR P f xs (enc true)) (hlaid:ev P W (fun _=>False)) (hv:al W (kq W) cd xs [v0,v1]) :
  Calls P f #[v0,v1] W fun e W'=>∃ v,e=.returned v∧s.post enc0 P fn false ju handsOn again W #[v0,v1] v W':=by
 subst hds hgs;refine (hctr.2 W (kq W) [v0,v1] hlaid (fun _ _ h=>h) hv).mono fun e W' ⟨v,D',he,hrv,hb,_,_⟩=>⟨v,he,?_⟩
 have hvb:v=.bool true:=ka hrv;subst hvb;have hlt:∀ x∈before,x.block<W.heap.size:=fun x hx=>by simpa using hW.lt x hx
 rw[hbef] at hlt;refine Vx (pa:=p0++(p1++[])) (pv:=[]) hW (fun _ _ _ =>?_) (fun sp hsp =>?_) (fun _ _ =>?_) (by rw[hbef];simp) hb ?_
 ·simp only[List.append_nil,hfn,hres];exact trodAll_mk1 (shut_bool htb true)
 ·simp only[List.append_nil,hfn,hpar];rw[hbef] at hsp;have aV:∀ {t:TypeId} {v:Value} {d:DataW H} {p:List MemPlace},t∈[t0,t1]→DataW.Trod enc0 P W 0 (fun _=>true) true t v d p→(∀ x∈p,x∈p0++p1)→DataW.Trod enc0 P W' 0 sp true t v d p:=fun ht h hp =>
   WideElems.Trod_stays hl (hr _ ht).1 (hr _ ht).2 h (fun x hx=>hb.same (hlt x (hp x hx))) (fun x hx=>hsp x (hp x hx))
  exact trodAll_mk2 (aV (by simp) h0 fun x hx=>by simp[hx]) (aV (by simp) h1 fun x hx=>by simp[hx])
 ·simp only[List.append_nil,hfn,hvars];rfl
 ·intro j t r hj hv';rw[hres] at hj hv'
  match j,hj,hv' with
  |0,hj,hv' =>
   simp[Value.resultList] at hj hv';subst hj;subst hv';simp[Value.okWide,htb,Cell.okWide,Cell.ok]
end Go.Abs
