/-
  A part of the proof that the law RollSums returns true for every input; five variables of Go's library start as the text lays them (the card ties them); conditions: none beyond the statement's own. (part 3 of 6)
-/
import Derived.Test.YtoffnnjbplgnaaaGreatDoorChecked
import Derived.KernelRfl
import Derived.RangeFuncIn
import Derived.Laws.Externs
import Derived.RecoverIn
import Derived.Test.YtoffnnjbplgnaaaGreatDoorNfb
set_option linter.unusedSimpArgs false
set_option linter.unusedVariables false
set_option maxHeartbeats 16000000
set_option maxRecDepth 100000
namespace Go.Abs
open Go Go.RowKit
def bK(ts:List (Nat×I)):List (Nat×I)→Prop
 | []=>True
 |(k,v)::r=>bM ts k=v∧bK ts r
def bO(os:List (Nat×ai)):List (Nat×ai)→Prop
 | []=>True
 |(k,v)::r=>aA os k=some v∧bO os r
def bG(p:Nat→Bool):List (Nat×I)→Prop
 | []=>True
 |(_,v)::r=>v.only p=true∧bG p r
theorem xz{ts:List (Nat×I)} : ∀ {ts':List (Nat×I)},bK ts ts'→∀ k,bM ts' k=.cY∨bM ts' k=bM ts k
 | [],_,k=>.inl rfl
 |(j,v)::r,h,k=>by
  simp only[bK] at h;simp only[bM];split
  ·rename_i hk;subst hk;exact .inr h.1.symm
  ·exact xz h.2 k
theorem Fl{os:List (Nat×ai)} : ∀ {os':List (Nat×ai)},bO os os'→∀ k,aA os' k=none∨aA os' k=aA os k
 | [],_,k=>.inl rfl
 |(j,v)::r,h,k=>by
  simp only[bO] at h;simp only[aA];split
  ·rename_i hk;subst hk;exact .inr h.1.symm
  ·exact Fl h.2 k
theorem wv{p:Nat→Bool} : ∀ {ts:List (Nat×I)},bG p ts→∀ k,(bM ts k).only p=true
 | [],_,k=>by simp[bM,I.only]
 |(j,v)::r,h,k=>by
  simp only[bG] at h;simp only[bM];split
  ·exact h.1
  ·exact wv h.2 k
theorem CG{p:Nat→Bool} : ∀ {os:List (Nat×ai)},bE p os→∀ k x,aA os k=some x→x.only p=true
 | [],_,k,x,hx=>by simp[aA] at hx
 |(j,v)::r,h,k,x,hx=>by
  simp only[bE] at h;simp only[aA] at hx;split at hx
  ·simp only[v6] at hx;subst hx;exact h.1
  ·exact CG h.2 k x hx
theorem bg.bZ{ts ts':List (Nat×I)}{os os':List (Nat×ai)}(h1:bK ts ts')(h2:bO os os')(h3:bG (ao os') ts')(h4:bE (ao os') os'):bg (aq ts os) (aq ts' os'):=by
 rintro c a w ⟨D,E,hs⟩;have hp:∀ n,ao os' n=true→(if ao os' n then E n else none)=E n:=fun n hn=>by simp[hn]
 refine ⟨D,fun n=>if ao os' n then E n else none,hs.sz,hs.dT,fun t =>?_,hs.db,hs.cH,hs.cN,fun n =>?_,fun n m e e' b h1 h2 h3 h4 =>?_,fun n e hn =>?_,hs.ee,hs.cz,hs.eF,hs.fe⟩
 ·have:=xz h1 t;rcases this with h | h
  ·simp only[aq];rw[h];simp[aR]
  ·refine aR.dE (p:=ao os') hp (wv h3 t) ?_;have:=hs.dv t;simp only[aq] at *;rw[h];exact this
 ·have ho:=hs.bB n;simp only[aq] at *;rcases Fl h2 n with h | h
  ·rw[h];simp[cJ,ao,h]
  ·rw[h];by_cases hin:aA os n=none
   ·rw[hin];simp[cJ,ao,h,hin]
   ·have ak:(if ao os' n then E n else none)=E n:=hp n (by simp[ao,h];cases hh:aA os n <;>simp_all);cases hx:aA os n with
    |none=>exact absurd hx hin
    |some x =>
     have hon:=CG h4 n x (h.trans hx);rw[hx] at ho;cases x with
     |box x =>
      obtain ⟨b,cs,T,k1,k2,k3,k4,k5⟩:=ho;exact ⟨b,cs,T,ak.trans k1,k2,k3,ae.dE hp _ _ (by simpa[ai.only] using hon) k4,k5⟩
     |bH T sz es =>
      obtain ⟨aB,k1,k2,k3⟩:=ho;refine ⟨aB,ak.trans k1,k2,?_⟩;cases aB with
      |none=>exact k3
      |some bc =>
       obtain ⟨b,cap⟩:=bc;obtain ⟨cs,pre,rest,q1,q2,q3,q4,q5⟩:=k3;exact ⟨cs,pre,rest,q1,q2,q3,aC.dE hp _ _ (by simpa[ai.only] using hon) q4,q5⟩
     |dK T xs =>
      obtain ⟨aB,k1,k2,k3⟩:=ho;exact ⟨aB,ak.trans k1,k2,k3⟩
     |da x =>
      obtain ⟨b,k1,k2⟩:=ho;exact ⟨b,ak.trans k1,k2⟩
     |cm ks vs =>
      obtain ⟨b,es,ck,k1,k2,k3,k4,k5,k6,k7⟩:=ho;simp only[ai.only,Z0] at hon;exact ⟨b,es,ck,ak.trans k1,k2,k3,k4,al.dE hp _ _ hon.1 k5,al.dE hp _ _ hon.2 k6,k7⟩
     |it ks vs left cur =>
      obtain ⟨r,b,es,ck,dJ,se,la,k1,k2,k3,k4,k5,k6,k7⟩:=ho;simp only[ai.only,Z0] at hon;exact ⟨r,b,es,ck,dJ,se,la,ak.trans k1,k2,k3,k4,al.dE hp _ _ hon.1 k5,al.dE hp _ _ hon.2 k6,k7⟩
 ·refine hs.cw n m e e' b ?_ ?_ h3 h4
  ·split at h1
   ·exact h1
   ·cases h1
  ·split at h2
   ·exact h2
   ·cases h2
 ·by_cases hi:ao os' n=true
  ·simp only[hi,if_true];exact hs.dp n e hn
  ·simp only[hi];exact .inl rfl
def bF:Nat→List I→List (Nat×I)
 |_,[]=>[]
 |k,a::aS9=>(k,a)::bF (k+1) aS9
theorem Ca:∀ (aS9:List I) (k t:Nat),bM (bF k aS9) t=if t<k then .cY else (aS9[t-k]?).getD .cY
 | [],k,t=>by simp[bF,bM]
 |a::aS9,k,t=>by
  simp only[bF,bM,Ca aS9 (k+1) t];by_cases h:t=k
  ·subst h;simp
  ·rw[if_neg h];by_cases h2:t<k
   ·rw[if_pos (by omega),if_pos h2]
   ·rw[if_neg (by omega),if_neg h2,show t-k=(t-(k+1))+1 from by omega];simp
theorem tK(args:List I)(os:List (Nat×ai)):bg (nO args os) (aq (bF 0 args) os):=by
 rintro c a w ⟨D,E,hs⟩;refine ⟨D,E,hs.sz,hs.dT,fun t =>?_,hs.db,hs.cH,hs.cN,hs.bB,hs.cw,hs.dp,hs.ee,hs.cz,hs.eF,hs.fe⟩;have:=hs.dv t;simp only[aq,Ca,nO,Nat.not_lt_zero,if_false,Nat.sub_zero] at *;cases h:args[t]? with
 |none=>simp[aR]
 |some x=>simpa[zz5,h] using this
theorem Zq(args:List I):bg (nN args) (aq (bF 0 args) []):=tK args []
theorem v8(ts:List (Nat×I))(os:List (Nat×ai))(d:Nat)(v:I):(aq ts os).put d v=aq ((d,v)::ts) os:=rfl
theorem Ch(ts:List (Nat×I))(os:List (Nat×ai))(d:Nat)(v:I):(aq ts os).aP (some d) v=aq ((d,v)::ts) os:=rfl
theorem WN(A:ab)(v:I):A.aP none v=A:=rfl
theorem sJ(ts:List (Nat×I))(os:List (Nat×ai))(d:Nat)(x:ai):(aq ts os).aQ d x=aq ts ((d,x)::os):=rfl
theorem WO(ts:List (Nat×I))(os:List (Nat×ai))(k:Nat):(aq ts os).t k=bM ts k:=rfl
theorem WM(ts:List (Nat×I))(os:List (Nat×ai))(k:Nat):(aq ts os).o k=aA os k:=rfl
theorem bN(j:Nat)(v:I)(r:List (Nat×I))(k:Nat):bM ((j,v)::r) k=if k=j then v else bM r k:=rfl
theorem cI(j:Nat)(v:ai)(r:List (Nat×ai))(k:Nat):aA ((j,v)::r) k=if k=j then some v else aA r k:=rfl
theorem WC(k:Nat):aA [] k=none:=rfl
theorem Mp(A:ab)(k:Nat):af A (.t k)=A.t k:=rfl
theorem Mo(A:ab)(x:I):af A (.c x)=x:=rfl
noncomputable def cF(d:Option Nat)(rest:List ay)(A:ab)(v:I):cg:=ar rest (A.aP d v)
theorem V8(d:Option Nat)(rest:List ay)(A:ab)(v:I):cF d rest A v=ar rest (A.aP d v):=rfl
theorem Ht(v:I)(k:I→cg):cq (some v) k=k v:=rfl
theorem GK(A:ab):ar [] A=.done A:=rfl
noncomputable def bo(A:ab)(d:Option Nat)(op:bw)(rest:List ay):cg:=aW A d op rest (ar rest)
noncomputable def gu(x:I)(b:Bool)(d:Option Nat)(op:bw)(rest:List ay)(A:ab):cg :=
 match x with
 | .bool b'=>if b'=b then bo A d op rest else ar rest (A.aP d .undef)
 | .undef=>ar rest (A.aP d .undef)
 |_=>.fail
theorem aY.guard{P:Program}{Y:Value→List I→List (Nat×ai)→cj→Prop}{dr:Bool}{K:ab→Prop}{x b:Bool}{d:Option Nat}{op:bw}{rest:List ay}{A:ab}(h1:x=b→aY P Y dr K (bo A d op rest))(h2:x = !b→aY P Y dr K (ar rest (A.aP d .undef))):aY P Y dr K (gu (.bool x) b d op rest A):=by
 unfold gu;by_cases h:x=b
 ·simp only[if_pos h];exact h1 h
 ·simp only[if_neg h];exact h2 (by cases x <;>cases b <;>simp_all)
def I.dc:I→Option (List I)
 | .agg fs=>some fs
 |_=>none
def nZ(p:List Nat):Option I→Option I
 |some f=>f.at p
 |none=>none
def lh(i:Nat)(p:List Nat):Option (List I)→Option I
 |some fs=>nZ p fs[i]?
 |none=>none
theorem pL(c:I):c.at []=some c:=by cases c <;>rfl
theorem G2(c:I)(i:Nat)(p:List Nat):c.at (i::p)=lh i p c.dc:=by
 cases c <;>first | rfl | (rename_i fs;simp only[I.at,lh,I.dc,nZ])
def qU(fs:List I)(i:Nat)(p:List Nat)(v:I):Option I→I
 |some f=>.agg (fs.set i (f.du p v))
 |none=>.agg fs
def pd(c:I)(i:Nat)(p:List Nat)(v:I):Option (List I)→I
 |some fs=>qU fs i p v fs[i]?
 |none=>c
theorem fM(c v:I):c.du [] v=v:=by cases c <;>rfl
theorem xd(c:I)(i:Nat)(p:List Nat)(v:I):c.du (i::p) v=pd c i p v c.dc:=by
 cases c <;>first | rfl | (rename_i fs;simp only[I.du,pd,I.dc];cases fs[i]? <;>rfl)
def dF(p:List Nat):Option ai→Option I
 |some (.box c)=>c.at p
 |_=>none
def fO(A:ab):I→Option I
 | .ref x=>some x
 | .ptr n p=>dF p (A.o n)
 |_=>none
theorem jN(A:ab)(x:I):bW A x=fO A x:=by
 cases x <;>first | rfl | (rename_i n p;simp only[bW,fO];cases A.o n with | none=>rfl | some y=>cases y <;>rfl)
def mn(s:Option Nat)(x:I):Option I:=if b6 s x=true then some x else none
def fU(s:Option Nat):Option I→Option I
 |some x=>mn s x
 |none=>none
open Classical in
noncomputable def gf(fs:List I)(f off:Nat)(y:I):Option I:=if f<fs.length∧I.sizes (fs.take f)=off then some y else none
noncomputable def pY(n:Nat)(p:List Nat)(f off:Nat):Option (List I)→Option I
 |some fs=>gf fs f off (.ptr n (p++[f]))
 |none=>none
noncomputable def pX(fs:List I)(f off:Nat):Option I→Option I
 |some v=>gf fs f off (.ref v)
 |none=>none
noncomputable def rX(f off:Nat):Option (List I)→Option I
 |some fs=>pX fs f off fs[f]?
 |none=>none
def ev:Option I→Option (List I)
 |some x=>x.dc
 |none=>none
noncomputable def mb(A:ab)(f off:Nat):I→Option I
 | .ref c=>rX f off c.dc
 | .ptr n p=>pY n p f off (ev (dF p (A.o n)))
 |_=>none
theorem Yd(A:ab)(f off:Nat)(x:az):aV A (.fa f off x)=mb A f off (af A x):=by
 simp only[aV];generalize af A x=y;cases y with
 |ref c =>
  cases c <;>simp only[mb,I.dc,rX]
  rename_i fs;cases h:fs[f]? with
  |none=>simp[pX]
  |some v =>
   have hl:f<fs.length:=(Z7.1 h).1;simp only[pX,gf,hl,true_and]

 |ptr n p =>
  simp only[mb,jN,fO];cases dF p (A.o n) with
  |none=>simp[ev,pY]
  |some c =>
   cases c <;>simp only[ev,I.dc,pY]
   simp only[gf]

 |_=>simp only[mb]
noncomputable def rZ(f off:Nat)(s:Option Nat):Option (List I)→Option I
 |some fs=>match fs[f]? with
  |some v=>(gf fs f off v).bind (mn s)
  |none=>none
 |none=>none
theorem Ye(A:ab)(f off:Nat)(s:Option Nat)(x:az):aV A (.fl f off s x)=rZ f off s (af A x).dc:=by
 simp only[aV];generalize af A x=y;cases y <;>simp only[rZ,I.dc]
 rename_i fs;cases h:fs[f]? with
 |none=>rfl
 |some v =>
  have hl:f<fs.length:=(Z7.1 h).1;simp only[gf,hl,true_and];by_cases h1:I.sizes (fs.take f)=off <;>by_cases h2:b6 s v=true <;>simp[h1,h2,mn]
open Classical in
noncomputable def ig(k:Int)(n:Nat)(y:Option I):Option I:=if 0≤k∧k<n then y else none
noncomputable def iH(n esz:Nat)(fs:List I)(y:Option I):Option I:=if gD n esz fs=true then y else none
noncomputable def oE(n esz:Nat)(k:Int):Option (List I)→Option I
 |some fs=>iH n esz fs ((fs[k.toNat]?).map .ref)
 |none=>none
noncomputable def oD(n esz m:Nat)(p:List Nat)(k:Int):Option (List I)→Option I
 |some fs=>iH n esz fs (some (.ptr m (p++[k.toNat])))
 |none=>none
noncomputable def ja(A:ab)(n esz:Nat)(k:Int):I→Option I
 | .ref c=>ig k n (oE n esz k c.dc)
 | .ptr m p=>ig k n (oD n esz m p k (ev (dF p (A.o m))))
 |_=>none
noncomputable def qc(A:ab)(n esz:Nat)(x:I):I→Option I
 | .int _ k=>ja A n esz k x
 |_=>none
theorem Yf(A:ab)(n esz:Nat)(x i:az):aV A (.ia n esz x i)=qc A n esz (af A x) (af A i):=by
 simp only[aV];generalize af A x=y;generalize af A i=z;cases z <;>simp only[qc]
 rename_i kk k;cases y with
 |ref c =>
  simp only[ja,ig];split
  ·cases c <;>simp only[I.dc,oE,iH]
  ·rfl
 |ptr m p =>
  simp only[ja,ig,jN,fO];split
  ·cases dF p (A.o m) with
   |none=>simp[ev,oD]
   |some c=>cases c <;>simp only[ev,I.dc,oD,iH]
  ·rfl
 |_=>simp only[ja];split <;>rfl
open Classical in
noncomputable def mV(m:Nat)(p:List Nat)(sz lo l esz:Nat)(k:Int):Option (List I)→Option I
 |some _=>if sz=esz∧0≤k∧k<l then some (.ptr m (p++[lo+k.toNat])) else none
 |none=>none
open Classical in
noncomputable def jb(A:ab)(esz:Nat)(k:Int):I→Option I
 | .slice sz es=>if sz=esz∧0≤k∧k<es.length then (es[k.toNat]?).map .ref else none
 | .own m l=>match A.o m with
  |some (.bH _ sz es)=>if l=es.length∧sz=esz∧0≤k∧k<es.length then (es[k.toNat]?).map .ref else none
  |_=>none
 | .view m p sz lo l=>mV m p sz lo l esz k (ev (dF p (A.o m)))
 |_=>none
noncomputable def qf(A:ab)(esz:Nat)(x:I):I→Option I
 | .int _ k=>jb A esz k x
 |_=>none
theorem Yg(A:ab)(esz:Nat)(x i:az):aV A (.is esz x i)=qf A esz (af A x) (af A i):=by
 simp only[aV];generalize af A x=y;generalize af A i=z;cases z <;>simp only[qf]
 cases y <;>simp only[jb]
 ·split <;>simp_all
 ·rename_i m p sz lo l;simp only[jN,fO];cases dF p (A.o m) with
  |none=>rfl
  |some c=>cases c <;>simp only[ev,I.dc,mV]
noncomputable def mW(n esz:Nat)(s:Option Nat)(k:Int):Option (List I)→Option I
 |some fs=>ig k n (iH n esz fs (fU s fs[k.toNat]?))
 |none=>none
noncomputable def qi(n esz:Nat)(s:Option Nat)(x:I):I→Option I
 | .int _ k=>mW n esz s k x.dc
 |_=>none
theorem Yh(A:ab)(n esz:Nat)(s:Option Nat)(x i:az):aV A (.ix n esz s x i)=qi n esz s (af A x) (af A i):=by
 simp only[aV];generalize af A x=y;generalize af A i=z;cases z <;>simp only[qi]
 rename_i kk k;cases y <;>simp only[I.dc,mW]
 case agg fs =>
  simp only[ig,iH];split
  ·split
   ·cases fs[k.toNat]? <;>rfl
   ·rfl
  ·rfl
 all_goals (split <;>rfl)
def jV(A:ab):I→Option I
 | .slice _ es=>some (.int .i64 es.length)
 | .nils _=>some (.int .i64 0)
 | .c0 _=>some (.int .i64 0)
 | .own m l=>match A.o m with | some (.bH _ _ es)=>if l=es.length then some (.int .i64 es.length) else none | _=>none
 | .view _ _ _ _ k=>some (.int .i64 k)
 |_=>none
theorem Yj(A:ab)(x:az):aV A (.len x)=jV A (af A x):=by
 simp only[aV];generalize af A x=y;cases y <;>rfl
open Classical in
noncomputable def rf(n esz:Nat)(fs:List I)(y:I):Option I:=if gD n esz fs=true∧n≤maxLen∧n≠0 then some y else none
noncomputable def rh(n esz m:Nat)(p:List Nat):Option (List I)→Option I
 |some fs=>rf n esz fs (.view m p esz 0 n)
 |none=>none
noncomputable def Fy(n esz:Nat):Option (List I)→Option I
 |some fs=>rf n esz fs (.slice esz fs)
 |none=>none
noncomputable def nR(A:ab)(n esz:Nat):I→Option I
 | .ptr m p=>rh n esz m p (ev (dF p (A.o m)))
 | .ref c=>Fy n esz c.dc
 |_=>none
theorem Yk(A:ab)(n esz:Nat)(x:az):aV A (.va n esz x)=nR A n esz (af A x):=by
 simp only[aV];generalize af A x=y;cases y with
 |ptr m p =>
  simp only[nR,jN,fO];cases dF p (A.o m) with
  |none=>simp[ev,rh]
  |some c=>cases c <;>simp only[ev,I.dc,rh,rf] <;>(split <;>simp_all)
 |ref c=>cases c <;>simp only[nR,I.dc,Fy,rf] <;>(split <;>simp_all)
 |_=>simp only[nR]
theorem Yi(A:ab)(s:Option Nat)(x:az):aV A (.ld s x)=fU s (fO A (af A x)):=by
 simp only[aV,jN];cases fO A (af A x) <;>simp only[fU,mn]
noncomputable def qF(A:ab)(d:Option Nat)(a b:az)(rest:List ay):I→cg
 | .bool t=>ar rest (A.aP d (if t then af A a else af A b))
 |_=>.fail
noncomputable def re(op:UnOp)(x:I):Option I:=match op,x with
  | .not,.bool b=>some (.bool !b)
  | .neg,.int k n=>some (.int k (k.wrap (0-n)))
  | .xor,.int k n=>some (.int k (oe k n))
  |_,_=>none
def vd(i:Nat):I→Option I
 | .tuple fs=>fs[i]?
 |_=>none
def uU(k:IntKind):I→Option I
 | .int _ n=>some (.int k (k.wrap n))
 |_=>none
noncomputable def uq(A:ab)(d:Nat)(z:I)(rest:List ay):Option ai→cg
 |none=>ar rest ((A.aQ d (.box z)).put d (.ptr d []))
 |some _=>.fail
noncomputable def rI(A:ab)(d:Nat)(z:I)(rest:List ay)(v:Bool):cg:=if v=true then ar rest ((A.aQ d (.box z)).put d (.ptr d [])) else .fail
noncomputable def rH(A:ab)(d:Nat)(z:I)(rest:List ay):Option ai→cg
 |none=>rI A d z rest z.cC
 |some _=>.fail
open Classical in
noncomputable def dW(A:ab)(s:Option Nat)(n:Nat)(p:List Nat)(b v:I)(rest:List ay):Option I→cg
 |some old=>if wu s v old then ar rest (A.aQ n (.box (b.du p v))) else .fail
 |none=>.fail
noncomputable def tJ(A:ab)(s:Option Nat)(n:Nat)(p:List Nat)(v:I)(rest:List ay):Option ai→cg
 |some (.box b)=>dW A s n p b v rest (b.at p)
 |_=>.fail
noncomputable def tI(A:ab)(s:Option Nat)(v:I)(rest:List ay):I→cg
 | .ptr n p=>tJ A s n p v rest (A.o n)
 |_=>.fail
noncomputable def pQ(A:ab)(d:Option Nat)(args:List I)(rest:List ay):I→cg
 | .func f caps=>.call (kv f) (gR f args caps) (bJ true A (gR f args caps)) (bJ false A (gR f args caps)) d rest A
 | .raw v=>.lu v args d rest A
 |_=>.fail
section
variable (d:Option Nat) (rest:List ay) (A:ab)
theorem Gu(op:bw):ar (⟨d,op,none⟩::rest) A=bo A d op rest:=rfl
theorem Gv(op:bw)(t:Nat)(b:Bool):ar (⟨d,op,some (t,b)⟩::rest) A=gu (A.t t) b d op rest A:=rfl
theorem UY(op:bw):gu (.bool true) true d op rest A=bo A d op rest:=by simp[gu]
theorem UU(op:bw):gu (.bool false) false d op rest A=bo A d op rest:=by simp[gu]
theorem UX(op:bw):gu (.bool true) false d op rest A=ar rest (A.aP d .undef):=by simp[gu]
theorem UW(op:bw):gu (.bool false) true d op rest A=ar rest (A.aP d .undef):=by simp[gu]
theorem UZ(op:bw)(b:Bool):gu .undef b d op rest A=ar rest (A.aP d .undef):=rfl
theorem Xx(x:az):bo A d (.mv x) rest=ar rest (A.aP d (af A x)):=rfl
theorem XB(c a b:az):bo A d (.pick c a b) rest=qF A d a b rest (af A c):=by
 simp only[bo,aW,aV];cases af A c <;>simp only[cq,qF]
theorem W8(op:BinOp)(x y:az):bo A d (.bin op x y) rest=cq (bL op (af A x) (af A y)) (cF d rest A):=rfl
theorem Xi(ty:cn)(neg:Bool)(x y:az):bo A d (.eqv ty neg x y) rest=cq ((b9 ty (af A x) (af A y)).map fun b=>.bool (if neg then !b else b)) (cF d rest A):=rfl
theorem XG(op:UnOp)(x:az):bo A d (.un op x) rest=cq (re op (af A x)) (cF d rest A):=rfl
theorem Xg(k:IntKind)(x:az):bo A d (.conv k x) rest=cq (uU k (af A x)) (cF d rest A):=by
 simp only[bo,aW,aV];cases af A x <;>rfl
theorem Xp(s:Option Nat)(x:az):bo A d (.ld s x) rest=cq (fU s (fO A (af A x))) (cF d rest A):=by rw[←Yi];rfl
theorem Xk(f off:Nat)(x:az):bo A d (.fa f off x) rest=cq (mb A f off (af A x)) (cF d rest A):=by rw[←Yd];rfl
theorem Xl(f off:Nat)(s:Option Nat)(x:az):bo A d (.fl f off s x) rest=cq (rZ f off s (af A x).dc) (cF d rest A):=by rw[←Ye];rfl
theorem Xm(n esz:Nat)(x i:az):bo A d (.ia n esz x i) rest=cq (qc A n esz (af A x) (af A i)) (cF d rest A):=by rw[←Yf];rfl
theorem Xn(esz:Nat)(x i:az):bo A d (.is esz x i) rest=cq (qf A esz (af A x) (af A i)) (cF d rest A):=by rw[←Yg];rfl
theorem Xo(n esz:Nat)(s:Option Nat)(x i:az):bo A d (.ix n esz s x i) rest=cq (qi n esz s (af A x) (af A i)) (cF d rest A):=by rw[←Yh];rfl
theorem Xq(x:az):bo A d (.len x) rest=cq (jV A (af A x)) (cF d rest A):=by rw[←Yj];rfl
theorem XH(n esz:Nat)(x:az):bo A d (.va n esz x) rest=cq (nR A n esz (af A x)) (cF d rest A):=by rw[←Yk];rfl
theorem W9(zs:List I)(ps:List (Nat×az)):bo A d (.bld zs ps) rest=cq ((fF zs (ps.map fun p=>(p.1,af A p.2))).map .agg) (cF d rest A):=rfl
theorem Xj(x:az)(i:Nat):bo A d (.ext x i) rest=cq (vd i (af A x)) (cF d rest A):=by
 simp only[bo,aW,aV];cases af A x <;>rfl
theorem Xt(f:FuncId)(caps:List az):bo A d (.mk f caps) rest=cq (if ((caps.map (af A)).all fun y=>y.cC)=true then some (.func f (caps.map (af A))) else none) (cF d rest A):=rfl
theorem W5(d:Nat)(z:I):bo A (some d) (.alloc z) rest=uq A d z rest (A.o d):=by
 simp only[bo,aW];cases A.o d <;>rfl
theorem Xa(d:Nat)(x:az):bo A (some d) (.box x) rest=rH A d (af A x) rest (A.o d):=by
 simp only[bo,aW];cases A.o d <;>simp only[rH,rI]
theorem XF(s:Option Nat)(x v:az):bo A none (.aT s x v) rest=tI A s (af A v) rest (af A x):=by
 simp only[bo,aW];cases af A x <;>simp only[tI]
 rename_i n p;cases A.o n with
 |none=>rfl
 |some y =>
  cases y <;>simp only[tJ]
  rename_i b;cases b.at p <;>simp only[dW]
theorem Xc(f:FuncId)(args:List az):bo A d (.call f args) rest=.call f (args.map (af A)) (bJ true A (args.map (af A))) (bJ false A (args.map (af A))) d rest A:=rfl
theorem Xd(x:az)(args:List az):bo A d (.fA x args) rest=pQ A d (args.map (af A)) rest (af A x):=by
 simp only[bo,aW];cases af A x <;>rfl
end
end Go.Abs
namespace Go.Abs
open Go Go.RowKit
mutual
/-- Closed,and as a result is told: no nil slice but as the empty one. -/
def I.done:I→Bool
 | .agg fs=>I.iY fs
 | .slice _ es=>I.cu es
 | .ref x=>x.bC
 | .func f caps=>decide (f<1000000)&&I.iY caps
 | .iface _ v=>v.bC
 | .c6 ks vs=>I.cu ks&&I.cu vs
 | .bool _ | .int _ _ | .aj _ | .nilp | .de | .cS | .any | .raw _=>true
 |_=>false
def I.iY:List I→Bool
 | []=>true
 |x::xs=>x.done&&I.iY xs
end
mutual
theorem uY:∀ x:I,x.done=true→x.bC=true
 | .agg fs,h=>by simp only[I.done,I.bC] at *;exact uZ fs h
 | .slice _ es,h=>by simpa only[I.done,I.bC] using h
 | .ref x,h=>by simpa only[I.done,I.bC] using h
 | .func _ caps,h=>by simp only[I.done,I.bC,Z0] at *;exact uZ caps h.2
 | .iface _ v,h=>by simpa only[I.done,I.bC] using h
 | .bool _,_ | .int _ _,_ | .aj _,_ | .nilp,_ | .de,_ | .cS,_ | .any,_ | .raw _,_=>by simp[I.bC]
 | .c6 _ _,h=>by simpa only[I.done,I.bC] using h
 | .nils _,h | .c0 _,h | .ptr _ _,h | .own _ _,h | .view _ _ _ _ _,h | .mref _,h | .cX _,h | .undef,h | .cY,h | .tuple _,h=>by simp[I.done] at h
theorem uZ:∀ xs:List I,I.iY xs=true→I.cu xs=true
 | [],_=>rfl
 |x::xs,h=>by
  simp only[I.iY,I.cu,Z0] at *;exact ⟨uY x h.1,uZ xs h.2⟩
end
mutual
theorem AU(aI:Bool)(A:ab):∀ x:I,x.done=true→bd aI A x=some x
 | .agg fs,h=>by simp only[I.done,bd] at *;rw[vn aI A fs h];rfl
 | .slice _ es,h=>by simp only[I.done] at h;simp[bd,h]
 | .ref x,h=>by simp only[I.done] at h;simp[bd,h]
 | .func _ caps,h=>by simp only[I.done,bd,Z0,decide_eq_true_eq] at *;rw[if_pos h.1,vn aI A caps h.2];rfl
 | .iface _ v,h=>by simp only[I.done] at h;simp[bd,h]
 | .bool _,_ | .int _ _,_ | .aj _,_ | .nilp,_ | .de,_ | .cS,_ | .any,_ | .raw _,_=>by simp[bd]
 | .c6 _ _,h=>by simp only[I.done] at h;simp[bd,h]
 | .nils _,h | .c0 _,h | .ptr _ _,h | .own _ _,h | .view _ _ _ _ _,h | .mref _,h | .cX _,h | .undef,h | .cY,h | .tuple _,h=>by simp[I.done] at h
theorem vn(aI:Bool)(A:ab):∀ xs:List I,I.iY xs=true→bJ aI A xs=some xs
 | [],_=>by simp[bJ]
 |x::xs,h=>by
  simp only[I.iY,Z0] at h;simp only[bJ,AU aI A x h.1,vn aI A xs h.2]
end
theorem L8{x:I}(h:x.done=true):x.cC=true:=by cases x <;>simp_all[I.done,I.cC]
class Enc (α:Type) where
 enc:α→I
 sz:Nat
 aL:bR
 gS:Bool
 done:∀ x,(enc x).done=true
 size:∀ x,(enc x).size=sz
 iP:∀ x,(enc x).aL=aL
 agg:∀ x,(enc x).isAgg=gS
open Enc (enc)
instance:Enc Int where
 enc n:=.int .i64 n
 sz:=1
 aL:=.one
 gS:=false
 done _:=rfl
 size _:=by simp[I.size]
 iP _:=by simp[I.aL]
 agg _:=rfl
instance:Enc Bool where
 enc b:=.bool b
 sz:=1
 aL:=.one
 gS:=false
 done _:=rfl
 size _:=by simp[I.size]
 iP _:=by simp[I.aL]
 agg _:=rfl
theorem pS{α:Type}[Enc α](l:List α):I.cu (l.map enc)=true:=by
 induction l with
 |nil=>rfl
 |cons x l ih=>simp only[Z3,I.cu,uY _ (Enc.done x),ih,Bool.and_self]
theorem L9{α:Type}[Enc α](l:List α):I.iY (l.map enc)=true:=by
 induction l with
 |nil=>rfl
 |cons x l ih=>simp only[Z3,I.iY,Enc.done x,ih,Bool.and_self]
theorem Zc{α:Type}[Enc α](l:List α):I.sizes (l.map enc)=l.length*Enc.sz α:=by
 rw[I.gx (sz:=Enc.sz α) _ (by simp only[zy3];rintro x ⟨y,_,rfl⟩;exact Enc.size y)];simp
theorem xi{α:Type}[Enc α](l:List α):I.cK (l.map enc)=List.replicate l.length (Enc.aL α):=by
 induction l with
 |nil=>rfl
 |cons x l ih=>simp only[Z3,I.cK,Enc.iP x,ih,zx1,List.replicate_succ]
instance {α:Type} [Enc α]:Enc (List α) where
 enc l:=.slice (Enc.sz α) (l.map enc)
 sz:=1
 aL:=.one
 gS:=false
 done l:=by simp only[I.done];exact pS l
 size _:=by simp[I.size]
 iP _:=by simp[I.aL]
 agg _:=rfl
structure en (n:Nat) (α:Type) where
 l:List α
 h:l.length=n
instance {n:Nat} {α:Type} [Enc α]:Enc (en n α) where
 enc x:=.agg (x.l.map enc)
 sz:=n*Enc.sz α
 aL:=.eK (List.replicate n (Enc.aL α))
 gS:=true
 done x:=by simp only[I.done];exact L9 x.l
 size x:=by simp only[I.size,Zc,x.h]
 iP x:=by simp only[I.aL,xi,x.h]
 agg _:=rfl
section
variable {α:Type} [Enc α]
theorem js(aI:Bool)(A:ab)(x:α):bd aI A (enc x)=some (enc x):=AU aI A _ (Enc.done x)
theorem kr(x:α):(enc x).bC=true:=uY _ (Enc.done x)
theorem br(p:Nat→Bool)(x:α):(enc x).only p=true:=mq p _ (kr x)
theorem eQ(x:α):(enc x).cC=true:=L8 (Enc.done x)
theorem Mf(x:α):b6 none (enc x) = !(Enc.gS α):=by simp[b6,Enc.agg]
theorem hZ(n:Nat)(x:α):b6 (some n) (enc x)=(Enc.gS α&&Enc.sz α==n):=by simp[b6,Enc.agg,Enc.size]
theorem ma(x:α):(enc x).size=Enc.sz α:=Enc.size x
theorem eJ(x:α):(enc x).aL=Enc.aL α:=Enc.iP x
theorem rU(n:Int):(enc n:I)=.int .i64 n:=rfl
theorem Az(n:Bool):(enc n:I)=.bool n:=rfl
theorem iG(l:List α):(enc l:I)=.slice (Enc.sz α) (l.map enc):=rfl
theorem Mi:Enc.sz (List α)=1:=rfl
theorem vb(n esz:Nat)(l:List α)(h:l.length=n)(h2:Enc.sz α=esz):gD n esz (l.map enc)=true:=by
 simp only[gD,Z2,h,BEq.rfl,Bool.true_and,zy5,zy3];rintro x ⟨y,_,rfl⟩;simp[Enc.size,h2]
theorem GF(l:List α):∀ x∈l.map (enc (α:=α)),x.size=Enc.sz α:=by
 simp only[zy3];rintro x ⟨y,_,rfl⟩;exact Enc.size y
end
theorem dX(n:Int)(h1:-9223372036854775808≤n)(h2:n≤9223372036854775807):IntKind.i64.wrap n=n:=IntWalk.i64_in n ⟨h1,h2⟩
theorem aS.mk{P:Program}{f:FuncId}{fn:Func}{x:bj}{rs:List bz}{args:List I}{r:I}(hf:P.funcs[f]?=some fn)(hcall:dS P f=true)(hc:(fn.body.bind (dR P fn.ntmps))=some x)
  (hrs:gn P fn.results.toList=some rs) (hn:args.length≤fn.ntmps) (h:∀ (w:World) (D:aK) (E:aN),U ⟨P,w,D,fn.ntmps,bX E,E,fQ,none,none⟩ x (j9 rs r) (aq (bF 0 args) [])):aS P f args r:=by
 obtain ⟨body,hb,hc'⟩:=zx6.1 hc;exact aS.sU hf hb hcall hc' hrs hn (fun w D E=>(h w D E).sub (Zq args))
end Go.Abs
namespace Go.Abs.C
open Go Go.Abs
abbrev o(a:Nat)(x:bw):ay:=⟨some a,x,none⟩
abbrev cd(a:Nat)(x:bw)(k:Nat):ay:=⟨some a,x,some (k,true)⟩
abbrev on(a:Nat)(x:bw)(k:Nat):ay:=⟨some a,x,some (k,false)⟩
abbrev p(x:bw):ay:=⟨none,x,none⟩
abbrev aX(n:Int):az:=.c (.int .i64 n)
abbrev T:az:=.c (.bool true)
abbrev bm:az:=.c (.bool false)
abbrev m(a b:Nat):ay:=⟨some a,.mv (.t b),none⟩
abbrev dz(a b k:Nat):ay:=⟨some a,.mv (.t b),some (k,true)⟩
abbrev eT(a b k:Nat):ay:=⟨some a,.mv (.t b),some (k,false)⟩
abbrev bq(a:Nat)(n:Int):ay:=⟨some a,.mv (.c (.int .i64 n)),none⟩
abbrev l(a b:Nat):ay:=⟨some a,.ld none (.t b),none⟩
abbrev gF(a b k:Nat):ay:=⟨some a,.ld none (.t b),some (k,true)⟩
abbrev e8(a b k:Nat):ay:=⟨some a,.ld none (.t b),some (k,false)⟩
abbrev au(a s b:Nat):ay:=⟨some a,.ld (some s) (.t b),none⟩
abbrev f(a b c d:Nat):ay:=⟨some a,.fa b c (.t d),none⟩
abbrev dZ(a b c d k:Nat):ay:=⟨some a,.fa b c (.t d),some (k,true)⟩
abbrev fn(a b c d k:Nat):ay:=⟨some a,.fa b c (.t d),some (k,false)⟩
abbrev ad(a b:Nat)(n:Int):ay:=⟨some a,.bin .add (.t b) (.c (.int .i64 n)),none⟩
abbrev lt(a b c:Nat):ay:=⟨some a,.bin .lss (.t b) (.t c),none⟩
abbrev and(a b c:Nat):ay:=⟨some a,.pick (.t b) (.t c) (.c (.bool false)),none⟩
abbrev or(a b c:Nat):ay:=⟨some a,.pick (.t b) (.c (.bool true)) (.t c),none⟩
abbrev no(a b:Nat):ay:=⟨some a,.un .not (.t b),none⟩
abbrev b(a c:Nat):ay:=⟨some a,.box (.t c),none⟩
abbrev s(x y:bj):bj:=.seq x y
abbrev r(g:List ay):bj:=.b7 none g
abbrev b8(P:Program)(f:Func)(c:bj):Prop:=f.body.bind (dR P f.ntmps)=some c
abbrev bY(P:Program)(f:Func)(r:List bz):Prop:=gn P f.results.toList=some r
abbrev bP(P:Program)(n:FuncId):Prop:=dS P n=true
theorem e{α:Type}{a b:α}(h:a=b):a=b:=h
end Go.Abs.C
namespace Go.Proofs.YtoffnnjbplgnaaaGreatDoor
open Go Go.Abs Go.Abs.C
def Ni:=[o 6 (.mv bm)]
def Nj:=[o 29 (.call 14 []),m 7 29]
def Nx:=[m 30 0,o 31 (.call 26 [.t 30,(aX 20)]),m 8 31]
def NI:=[m 33 0,m 34 1,o 35 (.call 28 [.t 34,(aX 21)]),o 36 (.call 26 [.t 33,.t 35]),o 37 (.call 41 [.t 36]),m 32 37,o 38 (.ext (.t 32) 0),o 39 (.ext (.t 32) 1),o 9 (.alloc (.agg [.nils 8])),p (.aT (some 1) (.t 9) (.t 38)),m 10 39]
def NJ:=[m 41 0,m 42 2,o 43 (.call 28 [.t 42,(aX 21)]),o 44 (.call 26 [.t 41,.t 43]),o 45 (.call 41 [.t 44]),m 40 45,o 46 (.ext (.t 40) 0),o 47 (.ext (.t 40) 1),o 11 (.alloc (.agg [.nils 8])),p (.aT (some 1) (.t 11) (.t 46)),m 12 47]
def NK:=[au 49 1 9,au 50 1 11,o 51 (.call 39 [.t 49,.t 50]),m 48 51,o 52 (.ext (.t 48) 0),o 53 (.ext (.t 48) 1),o 13 (.alloc (.agg [.nils 8])),p (.aT (some 1) (.t 13) (.t 52)),m 14 53]
def NL:=[au 55 1 11,au 56 1 9,o 57 (.call 39 [.t 55,.t 56]),m 54 57,o 58 (.ext (.t 54) 0),o 59 (.ext (.t 54) 1),o 15 (.alloc (.agg [.nils 8])),p (.aT (some 1) (.t 15) (.t 58)),m 16 59]
def NM:=[au 61 1 13,au 62 1 9,o 63 (.call 39 [.t 61,.t 62]),m 60 63,o 64 (.ext (.t 60) 0),o 65 (.ext (.t 60) 1),o 17 (.alloc (.agg [.nils 8])),p (.aT (some 1) (.t 17) (.t 64)),m 18 65]
def NN:=[m 66 7,no 67 66,m 68 67,eT 69 10 68,on 70 (.bin .neq (.t 69) (aX 0)) 68,or 71 68 70,m 72 71,eT 73 12 72,on 74 (.bin .neq (.t 73) (aX 0)) 72,or 75 72 74,m 76 75,eT 77 14 76,on 78 (.bin .neq (.t 77) (aX 0)) 76,or 79 76 78,m 80 79,eT 81 16 80,on 82 (.bin .neq (.t 81) (aX 0)) 80,or 83 80 82,m 84 83,eT 85 18 84,on 86 (.bin .neq (.t 85) (aX 0)) 84,or 87 84 86]
def NO:=[o 6 (.mv bm)]
def Nk:=[f 88 0 0 13,l 89 88,f 90 0 0 15,l 91 90,o 92 (.call 17 [.t 89,.t 91]),m 19 92]
def Nl:=[f 93 0 0 13,l 94 93,f 95 0 0 17,l 96 95,o 97 (.call 17 [.t 94,.t 96]),m 20 97]
def Nn:=[m 98 19,no 99 98,m 100 99,eT 101 20 100,on 102 (.un .not (.t 101)) 100,or 103 100 102,m 104 103,fn 105 0 0 9 104,e8 106 105 104,fn 107 0 0 13 104,e8 108 107 104,on 109 (.call 43 [.t 106,.t 108]) 104,on 110 (.un .not (.t 109)) 104,or 111 104 110,m 112 111,fn 113 0 0 11 112,e8 114 113 112,fn 115 0 0 13 112,e8 116 115 112,on 117 (.call 43 [.t 114,.t 116]) 112,on 118 (.un .not (.t 117)) 112,or 119 112 118,m 120 119,fn 121 0 0 13 120,e8 122 121 120,on 123 (.len (.t 122)) 120,fn 124 0 0 9 120,e8 125 124 120,on 126 (.len (.t 125)) 120,fn 127 0 0 11 120,e8 128 127 120,on 129 (.len (.t 128)) 120,on 130 (.max2 (.t 126) (.t 129)) 120,on 131 (.bin .neq (.t 123) (.t 130)) 120,or 132 120 131]
def Np:=[o 6 (.mv bm)]
def Nq:=[o 21 (.alloc (.agg [.nils 8]))]
def Nr:=[bq 22 2]
def Nt:=[m 133 22,o 134 (.bin .geq (.t 133) (aX 0))]
def Nu:=[bq 23 0]
def Nv:=[m 137 23,m 138 8,o 139 (.len (.t 138)),lt 140 137 139]
def Nw:=[m 143 8,m 144 23,o 145 (.is 8 (.t 143) (.t 144)),f 146 0 0 145,f 147 0 0 146,l 148 147,m 149 22,o 150 (.bin .neq (.t 148) (.t 149))]
def Ny:=[au 152 1 21,m 153 8,m 154 23,o 155 (.is 8 (.t 153) (.t 154)),au 156 8 155,o 157 (.call 44 [.t 152,.t 156]),m 151 157,o 158 (.ext (.t 151) 0),o 159 (.ext (.t 151) 1),o 24 (.alloc (.agg [.nils 8])),p (.aT (some 1) (.t 24) (.t 158)),m 25 159]
def Ln:=some [[],[],[],[1,2],[3],[0,4],[5],[6],[6],[],[9,7,5,0,1,2,3,4,5,6,7,9],[8,10,0,1,2,3,4,5,6,7,8,9,10]]
def Nz:=[m 160 25,o 161 (.bin .neq (.t 160) (aX 0))]
def NA:=[o 6 (.mv bm)]
def NB:=[au 162 1 24,p (.aT (some 1) (.t 21) (.t 162))]
def NC:=[m 141 23,ad 142 141 1,m 23 142]
def ND:=[m 135 22,o 136 (.bin .sub (.t 135) (aX 1)),m 22 136]
def NF:=[m 164 8,o 165 (.call 41 [.t 164]),m 163 165,o 166 (.ext (.t 163) 0),o 167 (.ext (.t 163) 1),o 26 (.alloc (.agg [.nils 8])),p (.aT (some 1) (.t 26) (.t 166)),m 27 167]
def NG:=[f 168 0 0 21,l 169 168,f 170 0 0 26,l 171 170,o 172 (.call 17 [.t 169,.t 171]),m 28 172]
def NH:=[m 173 27,o 174 (.bin .eql (.t 173) (aX 0)),m 175 174,dz 176 28 175,and 177 175 176,m 178 177,cd 179 (.ld (some 1) (.t 21)) 178,cd 180 (.call 45 [.t 179]) 178,cd 181 (.bin .eql (.t 180) (aX 0)) 178,and 182 178 181,m 6 182]
def yP:bj:=(s (r Ni) (s (r Nj) (s (r Nx) (s (r NI) (s (r NJ) (s (r NK) (s (r NL) (s (r NM) (s (s (r NN) (.cond (.t 87) (s (r NO) .ret) .skip)) (s (r Nk) (s (r Nl) (s (s (r Nn) (.cond (.t 132) (s (r Np) .ret) .skip)) (s (r Nq) (s (s (r Nr) (.block 0 (.loop (s (s (r Nt) (.cond (.t 134) .skip (.exit 0))) (s (.block 1 (s (r Nu) (.block 2 (.loop (s (s (r Nv) (.cond (.t 140) .skip (.exit 2))) (s (.block 3 (s (s (r Nw) (.cond (.t 150) (.exit 3) .skip)) (s (.b7 Ln Ny) (s (s (r Nz) (.cond (.t 161) (s (r NA) .ret) .skip)) (r NB))))) (r NC))))))) (r ND)))))) (s (r NF) (s (r NG) (s (r NH) .ret)))))))))))))))))
def CX:List bz:=[.tmp 6]
theorem IY:b8 Tryz.prog Tryz.f10 yP:=e (by kernel_rfl)
theorem Ke:bY Tryz.prog Tryz.f10 CX:=e (by kernel_rfl)
theorem HC:bP Tryz.prog 10:=e (by kernel_rfl)
def OT:=[o 0 (.mv bm)]
def OU:=[o 21 (.bld [.int .i64 0,.int .i64 0] [(0,(aX 2))]),o 22 (.bld [.agg [.int .i64 0,.int .i64 0],.int .i64 0,.int .i64 0,.int .i64 0,.agg [.int .i64 0,.int .i64 0],.aj ⟨#[]⟩] [(0,(.t 21)),(1,(aX 5)),(2,(aX 10)),(3,(aX 12)),(5,(.c (.aj ⟨#[97]⟩)))]),o 1 (.alloc (.agg [.agg [.int .i64 0,.int .i64 0],.int .i64 0,.int .i64 0,.int .i64 0,.agg [.int .i64 0,.int .i64 0],.aj ⟨#[]⟩])),p (.aT (some 8) (.t 1) (.t 22))]
def OX:=[au 24 8 1,o 25 (.call 29 [(aX 1),.t 24]),m 23 25,o 26 (.ext (.t 23) 0),o 27 (.ext (.t 23) 1),o 28 (.ext (.t 23) 2),m 2 26,m 3 27,m 4 28]
def OY:=[m 30 2,o 31 (.call 31 [(aX 1),.t 30]),m 29 31,o 32 (.ext (.t 29) 0),o 33 (.ext (.t 29) 1),o 34 (.ext (.t 29) 2),o 5 (.alloc (.agg [.agg [.int .i64 0,.int .i64 0],.int .i64 0,.int .i64 0,.int .i64 0,.agg [.int .i64 0,.int .i64 0],.aj ⟨#[]⟩])),p (.aT (some 8) (.t 5) (.t 32)),m 6 33,m 7 34]
def OZ:=[o 36 (.bld [.agg [.aj ⟨#[]⟩,.aj ⟨#[]⟩],.agg [.aj ⟨#[]⟩,.aj ⟨#[]⟩]] []),au 37 8 1,o 38 (.call 35 [.t 36,(.c (.nils 8)),.t 37]),m 35 38,o 39 (.ext (.t 35) 0),o 40 (.ext (.t 35) 1),o 41 (.ext (.t 35) 2),o 8 (.alloc (.agg [.agg [.aj ⟨#[]⟩,.aj ⟨#[]⟩],.agg [.aj ⟨#[]⟩,.aj ⟨#[]⟩]])),p (.aT (some 4) (.t 8) (.t 39)),m 9 40,m 10 41]
def O0:=[au 43 4 8,o 44 (.call 22 [.t 43,(.c (.nils 1))]),o 45 (.call 18 [.t 44]),m 42 45,o 46 (.ext (.t 42) 0),o 47 (.ext (.t 42) 1),o 11 (.alloc (.agg [.agg [.aj ⟨#[]⟩,.aj ⟨#[]⟩],.agg [.aj ⟨#[]⟩,.aj ⟨#[]⟩]])),p (.aT (some 4) (.t 11) (.t 46)),m 12 47]
def O1:=[au 49 4 8,f 50 0 0 8,f 51 1 1 50,l 52 51,o 53 (.lenT (.t 52)),o 54 (.bs 3 1 [.t 53,(aX 0),(aX 0)]),o 55 (.call 22 [.t 49,.t 54]),o 56 (.call 18 [.t 55]),m 48 56,o 57 (.ext (.t 48) 0),o 58 (.ext (.t 48) 1),o 13 (.alloc (.agg [.agg [.aj ⟨#[]⟩,.aj ⟨#[]⟩],.agg [.aj ⟨#[]⟩,.aj ⟨#[]⟩]])),p (.aT (some 4) (.t 13) (.t 57)),m 14 58]
def O2:=[au 60 4 8,f 61 0 0 8,f 62 1 1 61,l 63 62,o 64 (.lenT (.t 63)),o 65 (.bs 3 1 [.t 64,(aX 1),(aX 3)]),o 66 (.call 22 [.t 60,.t 65]),o 67 (.call 18 [.t 66]),m 59 67,o 68 (.ext (.t 59) 0),o 69 (.ext (.t 59) 1),o 15 (.alloc (.agg [.agg [.aj ⟨#[]⟩,.aj ⟨#[]⟩],.agg [.aj ⟨#[]⟩,.aj ⟨#[]⟩]])),p (.aT (some 4) (.t 15) (.t 68)),m 16 69]
def O3:=[au 71 4 8,o 72 (.call 20 [.t 71]),o 73 (.call 24 [.t 72,bm]),o 74 (.call 18 [.t 73]),m 70 74,o 75 (.ext (.t 70) 0),o 76 (.ext (.t 70) 1),o 17 (.alloc (.agg [.agg [.aj ⟨#[]⟩,.aj ⟨#[]⟩],.agg [.aj ⟨#[]⟩,.aj ⟨#[]⟩]])),p (.aT (some 4) (.t 17) (.t 75)),m 18 76]
def O4:=[m 77 4,o 78 (.bin .eql (.t 77) (aX 0)),m 79 78,dz 80 7 79,cd 81 (.bin .eql (.t 80) (aX 0)) 79,and 82 79 81,m 83 82,dz 84 10 83,cd 85 (.bin .eql (.t 84) (aX 0)) 83,and 86 83 85,m 87 86,dz 88 9 87,cd 89 (.len (.t 88)) 87,cd 90 (.bin .eql (.t 89) (aX 1)) 87,and 91 87 90,m 19 91]
def OV:=[m 92 2,o 93 (.lenT (.t 92)),o 94 (.bin .gtr (.t 93) (aX 18)),m 95 94,dz 96 2 95,dz 97 2 95,cd 98 (.lenT (.t 97)) 95,cd 99 (.bin .sub (.t 98) (aX 18)) 95,cd 100 (.prim (.ss true false) [.t 96,.t 99]) 95,cd 101 (.bin .eql (.t 100) (.c (.aj ⟨#[50,32,48,32,53,32,49,48,32,49,50,32,48,32,48,32,97,10]⟩))) 95,and 102 95 101,m 20 102]
def OW:=[m 103 19,m 104 103,dz 105 20 104,and 106 104 105,m 107 106,cd 108 (.ld (some 8) (.t 5)) 107,cd 109 (.ld (some 8) (.t 1)) 107,cd 110 (.eqv (.aT [(.aT [(.i .i64),(.i .i64)]),(.i .i64),(.i .i64),(.i .i64),(.aT [(.i .i64),(.i .i64)]),.s]) false (.t 108) (.t 109)) 107,and 111 107 110,m 112 111,dz 113 6 112,dz 114 3 112,cd 115 (.bin .eql (.t 113) (.t 114)) 112,and 116 112 115,m 117 116,dZ 118 0 0 8 117,dZ 119 1 1 118 117,gF 120 119 117,dz 121 2 117,cd 122 (.bin .eql (.t 120) (.t 121)) 117,and 123 117 122,m 124 123,dZ 125 1 2 8 124,cd 126 (.ld (some 2) (.t 125)) 124,cd 127 (.bld [.aj ⟨#[]⟩,.aj ⟨#[]⟩] []) 124,cd 128 (.eqv (.aT [.s,.s]) false (.t 126) (.t 127)) 124,and 129 124 128,m 130 129,dz 131 12 130,cd 132 (.len (.t 131)) 130,cd 133 (.bin .eql (.t 132) (aX 0)) 130,and 134 130 133,m 135 134,dz 136 14 135,cd 137 (.len (.t 136)) 135,cd 138 (.bin .eql (.t 137) (aX 1)) 135,and 139 135 138,m 140 139,dz 141 16 140,cd 142 (.len (.t 141)) 140,cd 143 (.bin .eql (.t 142) (aX 0)) 140,and 144 140 143,m 145 144,dz 146 18 145,cd 147 (.len (.t 146)) 145,cd 148 (.bin .eql (.t 147) (aX 1)) 145,and 149 145 148,m 150 149,dZ 151 0 0 17 150,dZ 152 0 0 151 150,gF 153 152 150,dz 154 2 150,cd 155 (.bin .eql (.t 153) (.t 154)) 150,and 156 150 155,m 157 156,dZ 158 1 2 17 157,dZ 159 0 0 158 157,gF 160 159 157,dz 161 2 157,cd 162 (.bin .eql (.t 160) (.t 161)) 157,and 163 157 162,m 0 163]
def za:bj:=(s (r OT) (s (r OU) (s (r OX) (s (r OY) (s (r OZ) (s (r O0) (s (r O1) (s (r O2) (s (r O3) (s (r O4) (s (r OV) (s (r OW) .ret))))))))))))
def Dd:List bz:=[.tmp 0]
theorem Jd:b8 Tryz.prog Tryz.f14 za:=e (by kernel_rfl)
theorem Ku:bY Tryz.prog Tryz.f14 Dd:=e (by kernel_rfl)
theorem HX:bP Tryz.prog 14:=e (by kernel_rfl)
def Pf:=[o 2 (.mv (.c (.nils 8))),o 3 (.mv (.c (.aj ⟨#[]⟩)))]
def Pg:=[o 4 (.alloc (.nils 8))]
def Pj:=[o 5 (.alloc (.int .i64 0)),o 6 (.alloc (.int .i64 0)),p (.aT none (.t 5) (aX 1)),p (.aT none (.t 6) (aX 0))]
def Pk:=[m 11 0,o 12 (.call 69 [.t 11])]
def Pl:=[m 7 13]
def Pm:=[l 15 5,m 16 7,o 17 (.call 70 [.t 15,.t 16]),m 14 17,o 18 (.ext (.t 14) 0),o 19 (.ext (.t 14) 1),o 20 (.ext (.t 14) 2),o 8 (.alloc (.agg [.agg [.int .i64 0,.int .i64 0],.int .i64 0,.int .i64 0,.int .i64 0,.agg [.int .i64 0,.int .i64 0],.aj ⟨#[]⟩])),p (.aT (some 8) (.t 8) (.t 18)),m 9 19,m 10 20]
def Pn:=[m 21 10,no 22 21,m 23 22,e8 24 4 23,on 25 (.ld (some 8) (.t 8)) 23,on 26 (.call 71 [.t 24,.t 25]) 23,on 27 (.un .not (.t 26)) 23,or 28 23 27]
def Po:=[l 29 4,au 30 8 8,o 31 (.bs 50 8 [.t 30]),o 32 (.dM 50 8 72 (.agg [.agg [.int .i64 0,.int .i64 0],.int .i64 0,.int .i64 0,.int .i64 0,.agg [.int .i64 0,.int .i64 0],.aj ⟨#[]⟩]) (.t 29) (.t 31)),p (.aT none (.t 4) (.t 32))]
def Pp:=[m 33 9,p (.aT none (.t 5) (.t 33))]
def Pq:=[l 34 6,m 35 7,o 36 (.lenT (.t 35)),o 37 (.bin .add (.t 34) (.t 36)),p (.aT none (.t 6) (.t 37))]
def Ph:=[l 38 4,m 39 0,l 40 6,o 41 (.prim (.ss false true) [.t 39,.t 40]),m 2 38,m 3 41]
def Lu:=some [[],[],[],[1,2],[0,0],[3,4,0,1,2,3,4]]
def zc:bj:=(s (r Pf) (s (r Pg) (s (r Pj) (s (s (r Pk) (.block 0 (.nA (.t 12) [13] (r Pl) (.block 1 (s (r Pm) (s (s (r Pn) (.cond (.t 28) (.exit 0) .skip)) (s (r Po) (s (r Pp) (r Pq))))))))) (s (.b7 Lu Ph) .ret)))))
def Df:List bz:=[.tmp 2,.tmp 3]
theorem Jf:b8 Tryz.prog Tryz.f15 zc:=e (by kernel_rfl)
theorem Kx:bY Tryz.prog Tryz.f15 Df:=e (by kernel_rfl)
theorem H0:bP Tryz.prog 15:=e (by kernel_rfl)
def PW:=[o 4 (.mv bm)]
def PX:=[m 7 0,o 8 (.len (.t 7)),m 9 1,o 10 (.len (.t 9)),o 11 (.bin .eql (.t 8) (.t 10)),m 5 11]
def PY:=[bq 6 0]
def PZ:=[m 12 6,m 13 0,o 14 (.len (.t 13)),lt 15 12 14,m 16 15,dz 17 5 16,and 18 16 17]
def P0:=[m 21 0,m 22 6,o 23 (.is 8 (.t 21) (.t 22)),au 24 8 23,m 25 1,m 26 6,o 27 (.is 8 (.t 25) (.t 26)),au 28 8 27,o 29 (.eqv (.aT [(.aT [(.i .i64),(.i .i64)]),(.i .i64),(.i .i64),(.i .i64),(.aT [(.i .i64),(.i .i64)]),.s]) false (.t 24) (.t 28)),m 5 29]
def Lw:=some [[],[],[0,1],[2],[],[],[4,5],[6],[3,7],[8,0,1,2,3,4,5,6,7,8]]
def P1:=[m 19 6,ad 20 19 1,m 6 20]
def P2:=[m 30 5,m 4 30]
def zh:bj:=(s (r PW) (s (r PX) (s (s (r PY) (.block 0 (.loop (s (s (r PZ) (.cond (.t 18) .skip (.exit 0))) (s (.block 1 (.b7 Lw P0)) (r P1)))))) (s (r P2) .ret))))
def Dl:List bz:=[.tmp 4]
theorem Jk:b8 Tryz.prog Tryz.f17 zh:=e (by kernel_rfl)
theorem KC:bY Tryz.prog Tryz.f17 Dl:=e (by kernel_rfl)
theorem H8:bP Tryz.prog 17:=e (by kernel_rfl)
def QA:=[b 1 0,o 2 (.alloc (.agg [.agg [.aj ⟨#[]⟩,.aj ⟨#[]⟩],.agg [.aj ⟨#[]⟩,.aj ⟨#[]⟩]])),o 3 (.mv (.c (.nils 8)))]
def QB:=[f 10 0 0 1,au 11 2 10,o 12 (.call 73 [.t 11]),o 13 (.call 15 [.t 12]),m 9 13,o 14 (.ext (.t 9) 0),o 15 (.ext (.t 9) 1),m 4 14,m 5 15]
def QC:=[f 17 1 2 1,au 18 2 17,o 19 (.call 73 [.t 18]),o 20 (.call 15 [.t 19]),m 16 20,o 21 (.ext (.t 16) 0),o 22 (.ext (.t 16) 1),m 6 21,m 7 22]
def QD:=[m 23 6,o 24 (.len (.t 23)),m 25 4,o 26 (.len (.t 25)),o 27 (.bin .gtr (.t 24) (.t 26))]
def QE:=[m 28 6,m 29 7,m 4 28,m 5 29]
def QF:=[m 30 5,o 31 (.call 74 [.t 30]),o 32 (.bld [.aj ⟨#[]⟩,.aj ⟨#[]⟩] [(0,(.t 31))]),o 8 (.alloc (.agg [.aj ⟨#[]⟩,.aj ⟨#[]⟩])),p (.aT (some 2) (.t 8) (.t 32))]
def QG:=[au 33 2 8,au 34 2 8,o 35 (.bld [.agg [.aj ⟨#[]⟩,.aj ⟨#[]⟩],.agg [.aj ⟨#[]⟩,.aj ⟨#[]⟩]] [(0,(.t 33)),(1,(.t 34))]),m 36 4,p (.aT (some 4) (.t 2) (.t 35)),m 3 36]
def zj:bj:=(s (r QA) (s (r QB) (s (s (r QC) (s (r QD) (.cond (.t 27) (r QE) .skip))) (s (r QF) (s (r QG) .ret)))))
def Dp:List bz:=[.cell 2 (some 4),.tmp 3]
theorem Jn:b8 Tryz.prog Tryz.f18 zj:=e (by kernel_rfl)
theorem KF:bY Tryz.prog Tryz.f18 Dp:=e (by kernel_rfl)
theorem Ia:bP Tryz.prog 18:=e (by kernel_rfl)
def QH:=[b 1 0,o 2 (.alloc (.agg [.agg [.aj ⟨#[]⟩,.aj ⟨#[]⟩],.agg [.aj ⟨#[]⟩,.aj ⟨#[]⟩]]))]
def QI:=[f 4 0 0 1,au 5 2 4,o 6 (.call 73 [.t 5]),o 7 (.bld [.aj ⟨#[]⟩,.aj ⟨#[]⟩] [(0,(.t 6))]),o 3 (.alloc (.agg [.aj ⟨#[]⟩,.aj ⟨#[]⟩])),p (.aT (some 2) (.t 3) (.t 7))]
def QJ:=[au 8 2 3,au 9 2 3,o 10 (.bld [.agg [.aj ⟨#[]⟩,.aj ⟨#[]⟩],.agg [.aj ⟨#[]⟩,.aj ⟨#[]⟩]] [(0,(.t 8)),(1,(.t 9))]),p (.aT (some 4) (.t 2) (.t 10))]
def c20:bj:=(s (r QH) (s (r QI) (s (r QJ) .ret)))
def Dr:List bz:=[.cell 2 (some 4)]
theorem Jp:b8 Tryz.prog Tryz.f20 c20:=e (by kernel_rfl)
theorem KH:bY Tryz.prog Tryz.f20 Dr:=e (by kernel_rfl)
theorem Ic:bP Tryz.prog 20:=e (by kernel_rfl)
def QK:=[b 2 0,o 4 (.alloc (.agg [.agg [.aj ⟨#[]⟩,.aj ⟨#[]⟩],.agg [.aj ⟨#[]⟩,.aj ⟨#[]⟩]]))]
def QL:=[f 5 0 0 2,au 6 2 5,m 7 1,o 8 (.call 75 [.t 6,.t 7,(aX 0)]),f 9 1 2 2,au 10 2 9,m 11 1,o 12 (.call 75 [.t 10,.t 11,(aX 3)]),o 13 (.bld [.agg [.aj ⟨#[]⟩,.aj ⟨#[]⟩],.agg [.aj ⟨#[]⟩,.aj ⟨#[]⟩]] [(0,(.t 8)),(1,(.t 12))]),p (.aT (some 4) (.t 4) (.t 13))]
def Lx:=some [[],[0],[],[1,2],[],[4],[],[5,6,3],[3,7],[8,7,0,1,2,3,4,5,6,7,8]]
def zl:bj:=(s (r QK) (s (.b7 Lx QL) .ret))
def Ds:List bz:=[.cell 4 (some 4)]
theorem Jq:b8 Tryz.prog Tryz.f22 zl:=e (by kernel_rfl)
theorem KI:bY Tryz.prog Tryz.f22 Ds:=e (by kernel_rfl)
theorem Ie:bP Tryz.prog 22:=e (by kernel_rfl)
def QM:=[b 2 0,o 4 (.alloc (.agg [.agg [.aj ⟨#[]⟩,.aj ⟨#[]⟩],.agg [.aj ⟨#[]⟩,.aj ⟨#[]⟩]]))]
def QN:=[m 5 1]
def QO:=[o 6 (.bld [.aj ⟨#[]⟩,.aj ⟨#[]⟩] []),f 7 1 2 2,p (.aT (some 2) (.t 7) (.t 6))]
def QP:=[o 8 (.bld [.aj ⟨#[]⟩,.aj ⟨#[]⟩] []),f 9 0 0 2,p (.aT (some 2) (.t 9) (.t 8))]
def QR:=[au 10 4 2,p (.aT (some 4) (.t 4) (.t 10))]
def zm:bj:=(s (r QM) (s (s (r QN) (.cond (.t 5) (r QO) (r QP))) (s (r QR) .ret)))
def Dt:List bz:=[.cell 4 (some 4)]
theorem Jr:b8 Tryz.prog Tryz.f24 zm:=e (by kernel_rfl)
theorem KJ:bY Tryz.prog Tryz.f24 Dt:=e (by kernel_rfl)
theorem If:bP Tryz.prog 24:=e (by kernel_rfl)
def QS:=[o 4 (.mv (.c (.nils 8)))]
def QT:=[o 5 (.mv (.c (.nils 8)))]
def QU:=[bq 6 0]
def QV:=[m 7 6,m 8 0,o 9 (.len (.t 8)),lt 10 7 9,m 11 10,dz 12 6 11,dz 13 1 11,cd 14 (.bin .lss (.t 12) (.t 13)) 11,and 15 11 14]
def QW:=[m 18 5,m 19 5,m 20 0,m 21 6,o 22 (.is 5 (.t 20) (.t 21)),au 23 5 22,o 24 (.call 78 [.t 19,.t 23]),o 25 (.bs 50 8 [.t 24]),o 26 (.dM 50 8 72 (.agg [.agg [.int .i64 0,.int .i64 0],.int .i64 0,.int .i64 0,.int .i64 0,.agg [.int .i64 0,.int .i64 0],.aj ⟨#[]⟩]) (.t 18) (.t 25)),m 5 26]
def QX:=[m 16 6,ad 17 16 1,m 6 17]
def QY:=[m 27 5,m 4 27]
def zn:bj:=(s (r QS) (s (r QT) (s (s (r QU) (.block 0 (.loop (s (s (r QV) (.cond (.t 15) .skip (.exit 0))) (s (.block 1 (r QW)) (r QX)))))) (s (r QY) .ret))))
def Du:List bz:=[.tmp 4]
theorem Js:b8 Tryz.prog Tryz.f26 zn:=e (by kernel_rfl)
theorem KK:bY Tryz.prog Tryz.f26 Du:=e (by kernel_rfl)
theorem Ig:bP Tryz.prog 26:=e (by kernel_rfl)
def QZ:=[bq 4 0]
def Q0:=[m 5 0,m 6 1,o 7 (.bin .rem (.t 5) (.t 6)),m 8 1,o 9 (.bin .add (.t 7) (.t 8)),m 10 1,o 11 (.bin .rem (.t 9) (.t 10)),m 4 11]
def zo:bj:=(s (r QZ) (s (r Q0) .ret))
def Dv:List bz:=[.tmp 4]
theorem Jt:b8 Tryz.prog Tryz.f28 zo:=e (by kernel_rfl)
theorem KL:bY Tryz.prog Tryz.f28 Dv:=e (by kernel_rfl)
theorem Ih:bP Tryz.prog 28:=e (by kernel_rfl)
def Q1:=[b 3 1,o 4 (.mv (.c (.aj ⟨#[]⟩))),bq 5 0,bq 6 0]
def Q2:=[m 10 0,o 11 (.call 79 [.t 10]),no 12 11,m 9 12]
def Q3:=[o 4 (.mv (.c (.aj ⟨#[]⟩))),bq 5 0,bq 6 1]
def Q4:=[au 14 8 3,o 15 (.call 80 [.t 14]),no 16 15,m 13 16]
def Q5:=[o 4 (.mv (.c (.aj ⟨#[]⟩))),bq 5 0,bq 6 80]
def Q6:=[m 18 0,au 19 8 3,o 20 (.call 81 [.t 18,.t 19]),m 17 20,o 21 (.ext (.t 17) 0),o 22 (.ext (.t 17) 1),m 7 21,m 8 22]
def Q7:=[m 23 7,m 24 8,m 4 23,m 5 24,bq 6 0]
def zp:bj:=(s (r Q1) (s (.block 0 (s (r Q2) (.cond (.t 9) (s (r Q3) .ret) (s (r Q4) (.cond (.t 13) (s (r Q5) .ret) .skip))))) (s (r Q6) (s (r Q7) .ret))))
def Dw:List bz:=[.tmp 4,.tmp 5,.tmp 6]
theorem Ju:b8 Tryz.prog Tryz.f29 zp:=e (by kernel_rfl)
theorem KM:bY Tryz.prog Tryz.f29 Dw:=e (by kernel_rfl)
theorem Ii:bP Tryz.prog 29:=e (by kernel_rfl)
def Q8:=[o 4 (.alloc (.agg [.agg [.int .i64 0,.int .i64 0],.int .i64 0,.int .i64 0,.int .i64 0,.agg [.int .i64 0,.int .i64 0],.aj ⟨#[]⟩])),bq 5 0,bq 6 0]
def Q9:=[m 10 0,o 11 (.call 79 [.t 10]),no 12 11]
def Ra:=[o 13 (.bld [.agg [.int .i64 0,.int .i64 0],.int .i64 0,.int .i64 0,.int .i64 0,.agg [.int .i64 0,.int .i64 0],.aj ⟨#[]⟩] []),p (.aT (some 8) (.t 4) (.t 13)),bq 5 0,bq 6 1]
def Rb:=[m 15 0,m 16 1,o 17 (.call 70 [.t 15,.t 16]),m 14 17,o 18 (.ext (.t 14) 0),o 19 (.ext (.t 14) 1),o 20 (.ext (.t 14) 2),o 7 (.alloc (.agg [.agg [.int .i64 0,.int .i64 0],.int .i64 0,.int .i64 0,.int .i64 0,.agg [.int .i64 0,.int .i64 0],.aj ⟨#[]⟩])),p (.aT (some 8) (.t 7) (.t 18)),m 8 19,m 9 20]
def Rc:=[m 21 9,no 22 21]
def Re:=[o 23 (.bld [.agg [.int .i64 0,.int .i64 0],.int .i64 0,.int .i64 0,.int .i64 0,.agg [.int .i64 0,.int .i64 0],.aj ⟨#[]⟩] []),p (.aT (some 8) (.t 4) (.t 23)),bq 5 0,bq 6 87]
def Rf:=[au 24 8 7,m 25 8,p (.aT (some 8) (.t 4) (.t 24)),m 5 25,bq 6 0]
def zq:bj:=(s (r Q8) (s (s (r Q9) (.cond (.t 12) (s (r Ra) .ret) .skip)) (s (r Rb) (s (s (r Rc) (.cond (.t 22) (s (r Re) .ret) .skip)) (s (r Rf) .ret)))))
def Dy:List bz:=[.cell 4 (some 8),.tmp 5,.tmp 6]
theorem Jv:b8 Tryz.prog Tryz.f31 zq:=e (by kernel_rfl)
theorem KN:bY Tryz.prog Tryz.f31 Dy:=e (by kernel_rfl)
theorem Ij:bP Tryz.prog 31:=e (by kernel_rfl)
def Rg:=[b 1 0,bq 2 0]
def Rh:=[f 3 0 0 1,au 4 2 3,o 5 (.call 85 [.t 4]),no 6 5,m 7 6,fn 8 1 2 1 7,e8 9 8 7,on 10 (.call 82 [.t 9,(aX 0),(aX 40)]) 7,on 11 (.un .not (.t 10)) 7,or 12 7 11,m 13 12,fn 14 2 3 1 13,e8 15 14 13,on 16 (.call 82 [.t 15,(aX 0),(aX 100000)]) 13,on 17 (.un .not (.t 16)) 13,or 18 13 17,m 19 18,fn 20 3 4 1 19,e8 21 20 19,on 22 (.call 82 [.t 21,(aX 0),(aX 100000)]) 19,on 23 (.un .not (.t 22)) 19,or 24 19 23,m 25 24,fn 26 5 7 1 25,e8 27 26 25,on 28 (.call 86 [.t 27]) 25,on 29 (.un .not (.t 28)) 25,or 30 25 29]
def Ri:=[bq 2 80]
def Rj:=[f 31 1 2 1,l 32 31,o 33 (.bin .eql (.t 32) (aX 0))]
def Rk:=[f 34 2 3 1,l 35 34,o 36 (.bin .neq (.t 35) (aX 0)),m 37 36,fn 38 5 7 1 37,e8 39 38 37,on 40 (.bin .neq (.t 39) (.c (.aj ⟨#[]⟩))) 37,or 41 37 40,m 42 41,fn 43 4 5 1 42,on 44 (.ld (some 2) (.t 43)) 42,on 45 (.call 85 [.t 44]) 42,on 46 (.un .not (.t 45)) 42,or 47 42 46,m 48 47,fn 49 4 5 1 48,fn 50 0 0 49 48,e8 51 50 48,fn 52 0 0 1 48,fn 53 0 0 52 48,e8 54 53 48,on 55 (.bin .neq (.t 51) (.t 54)) 48,or 56 48 55,m 57 56,fn 58 4 5 1 57,fn 59 1 1 58 57,e8 60 59 57,fn 61 0 0 1 57,fn 62 1 1 61 57,e8 63 62 57,on 64 (.bin .geq (.t 60) (.t 63)) 57,or 65 57 64]
def Rl:=[bq 2 80]
def Rm:=[bq 2 0]
def Rn:=[f 66 4 5 1,au 67 2 66,o 68 (.bld [.int .i64 0,.int .i64 0] []),o 69 (.eqv (.aT [(.i .i64),(.i .i64)]) true (.t 67) (.t 68))]
def Ro:=[bq 2 80]
def Rp:=[bq 2 0]
def zr:bj:=(s (r Rg) (s (s (r Rh) (.cond (.t 30) (s (r Ri) .ret) .skip)) (s (s (r Rj) (.cond (.t 33) (s (s (r Rk) (.cond (.t 65) (s (r Rl) .ret) .skip)) (s (r Rm) .ret)) .skip)) (s (s (r Rn) (.cond (.t 69) (s (r Ro) .ret) .skip)) (s (r Rp) .ret)))))
def Dz:List bz:=[.tmp 2]
theorem Jw:b8 Tryz.prog Tryz.f34 zr:=e (by kernel_rfl)
theorem KO:bY Tryz.prog Tryz.f34 Dz:=e (by kernel_rfl)
theorem Ik:bP Tryz.prog 34:=e (by kernel_rfl)
def Rq:=[b 3 0,b 5 2,o 6 (.alloc (.agg [.agg [.aj ⟨#[]⟩,.aj ⟨#[]⟩],.agg [.aj ⟨#[]⟩,.aj ⟨#[]⟩]])),o 7 (.mv (.c (.nils 8))),bq 8 0]
def Rr:=[au 9 4 3,m 10 1,o 11 (.call 87 [.t 9,.t 10]),no 12 11]
def Rs:=[o 13 (.bld [.agg [.aj ⟨#[]⟩,.aj ⟨#[]⟩],.agg [.aj ⟨#[]⟩,.aj ⟨#[]⟩]] []),p (.aT (some 4) (.t 6) (.t 13)),o 7 (.mv (.c (.nils 8))),bq 8 84]
def Rt:=[au 14 4 3,m 15 1,au 16 8 5,o 17 (.call 88 [.t 14,.t 15,.t 16]),o 18 (.ext (.t 17) 0),o 19 (.ext (.t 17) 1),o 20 (.ext (.t 17) 2),p (.aT (some 4) (.t 6) (.t 18)),m 7 19,m 8 20]
def zt:bj:=(s (r Rq) (s (s (r Rr) (.cond (.t 12) (s (r Rs) .ret) .skip)) (s (r Rt) .ret)))
def DA:List bz:=[.cell 6 (some 4),.tmp 7,.tmp 8]
theorem Jx:b8 Tryz.prog Tryz.f35 zt:=e (by kernel_rfl)
theorem KP:bY Tryz.prog Tryz.f35 DA:=e (by kernel_rfl)
theorem Il:bP Tryz.prog 35:=e (by kernel_rfl)
def Bk:=[b 2 0,b 3 1,o 4 (.alloc (.agg [.nils 8])),bq 5 0]
def Ru:=[au 11 1 2,o 12 (.call 92 [.t 11]),no 13 12,m 14 13,on 15 (.ld (some 1) (.t 3)) 14,on 16 (.call 92 [.t 15]) 14,on 17 (.un .not (.t 16)) 14,or 18 14 17]
def RB:=[o 19 (.bld [.nils 8] []),p (.aT (some 1) (.t 4) (.t 19)),bq 5 81]
def RC:=[f 20 0 0 2,l 21 20,o 22 (.call 93 [.t 21]),m 6 22]
def RD:=[f 23 0 0 3,l 24 23,o 25 (.len (.t 24)),bq 26 0]
def RE:=[lt 27 26 25]
def RF:=[o 28 (.is 8 (.t 24) (.t 26)),au 29 8 28,o 8 (.alloc (.agg [.agg [.int .i64 0,.int .i64 0],.int .i64 0,.int .i64 0,.int .i64 0,.agg [.int .i64 0,.int .i64 0],.aj ⟨#[]⟩])),p (.aT (some 8) (.t 8) (.t 29))]
def RG:=[au 31 1 2,f 32 0 0 8,au 33 2 32,o 34 (.call 94 [.t 31,.t 33]),m 30 34,o 35 (.ext (.t 30) 0),o 36 (.ext (.t 30) 1),m 9 35,m 10 36]
def RH:=[m 37 10,m 38 37,dZ 39 0 0 2 38,gF 40 39 38,dz 41 9 38,cd 42 (.is 8 (.t 40) (.t 41)) 38,cd 43 (.ld (some 8) (.t 42)) 38,cd 44 (.ld (some 8) (.t 8)) 38,cd 45 (.eqv (.aT [(.aT [(.i .i64),(.i .i64)]),(.i .i64),(.i .i64),(.i .i64),(.aT [(.i .i64),(.i .i64)]),.s]) true (.t 43) (.t 44)) 38,and 46 38 45]
def Ly:=some [[],[0],[1],[2,1],[1],[3,4,1],[5,1],[1],[6,7,1],[1,8]]
def RI:=[o 47 (.bld [.nils 8] []),p (.aT (some 1) (.t 4) (.t 47)),bq 5 82]
def Rv:=[m 48 10,no 49 48]
def Rw:=[m 50 6,au 51 8 8,o 52 (.bs 50 8 [.t 51]),o 53 (.dM 50 8 72 (.agg [.agg [.int .i64 0,.int .i64 0],.int .i64 0,.int .i64 0,.int .i64 0,.agg [.int .i64 0,.int .i64 0],.aj ⟨#[]⟩]) (.t 50) (.t 52)),m 6 53]
def Rx:=[ad 54 26 1,m 26 54]
def Ry:=[m 55 6,o 56 (.len (.t 55)),o 57 (.bin .gtr (.t 56) (aX 60))]
def Rz:=[o 58 (.bld [.nils 8] []),p (.aT (some 1) (.t 4) (.t 58)),bq 5 2]
def RA:=[m 59 6,o 60 (.call 95 [.t 59]),p (.aT (some 1) (.t 4) (.t 60)),bq 5 0]
def zu:bj:=(s (r Bk) (s (s (r Ru) (.cond (.t 18) (s (r RB) .ret) .skip)) (s (r RC) (s (s (r RD) (.block 0 (.loop (s (r RE) (s (.cond (.t 27) .skip (.exit 0)) (s (.block 1 (s (r RF) (s (r RG) (s (s (.b7 Ly RH) (.cond (.t 46) (s (r RI) .ret) .skip)) (s (r Rv) (.cond (.t 49) (r Rw) .skip)))))) (r Rx))))))) (s (s (r Ry) (.cond (.t 57) (s (r Rz) .ret) .skip)) (s (r RA) .ret))))))
def DB:List bz:=[.cell 4 (some 1),.tmp 5]
theorem Jy:b8 Tryz.prog Tryz.f39 zu:=e (by kernel_rfl)
theorem KQ:bY Tryz.prog Tryz.f39 DB:=e (by kernel_rfl)
theorem Im:bP Tryz.prog 39:=e (by kernel_rfl)
def RJ:=[o 2 (.alloc (.agg [.nils 8])),bq 3 0]
def RL:=[m 4 0,o 5 (.call 98 [.t 4]),no 6 5]
def RM:=[o 7 (.bld [.nils 8] []),p (.aT (some 1) (.t 2) (.t 7)),bq 3 81]
def RN:=[m 8 0,o 9 (.call 95 [.t 8]),p (.aT (some 1) (.t 2) (.t 9)),bq 3 0]
def zw:bj:=(s (r RJ) (s (s (r RL) (.cond (.t 6) (s (r RM) .ret) .skip)) (s (r RN) .ret)))
def DC:List bz:=[.cell 2 (some 1),.tmp 3]
theorem Jz:b8 Tryz.prog Tryz.f41 zw:=e (by kernel_rfl)
theorem KR:bY Tryz.prog Tryz.f41 DC:=e (by kernel_rfl)
theorem Io:bP Tryz.prog 41:=e (by kernel_rfl)
def RO:=[o 4 (.mv bm)]
def RP:=[bq 5 0]
def RT:=[m 8 5,m 9 0,o 10 (.len (.t 9)),lt 11 8 10]
def RU:=[o 6 (.mv bm)]
def RV:=[bq 7 0]
def RW:=[m 14 7,m 15 1,o 16 (.len (.t 15)),lt 17 14 16]
def RX:=[m 20 6,m 21 20,eT 22 0 21,eT 23 5 21,on 24 (.is 8 (.t 22) (.t 23)) 21,on 25 (.ld (some 8) (.t 24)) 21,eT 26 1 21,eT 27 7 21,on 28 (.is 8 (.t 26) (.t 27)) 21,on 29 (.ld (some 8) (.t 28)) 21,on 30 (.eqv (.aT [(.aT [(.i .i64),(.i .i64)]),(.i .i64),(.i .i64),(.i .i64),(.aT [(.i .i64),(.i .i64)]),.s]) false (.t 25) (.t 29)) 21,or 31 21 30,m 6 31]
def Lz:=some [[],[0],[1],[1],[2,3,1],[4,1],[1],[1],[6,7,1],[8,1],[5,9,1],[1,10],[11,1,0,1,2,3,4,5,6,7,8,9,10,11]]
def RY:=[m 18 7,ad 19 18 1,m 7 19]
def RZ:=[m 32 6,no 33 32]
def R0:=[o 4 (.mv bm)]
def RQ:=[m 12 5,ad 13 12 1,m 5 13]
def RS:=[o 4 (.mv T)]
def zx:bj:=(s (r RO) (s (s (r RP) (.block 0 (.loop (s (s (r RT) (.cond (.t 11) .skip (.exit 0))) (s (.block 1 (s (r RU) (s (s (r RV) (.block 2 (.loop (s (s (r RW) (.cond (.t 17) .skip (.exit 2))) (s (.block 3 (.b7 Lz RX)) (r RY)))))) (s (r RZ) (.cond (.t 33) (s (r R0) .ret) .skip))))) (r RQ)))))) (s (r RS) .ret)))
def DE:List bz:=[.tmp 4]
theorem JA:b8 Tryz.prog Tryz.f43 zx:=e (by kernel_rfl)
theorem KS:bY Tryz.prog Tryz.f43 DE:=e (by kernel_rfl)
theorem Ip:bP Tryz.prog 43:=e (by kernel_rfl)
def R1:=[b 2 0,b 3 1,o 4 (.alloc (.agg [.nils 8])),bq 5 0]
def R2:=[au 9 1 2,o 10 (.call 92 [.t 9]),no 11 10,m 8 11]
def R7:=[o 12 (.bld [.nils 8] []),p (.aT (some 1) (.t 4) (.t 12)),bq 5 81]
def R8:=[au 14 8 3,o 15 (.call 80 [.t 14]),no 16 15,m 13 16]
def R9:=[o 17 (.bld [.nils 8] []),p (.aT (some 1) (.t 4) (.t 17)),bq 5 80]
def Sa:=[au 19 1 2,f 20 0 0 3,au 21 2 20,o 22 (.call 94 [.t 19,.t 21]),m 18 22,o 23 (.ext (.t 18) 0),o 24 (.ext (.t 18) 1),m 6 23,m 7 24]
def Sb:=[m 26 7,m 27 26,dZ 28 0 0 2 27,gF 29 28 27,dz 30 6 27,cd 31 (.is 8 (.t 29) (.t 30)) 27,cd 32 (.ld (some 8) (.t 31)) 27,cd 33 (.ld (some 8) (.t 3)) 27,cd 34 (.eqv (.aT [(.aT [(.i .i64),(.i .i64)]),(.i .i64),(.i .i64),(.i .i64),(.aT [(.i .i64),(.i .i64)]),.s]) false (.t 32) (.t 33)) 27,and 35 27 34,m 25 35]
def LC:=some [[],[0],[1],[2,1],[1],[3,4,1],[5,1],[1],[6,7,1],[1,8],[9,1]]
def Sc:=[f 36 0 0 2,l 37 36,o 38 (.call 93 [.t 37]),o 39 (.bld [.nils 8] [(0,(.t 38))]),p (.aT (some 1) (.t 4) (.t 39)),bq 5 0]
def Sd:=[m 41 7,m 40 41]
def Se:=[o 42 (.bld [.nils 8] []),p (.aT (some 1) (.t 4) (.t 42)),bq 5 82]
def R3:=[f 44 0 0 2,l 45 44,o 46 (.call 100 [.t 45]),f 47 0 0 3,f 48 0 0 47,l 49 48,o 50 (.ix 6 1 none (.t 46) (.t 49)),f 51 0 0 3,f 52 1 1 51,l 53 52,lt 54 50 53,m 43 54]
def LA:=some [[],[0],[1],[],[3],[4],[2,5],[],[7],[8],[6,9],[10,2]]
def R4:=[o 55 (.bld [.nils 8] []),p (.aT (some 1) (.t 4) (.t 55)),bq 5 83]
def R5:=[f 57 0 0 2,l 58 57,o 59 (.len (.t 58)),o 60 (.bin .eql (.t 59) (aX 60)),m 56 60]
def R6:=[o 61 (.bld [.nils 8] []),p (.aT (some 1) (.t 4) (.t 61)),bq 5 2]
def vq:=[f 62 0 0 2,l 63 62,o 64 (.call 93 [.t 63]),m 65 6,au 66 8 3,o 67 (.bs 50 8 [.t 66]),o 68 (.call 101 [.t 64,.t 65,.t 67]),o 69 (.bld [.nils 8] [(0,(.t 68))]),p (.aT (some 1) (.t 4) (.t 69)),bq 5 0]
def LB:=some [[],[0],[1],[],[],[4],[2,3,5,2],[6],[7,6,0,1,2,3,4,5,6,7],[8,0,1,2,3,4,5,6,7,8]]
def zy:bj:=(s (r R1) (s (.block 0 (s (r R2) (.cond (.t 8) (s (r R7) .ret) (s (r R8) (.cond (.t 13) (s (r R9) .ret) .skip))))) (s (r Sa) (s (.block 1 (s (.b7 LC Sb) (.cond (.t 25) (s (r Sc) .ret) (s (r Sd) (.cond (.t 40) (s (r Se) .ret) (s (.b7 LA R3) (.cond (.t 43) (s (r R4) .ret) (s (r R5) (.cond (.t 56) (s (r R6) .ret) .skip))))))))) (s (.b7 LB vq) .ret)))))
def DF:List bz:=[.cell 4 (some 1),.tmp 5]
theorem JB:b8 Tryz.prog Tryz.f44 zy:=e (by kernel_rfl)
theorem KT:bY Tryz.prog Tryz.f44 DF:=e (by kernel_rfl)
theorem Iq:bP Tryz.prog 44:=e (by kernel_rfl)
def Sf:=[b 1 0,bq 2 0]
def Sg:=[au 3 1 1,o 4 (.call 92 [.t 3]),no 5 4]
def Sh:=[bq 2 81]
def Si:=[bq 2 0]
def zA:bj:=(s (r Sf) (s (s (r Sg) (.cond (.t 5) (s (r Sh) .ret) .skip)) (s (r Si) .ret)))
def DG:List bz:=[.tmp 2]
theorem JC:b8 Tryz.prog Tryz.f45 zA:=e (by kernel_rfl)
theorem KU:bY Tryz.prog Tryz.f45 DG:=e (by kernel_rfl)
theorem Ir:bP Tryz.prog 45:=e (by kernel_rfl)
def Sj:=[b 1 0,o 2 (.mv (.c (.de)))]
def Sk:=[o 3 (.mk 122 [.t 1]),m 2 3]
def zB:bj:=(s (r Sj) (s (r Sk) .ret))
def DH:List bz:=[.tmp 2]
theorem JD:b8 Tryz.prog Tryz.f69 zB:=e (by kernel_rfl)
theorem KV:bY Tryz.prog Tryz.f69 DH:=e (by kernel_rfl)
theorem Is:bP Tryz.prog 69:=e (by kernel_rfl)
def Bl:=[o 4 (.alloc (.agg [.agg [.int .i64 0,.int .i64 0],.int .i64 0,.int .i64 0,.int .i64 0,.agg [.int .i64 0,.int .i64 0],.aj ⟨#[]⟩])),o 5 (.alloc (.int .i64 0)),o 6 (.alloc (.bool false))]
def Sl:=[m 15 1,o 16 (.call 125 [.t 15,(.c (.aj ⟨#[10]⟩))]),m 14 16,o 17 (.ext (.t 14) 0),o 18 (.ext (.t 14) 1),m 7 17,m 8 18]
def Ss:=[m 19 8,no 20 19]
def Bo:=[o 21 (.bld [] []),o 22 (.prim (.mj 176) [.t 21]),p (.prim .kJ [.t 22])]
def St:=[bq 9 0]
def Su:=[o 10 (.alloc (.agg [.int .i64 0,.int .i64 0,.int .i64 0,.int .i64 0,.int .i64 0,.int .i64 0,.int .i64 0]))]
def Bp:=[m 24 7,o 25 (.call 126 [.t 24]),m 23 25,o 26 (.ext (.t 23) 0),o 27 (.ext (.t 23) 1),m 9 26,m 7 27]
def Sv:=[bq 28 0]
def Sw:=[o 29 (.bin .lss (.t 28) (aX 7))]
def Sx:=[m 30 28,m 11 30]
def Bm:=[m 32 11,m 33 7,o 34 (.call 126 [.t 33]),m 31 34,o 35 (.ext (.t 31) 0),o 36 (.ext (.t 31) 1),o 37 (.ia 7 1 (.t 10) (.t 32)),p (.aT none (.t 37) (.t 35)),m 7 36]
def Sm:=[ad 38 28 1,m 28 38]
def Sn:=[o 39 (.ia 7 1 (.t 10) (aX 0)),l 40 39,o 41 (.ia 7 1 (.t 10) (aX 1)),l 42 41,o 43 (.bld [.int .i64 0,.int .i64 0] [(0,(.t 40)),(1,(.t 42))]),o 44 (.ia 7 1 (.t 10) (aX 2)),l 45 44,o 46 (.ia 7 1 (.t 10) (aX 3)),l 47 46,o 48 (.ia 7 1 (.t 10) (aX 4)),l 49 48,o 50 (.ia 7 1 (.t 10) (aX 5)),l 51 50,o 52 (.ia 7 1 (.t 10) (aX 6)),l 53 52,o 54 (.bld [.int .i64 0,.int .i64 0] [(0,(.t 51)),(1,(.t 53))]),m 55 7,o 56 (.bld [.agg [.int .i64 0,.int .i64 0],.int .i64 0,.int .i64 0,.int .i64 0,.agg [.int .i64 0,.int .i64 0],.aj ⟨#[]⟩] [(0,(.t 43)),(1,(.t 45)),(2,(.t 47)),(3,(.t 49)),(4,(.t 54)),(5,(.t 55))]),p (.aT (some 8) (.t 4) (.t 56))]
def Sp:=[au 57 8 4,o 58 (.call 80 [.t 57]),no 59 58]
def Bn:=[o 60 (.bld [] []),o 61 (.prim (.mj 176) [.t 60]),p (.prim .kJ [.t 61])]
def Sq:=[m 63 0,au 64 8 4,o 65 (.call 81 [.t 63,.t 64]),m 62 65,o 66 (.ext (.t 62) 0),o 67 (.ext (.t 62) 1),m 12 66,p (.aT none (.t 5) (.t 67))]
def Sr:=[m 68 12,m 69 1,o 70 (.bin .neq (.t 68) (.t 69)),m 71 70,eT 72 9 71,e8 73 5 71,on 74 (.bin .neq (.t 72) (.t 73)) 71,or 75 71 74]
def vr:=[o 76 (.bld [] []),o 77 (.prim (.mj 176) [.t 76]),p (.prim .kJ [.t 77])]
def vt:=[au 78 8 4,l 79 5,p (.aT (some 8) (.t 4) (.t 78)),p (.aT none (.t 5) (.t 79)),p (.aT none (.t 6) T)]
def LD:=some [[],[],[0,0],[1,2,0,1,2],[3,0,1,2,3]] -- DRAW BAD
def tg:List bz:=[.cell 4 (some 8),.cell 5 none,.cell 6 none]
theorem KW:bY Tryz.prog Tryz.f70 tg:=e (by kernel_rfl)
theorem It:bP Tryz.prog 70:=e (by kernel_rfl)
def Sy:=[b 3 1,o 4 (.mv bm)]
def Sz:=[m 5 0,o 6 (.len (.t 5)),o 7 (.bin .lss (.t 6) (aX 60)),m 8 7,dz 9 0 8,cd 10 (.call 100 [.t 9]) 8,dZ 11 0 0 3 8,dZ 12 0 0 11 8,gF 13 12 8,cd 14 (.ix 6 1 none (.t 10) (.t 13)) 8,dZ 15 0 0 3 8,dZ 16 1 1 15 8,gF 17 16 8,cd 18 (.bin .eql (.t 14) (.t 17)) 8,and 19 8 18,m 4 19]
def LF:=some [[],[0],[1],[2],[3],[4,3,3],[3],[6,3],[7,3],[5,8,3],[3],[10,3],[11,3],[9,12,3],[3,13],[14,5,0,1,2,3,4,5,6,7,8,9,10,11,12,13,14]]
def zC:bj:=(s (r Sy) (s (.b7 LF Sz) .ret))
def DI:List bz:=[.tmp 4]
theorem JE:b8 Tryz.prog Tryz.f71 zC:=e (by kernel_rfl)
theorem KX:bY Tryz.prog Tryz.f71 DI:=e (by kernel_rfl)
theorem Iu:bP Tryz.prog 71:=e (by kernel_rfl)
def SA:=[b 1 0,o 2 (.mv (.c (.aj ⟨#[]⟩)))]
def SB:=[f 3 0 0 1,l 4 3,f 5 1 1 1,l 6 5,o 7 (.bin .add (.t 4) (.t 6)),m 2 7]
def zD:bj:=(s (r SA) (s (r SB) .ret))
def DJ:List bz:=[.tmp 2]
theorem JF:b8 Tryz.prog Tryz.f73 zD:=e (by kernel_rfl)
theorem KY:bY Tryz.prog Tryz.f73 DJ:=e (by kernel_rfl)
theorem Iv:bP Tryz.prog 73:=e (by kernel_rfl)
def SC:=[o 2 (.mv (.c (.aj ⟨#[]⟩)))]
def SD:=[m 3 0,o 4 (.call 127 [.t 3]),m 2 4]
def zE:bj:=(s (r SC) (s (r SD) .ret))
def DK:List bz:=[.tmp 2]
theorem JG:b8 Tryz.prog Tryz.f74 zE:=e (by kernel_rfl)
theorem KZ:bY Tryz.prog Tryz.f74 DK:=e (by kernel_rfl)
theorem Iw:bP Tryz.prog 74:=e (by kernel_rfl)
def SE:=[b 3 0,o 6 (.alloc (.agg [.aj ⟨#[]⟩,.aj ⟨#[]⟩]))]
def lA:=[f 9 1 1 3,l 10 9,m 11 1,m 12 2,f 13 1 1 3,l 14 13,o 15 (.lenT (.t 14)),ad 16 15 1,o 17 (.call 121 [.t 11,.t 12,.t 16]),o 18 (.prim (.ss false true) [.t 10,.t 17]),o 19 (.eM (.t 18)),m 7 19]
def LG:=some [[],[0],[],[],[],[4],[5],[6],[2,3,7],[1,8],[9],[10,8,0,1,2,3,4,5,6,7,8,9,10]]
def SF:=[m 20 1,m 21 2,ad 22 21 1,o 23 (.call 121 [.t 20,.t 22,(aX 2)]),o 24 (.bin .eql (.t 23) (aX 1)),m 25 24,dz 26 7 25,cd 27 (.len (.t 26)) 25,cd 28 (.bin .gtr (.t 27) (aX 0)) 25,and 29 25 28]
def SG:=[m 30 7,m 31 1,m 32 2,ad 33 32 2,m 34 7,o 35 (.len (.t 34)),o 36 (.call 121 [.t 31,.t 33,.t 35]),o 37 (.is 1 (.t 30) (.t 36)),p (.aT none (.t 37) (.c (.int .u8 63)))]
def SH:=[f 38 0 0 3,l 39 38,o 40 (.lenT (.t 39)),m 41 7,o 42 (.len (.t 41)),o 43 (.bin .add (.t 40) (.t 42)),o 44 (.jz 5 1 (.int .u8 0) (.t 43)),m 8 44]
def SI:=[m 45 8,f 46 0 0 3,l 47 46,o 48 (.gp 1 (.t 45) (.t 47))]
def SJ:=[m 49 8,f 50 0 0 3,l 51 50,o 52 (.lenT (.t 51)),o 53 (.sl 1 (.t 49) (some (.t 52)) none none),m 54 7,o 55 (.gp 1 (.t 53) (.t 54))]
def SK:=[m 56 8,o 57 (.b2s (.t 56)),o 58 (.bld [.aj ⟨#[]⟩,.aj ⟨#[]⟩] [(0,(.t 57))]),p (.aT (some 2) (.t 6) (.t 58))]
def c75:bj:=(s (r SE) (s (.b7 LG lA) (s (s (r SF) (.cond (.t 29) (r SG) .skip)) (s (r SH) (s (r SI) (s (r SJ) (s (r SK) .ret)))))))
def DL:List bz:=[.cell 6 (some 2)]
theorem JH:b8 Tryz.prog Tryz.f75 c75:=e (by kernel_rfl)
theorem K0:bY Tryz.prog Tryz.f75 DL:=e (by kernel_rfl)
theorem Iy:bP Tryz.prog 75:=e (by kernel_rfl)
def SL:=[b 3 1,o 4 (.alloc (.agg [.agg [.int .i64 0,.int .i64 0],.int .i64 0,.int .i64 0,.int .i64 0,.agg [.int .i64 0,.int .i64 0],.aj ⟨#[]⟩]))]
def SM:=[o 8 (.ia 5 1 (.t 3) (aX 0)),l 9 8,o 10 (.call 28 [.t 9,(aX 3)]),m 5 10]
def SP:=[m 11 5,m 12 0,o 13 (.call 102 [.t 12]),m 14 5,o 15 (.ix 6 1 none (.t 13) (.t 14)),o 16 (.bld [.int .i64 0,.int .i64 0] [(0,(.t 11)),(1,(.t 15))]),o 17 (.ia 5 1 (.t 3) (aX 1)),l 18 17,o 19 (.call 28 [.t 18,(aX 6)]),o 20 (.ia 5 1 (.t 3) (aX 2)),l 21 20,o 22 (.call 28 [.t 21,(aX 50)]),o 23 (.ia 5 1 (.t 3) (aX 3)),l 24 23,o 25 (.call 28 [.t 24,(aX 50)]),o 26 (.bld [.agg [.int .i64 0,.int .i64 0],.int .i64 0,.int .i64 0,.int .i64 0,.agg [.int .i64 0,.int .i64 0],.aj ⟨#[]⟩] [(0,(.t 16)),(1,(.t 19)),(2,(.t 22)),(3,(.t 25))]),o 6 (.alloc (.agg [.agg [.int .i64 0,.int .i64 0],.int .i64 0,.int .i64 0,.int .i64 0,.agg [.int .i64 0,.int .i64 0],.aj ⟨#[]⟩])),p (.aT (some 8) (.t 6) (.t 26))]
def LH:=some [[],[],[1],[],[2,3],[0,4],[],[6],[7,2],[],[9],[10,8],[],[12],[13,11],[5,8,11,14],[],[16,15,14,0,1,2,3,4,5,6,7,8,9,10,11,12,13,14,15,16]]
def SQ:=[f 27 1 2 6,l 28 27,o 29 (.bin .eql (.t 28) (aX 0)),m 30 29,dZ 31 0 0 6 30,dZ 32 1 1 31 30,gF 33 32 30,cd 34 (.bin .gtr (.t 33) (aX 0)) 30,and 35 30 34]
def SR:=[f 36 2 3 6,p (.aT none (.t 36) (aX 0))]
def SS:=[m 37 5,o 38 (.ia 5 1 (.t 3) (aX 2)),l 39 38,f 40 0 0 6,f 41 1 1 40,l 42 41,o 43 (.call 28 [.t 39,.t 42]),o 44 (.bld [.int .i64 0,.int .i64 0] [(0,(.t 37)),(1,(.t 43))]),f 45 4 5 6,p (.aT (some 2) (.t 45) (.t 44))]
def SU:=[au 46 8 6,p (.aT (some 8) (.t 4) (.t 46))]
def SV:=[f 47 1 2 6,l 48 47,o 49 (.bin .eql (.t 48) (aX 0))]
def SX:=[f 50 1 2 6,p (.aT none (.t 50) (aX 7))]
def SY:=[o 51 (.bs 9 1 [(.c (.aj ⟨#[]⟩)),(.c (.aj ⟨#[97]⟩)),(.c (.aj ⟨#[98,101,97,115,116,32,49,55]⟩)),(.c (.aj ⟨#[48,32,48,32,49,32,48,32,48,32,48]⟩)),(.c (.aj ⟨#[32]⟩)),(.c (.aj ⟨#[97,32,116,101,120,116,32,111,102,32,97,32,108,101,110,103,116,104,32,116,104,97,116,32,116,101,97,114,115,32,105,110,32,105,116,115,32,109,105,100,115,116]⟩))]),m 7 51]
def SN:=[m 52 7,o 53 (.ia 5 1 (.t 3) (aX 4)),l 54 53,o 55 (.call 28 [.t 54,(aX 6)]),o 56 (.is 1 (.t 52) (.t 55)),l 57 56,f 58 5 7 6,p (.aT none (.t 58) (.t 57))]
def SO:=[au 59 8 6,p (.aT (some 8) (.t 4) (.t 59))]
def zF:bj:=(s (r SL) (s (r SM) (s (.b7 LH SP) (s (s (r SQ) (.cond (.t 35) (s (r SR) (s (r SS) (s (r SU) .ret))) .skip)) (s (s (r SV) (.cond (.t 49) (r SX) .skip)) (s (r SY) (s (r SN) (s (r SO) .ret))))))))
def DM:List bz:=[.cell 4 (some 8)]
theorem JI:b8 Tryz.prog Tryz.f78 zF:=e (by kernel_rfl)
theorem K1:bY Tryz.prog Tryz.f78 DM:=e (by kernel_rfl)
theorem Iz:bP Tryz.prog 78:=e (by kernel_rfl)
def SZ:=[o 2 (.mv bm)]
def S0:=[m 3 0,o 4 (.call 128 [.t 3,(aX 0),(aX 1000002)]),m 2 4]
def zG:bj:=(s (r SZ) (s (r S0) .ret))
def DN:List bz:=[.tmp 2]
theorem JJ:b8 Tryz.prog Tryz.f79 zG:=e (by kernel_rfl)
theorem K2:bY Tryz.prog Tryz.f79 DN:=e (by kernel_rfl)
theorem IA:bP Tryz.prog 79:=e (by kernel_rfl)
def S1:=[b 1 0,o 2 (.mv bm)]
def S2:=[f 3 0 0 1,au 4 2 3,o 5 (.call 129 [.t 4]),no 6 5,m 7 6,fn 8 1 2 1 7,e8 9 8 7,on 10 (.call 128 [.t 9,(aX 0),(aX 40)]) 7,on 11 (.un .not (.t 10)) 7,or 12 7 11,m 13 12,fn 14 2 3 1 13,e8 15 14 13,on 16 (.call 105 [.t 15]) 13,on 17 (.un .not (.t 16)) 13,or 18 13 17,m 19 18,fn 20 3 4 1 19,e8 21 20 19,on 22 (.call 105 [.t 21]) 19,on 23 (.un .not (.t 22)) 19,or 24 19 23,m 25 24,fn 26 5 7 1 25,e8 27 26 25,on 28 (.call 130 [.t 27]) 25,on 29 (.un .not (.t 28)) 25,or 30 25 29]
def S3:=[o 2 (.mv bm)]
def S4:=[f 31 1 2 1,l 32 31,o 33 (.bin .eql (.t 32) (aX 0))]
def S5:=[f 34 2 3 1,l 35 34,o 36 (.bin .eql (.t 35) (aX 0)),m 37 36,dZ 38 5 7 1 37,gF 39 38 37,cd 40 (.bin .eql (.t 39) (.c (.aj ⟨#[]⟩))) 37,and 41 37 40,m 42 41,dZ 43 4 5 1 42,cd 44 (.ld (some 2) (.t 43)) 42,cd 45 (.call 129 [.t 44]) 42,and 46 42 45,m 47 46,dZ 48 4 5 1 47,dZ 49 0 0 48 47,gF 50 49 47,dZ 51 0 0 1 47,dZ 52 0 0 51 47,gF 53 52 47,cd 54 (.bin .eql (.t 50) (.t 53)) 47,and 55 47 54,m 56 55,dZ 57 4 5 1 56,dZ 58 1 1 57 56,gF 59 58 56,dZ 60 0 0 1 56,dZ 61 1 1 60 56,gF 62 61 56,cd 63 (.bin .lss (.t 59) (.t 62)) 56,and 64 56 63,m 2 64]
def S6:=[f 65 4 5 1,au 66 2 65,o 67 (.bld [.int .i64 0,.int .i64 0] []),o 68 (.eqv (.aT [(.i .i64),(.i .i64)]) false (.t 66) (.t 67)),m 2 68]
def c80:bj:=(s (r S1) (s (s (r S2) (.cond (.t 30) (s (r S3) .ret) .skip)) (s (s (r S4) (.cond (.t 33) (s (r S5) .ret) .skip)) (s (r S6) .ret))))
def DO:List bz:=[.tmp 2]
theorem JK:b8 Tryz.prog Tryz.f80 c80:=e (by kernel_rfl)
theorem K3:bY Tryz.prog Tryz.f80 DO:=e (by kernel_rfl)
theorem IB:bP Tryz.prog 80:=e (by kernel_rfl)
def S7:=[b 3 1,o 4 (.mv (.c (.aj ⟨#[]⟩))),bq 5 0]
def S8:=[au 9 8 3,o 10 (.call 131 [.t 9]),m 6 10]
def S9:=[m 11 6,o 12 (.eM (.t 11)),o 13 (.len (.t 12)),bq 14 0]
def Ta:=[lt 15 14 13]
def Tb:=[o 16 (.is 1 (.t 12) (.t 14)),l 17 16,m 8 17]
def Tc:=[m 18 0,o 19 (.bin .mul (aX 257) (.t 18)),m 20 8,o 21 (.conv .i64 (.t 20)),o 22 (.bin .add (.t 19) (.t 21)),ad 23 22 1,o 24 (.bin .rem (.t 23) (aX 1000003)),m 0 24]
def Td:=[ad 25 14 1,m 14 25]
def Te:=[m 26 0,o 27 (.call 132 [.t 26]),o 28 (.bin .add (.t 27) (.c (.aj ⟨#[32]⟩))),m 29 6,o 30 (.bin .add (.t 28) (.t 29)),o 31 (.bin .add (.t 30) (.c (.aj ⟨#[10]⟩))),m 32 0,m 4 31,m 5 32]
def zH:bj:=(s (r S7) (s (r S8) (s (s (r S9) (.block 0 (.loop (s (r Ta) (s (.cond (.t 15) .skip (.exit 0)) (s (.block 1 (s (r Tb) (r Tc))) (r Td))))))) (s (r Te) .ret))))
def DP:List bz:=[.tmp 4,.tmp 5]
theorem JL:b8 Tryz.prog Tryz.f81 zH:=e (by kernel_rfl)
theorem K4:bY Tryz.prog Tryz.f81 DP:=e (by kernel_rfl)
theorem IC:bP Tryz.prog 81:=e (by kernel_rfl)
def Tf:=[o 6 (.mv bm)]
def Tg:=[m 7 0,m 8 1,o 9 (.bin .geq (.t 7) (.t 8)),m 10 9,dz 11 0 10,dz 12 2 10,cd 13 (.bin .leq (.t 11) (.t 12)) 10,and 14 10 13,m 6 14]
def zI:bj:=(s (r Tf) (s (r Tg) .ret))
def DQ:List bz:=[.tmp 6]
theorem JM:b8 Tryz.prog Tryz.f82 zI:=e (by kernel_rfl)
theorem K5:bY Tryz.prog Tryz.f82 DQ:=e (by kernel_rfl)
theorem ID:bP Tryz.prog 82:=e (by kernel_rfl)
def Th:=[b 3 1,o 4 (.mv (.c (.aj ⟨#[]⟩))),bq 5 0]
def Ti:=[au 8 8 3,o 9 (.call 133 [.t 8]),m 6 9]
def Tj:=[bq 7 0]
def Tk:=[m 10 7,m 11 6,o 12 (.lenT (.t 11)),lt 13 10 12]
def Tl:=[m 16 0,o 17 (.bin .mul (aX 257) (.t 16)),m 18 6,m 19 7,o 20 (.prim .dJ [.t 18,.t 19]),o 21 (.conv .i64 (.t 20)),o 22 (.bin .add (.t 17) (.t 21)),ad 23 22 1,o 24 (.bin .rem (.t 23) (aX 1000003)),m 0 24]
def Tm:=[m 14 7,ad 15 14 1,m 7 15]
def Tn:=[m 25 0,o 26 (.call 134 [.t 25]),o 27 (.bin .add (.t 26) (.c (.aj ⟨#[32]⟩))),m 28 6,o 29 (.bin .add (.t 27) (.t 28)),o 30 (.bin .add (.t 29) (.c (.aj ⟨#[10]⟩))),m 31 0,m 4 30,m 5 31]
def zJ:bj:=(s (r Th) (s (r Ti) (s (s (r Tj) (.block 0 (.loop (s (s (r Tk) (.cond (.t 13) .skip (.exit 0))) (s (.block 1 (r Tl)) (r Tm)))))) (s (r Tn) .ret))))
def DR:List bz:=[.tmp 4,.tmp 5]
theorem JN:b8 Tryz.prog Tryz.f83 zJ:=e (by kernel_rfl)
theorem K6:bY Tryz.prog Tryz.f83 DR:=e (by kernel_rfl)
theorem IE:bP Tryz.prog 83:=e (by kernel_rfl)
def Tp:=[b 1 0,o 2 (.mv bm)]
def Tq:=[f 3 0 0 1,l 4 3,o 5 (.call 82 [.t 4,(aX 0),(aX 5)]),m 6 5,dZ 7 1 1 1 6,gF 8 7 6,cd 9 (.call 82 [.t 8,(aX 0),(aX 9999)]) 6,and 10 6 9,m 2 10]
def c85:bj:=(s (r Tp) (s (r Tq) .ret))
def DS:List bz:=[.tmp 2]
theorem JO:b8 Tryz.prog Tryz.f85 c85:=e (by kernel_rfl)
theorem K7:bY Tryz.prog Tryz.f85 DS:=e (by kernel_rfl)
theorem IF:bP Tryz.prog 85:=e (by kernel_rfl)
def Tr:=[o 2 (.mv bm)]
def Ts:=[m 4 0,o 5 (.lenT (.t 4)),o 6 (.bin .gtr (.t 5) (aX 160))]
def Tt:=[o 2 (.mv bm)]
def Tu:=[bq 3 0]
def Tv:=[m 7 3,m 8 0,o 9 (.lenT (.t 8)),lt 10 7 9]
def Tw:=[m 13 0,m 14 3,o 15 (.prim .dJ [.t 13,.t 14]),o 16 (.bin .lss (.t 15) (.c (.int .u8 32))),m 17 16,eT 18 0 17,eT 19 3 17,on 20 (.prim .dJ [.t 18,.t 19]) 17,on 21 (.bin .gtr (.t 20) (.c (.int .u8 126))) 17,or 22 17 21,m 23 22,eT 24 0 23,eT 25 3 23,on 26 (.prim .dJ [.t 24,.t 25]) 23,on 27 (.bin .eql (.t 26) (.c (.int .u8 63))) 23,or 28 23 27]
def Tx:=[o 2 (.mv bm)]
def Ty:=[m 11 3,ad 12 11 1,m 3 12]
def Tz:=[o 2 (.mv T)]
def zK:bj:=(s (r Tr) (s (s (r Ts) (.cond (.t 6) (s (r Tt) .ret) .skip)) (s (s (r Tu) (.block 0 (.loop (s (s (r Tv) (.cond (.t 10) .skip (.exit 0))) (s (.block 1 (s (r Tw) (.cond (.t 28) (s (r Tx) .ret) .skip))) (r Ty)))))) (s (r Tz) .ret))))
def DT:List bz:=[.tmp 2]
theorem JP:b8 Tryz.prog Tryz.f86 zK:=e (by kernel_rfl)
theorem K8:bY Tryz.prog Tryz.f86 DT:=e (by kernel_rfl)
theorem IG:bP Tryz.prog 86:=e (by kernel_rfl)
def TA:=[b 2 0,o 4 (.mv bm)]
def TB:=[m 6 1,o 7 (.call 98 [.t 6]),no 8 7,m 9 8,fn 10 0 0 2 9,on 11 (.ld (some 2) (.t 10)) 9,on 12 (.call 73 [.t 11]) 9,eT 13 1 9,on 14 (.call 135 [.t 13]) 9,on 15 (.bin .neq (.t 12) (.t 14)) 9,or 16 9 15]
def TC:=[o 4 (.mv bm)]
def TD:=[m 17 1,o 18 (.len (.t 17)),ad 19 18 1,bq 20 0]
def TE:=[lt 21 20 19]
def TF:=[m 22 20,m 5 22]
def TG:=[f 23 1 2 2,au 24 2 23,o 25 (.call 73 [.t 24]),m 26 1,m 27 5,o 28 (.sl 8 (.t 26) none (some (.t 27)) none),o 29 (.call 135 [.t 28]),o 30 (.bin .eql (.t 25) (.t 29))]
def LI:=some [[],[0],[1],[],[],[3,4],[5,2],[2,6]]
def TH:=[o 4 (.mv T)]
def TI:=[ad 31 20 1,m 20 31]
def TJ:=[o 4 (.mv bm)]
def zL:bj:=(s (r TA) (s (s (r TB) (.cond (.t 16) (s (r TC) .ret) .skip)) (s (s (r TD) (.block 0 (.loop (s (r TE) (s (.cond (.t 21) .skip (.exit 0)) (s (.block 1 (s (r TF) (s (.b7 LI TG) (.cond (.t 30) (s (r TH) .ret) .skip)))) (r TI))))))) (s (r TJ) .ret))))
def DU:List bz:=[.tmp 4]
theorem JQ:b8 Tryz.prog Tryz.f87 zL:=e (by kernel_rfl)
theorem K9:bY Tryz.prog Tryz.f87 DU:=e (by kernel_rfl)
theorem IH:bP Tryz.prog 87:=e (by kernel_rfl)
def TK:=[b 3 0,b 5 2,o 6 (.alloc (.agg [.agg [.aj ⟨#[]⟩,.aj ⟨#[]⟩],.agg [.aj ⟨#[]⟩,.aj ⟨#[]⟩]])),o 7 (.mv (.c (.nils 8))),bq 8 0]
def TL:=[m 13 1,au 14 8 5,o 15 (.call 136 [.t 13,.t 14])]
def vu:=[au 16 4 3,m 17 1,o 18 (.call 93 [.t 17]),p (.aT (some 4) (.t 6) (.t 16)),m 7 18,bq 8 0]
def LJ:=some [[],[],[1],[0,2,0],[2,3,0,1,2,3],[4,0,1,2,3,4]]
def TM:=[m 20 1,o 21 (.call 95 [.t 20]),au 22 8 5,o 23 (.call 44 [.t 21,.t 22]),m 19 23,o 24 (.ext (.t 19) 0),o 25 (.ext (.t 19) 1),o 9 (.alloc (.agg [.nils 8])),p (.aT (some 1) (.t 9) (.t 24)),m 10 25]
def LK:=some [[],[0],[],[1,2,1],[3],[4],[4],[],[7,5,3,0,1,2,3,4,5,7],[6,8,0,1,2,3,4,5,6,7,8]]
def TN:=[m 26 10,o 27 (.bin .neq (.t 26) (aX 0))]
def TO:=[o 28 (.bld [.agg [.aj ⟨#[]⟩,.aj ⟨#[]⟩],.agg [.aj ⟨#[]⟩,.aj ⟨#[]⟩]] []),m 29 10,p (.aT (some 4) (.t 6) (.t 28)),o 7 (.mv (.c (.nils 8))),m 8 29]
def TP:=[m 31 1,o 32 (.call 137 [.t 31]),au 33 8 5,o 34 (.call 81 [.t 32,.t 33]),m 30 34,o 35 (.ext (.t 30) 0),o 36 (.ext (.t 30) 1),m 11 35,m 12 36]
def LL:=some [[],[0],[],[1,2,1],[3],[4],[4],[5,3,0,1,2,3,4,5],[6,7,0,1,2,3,4,5,6,7]]
def TQ:=[f 37 0 0 3,f 38 1 1 37,l 39 38,m 40 11,o 41 (.bin .add (.t 39) (.t 40)),f 42 0 0 3,f 43 1 1 42,p (.aT none (.t 43) (.t 41))]
def vv:=[au 44 4 3,m 45 1,o 46 (.call 93 [.t 45]),au 47 8 5,o 48 (.bs 50 8 [.t 47]),o 49 (.dM 50 8 72 (.agg [.agg [.int .i64 0,.int .i64 0],.int .i64 0,.int .i64 0,.int .i64 0,.agg [.int .i64 0,.int .i64 0],.aj ⟨#[]⟩]) (.t 46) (.t 48)),p (.aT (some 4) (.t 6) (.t 44)),m 7 49,bq 8 0]
def LM:=some [[],[],[1],[],[3],[2,4,2],[0,5,0],[5,6,0,1,2,3,4,5,6],[7,0,1,2,3,4,5,6,7]] -- DRAW BAD
def zM:bj:=(s (r TK) (s (s (r TL) (.cond (.t 15) (s (.b7 LJ vu) .ret) .skip)) (s (s (.b7 LK TM) (s (r TN) (.cond (.t 27) (s (r TO) .ret) .skip))) (s (.b7 LL TP) (s (r TQ) (s (.b7 LM vv) .ret))))))
def DV:List bz:=[.cell 6 (some 4),.tmp 7,.tmp 8]
theorem JR:b8 Tryz.prog Tryz.f88 zM:=e (by kernel_rfl)
theorem La:bY Tryz.prog Tryz.f88 DV:=e (by kernel_rfl)
theorem II:bP Tryz.prog 88:=e (by kernel_rfl)
def TR:=[o 2 (.mv (.c (.aj ⟨#[]⟩)))]
def TS:=[o 3 (.mv (.c (.aj ⟨#[]⟩)))]
def TT:=[bq 4 1]
def TU:=[bq 5 0]
def TV:=[m 8 5,m 9 0,o 10 (.len (.t 9)),lt 11 8 10]
def TW:=[m 15 4,m 16 0,m 17 5,o 18 (.is 8 (.t 16) (.t 17)),au 19 8 18,o 20 (.call 83 [.t 15,.t 19]),m 14 20,o 21 (.ext (.t 14) 0),o 22 (.ext (.t 14) 1),m 6 21,m 7 22]
def TX:=[m 23 3,m 24 6,o 25 (.bin .add (.t 23) (.t 24)),m 3 25]
def TY:=[m 26 7,m 4 26]
def TZ:=[m 12 5,ad 13 12 1,m 5 13]
def T0:=[m 27 3,m 2 27]
def zN:bj:=(s (r TR) (s (r TS) (s (r TT) (s (s (r TU) (.block 0 (.loop (s (s (r TV) (.cond (.t 11) .skip (.exit 0))) (s (.block 1 (s (r TW) (s (r TX) (r TY)))) (r TZ)))))) (s (r T0) .ret)))))
def DW:List bz:=[.tmp 2]
theorem JS:b8 Tryz.prog Tryz.f90 zN:=e (by kernel_rfl)
theorem Lb:bY Tryz.prog Tryz.f90 DW:=e (by kernel_rfl)
theorem IJ:bP Tryz.prog 90:=e (by kernel_rfl)
def T6:=[b 1 0,o 2 (.mv bm)]
def T7:=[f 6 0 0 1,l 7 6,o 8 (.len (.t 7)),bq 9 0]
def Ub:=[lt 10 9 8]
def Uc:=[m 11 9,o 12 (.is 8 (.t 7) (.t 9)),au 13 8 12,o 4 (.alloc (.agg [.agg [.int .i64 0,.int .i64 0],.int .i64 0,.int .i64 0,.int .i64 0,.agg [.int .i64 0,.int .i64 0],.aj ⟨#[]⟩])),m 3 11,p (.aT (some 8) (.t 4) (.t 13))]
def Ud:=[au 14 8 4,o 15 (.call 80 [.t 14]),no 16 15]
def Ue:=[o 2 (.mv bm)]
def Uf:=[o 17 (.bld [.int .i64 0,.int .i64 0] [(0,(.c (.int .i64 (-1))))]),o 5 (.alloc (.agg [.int .i64 0,.int .i64 0])),p (.aT (some 2) (.t 5) (.t 17))]
def Ug:=[m 18 3,o 19 (.bin .gtr (.t 18) (aX 0))]
def Uh:=[f 20 0 0 1,l 21 20,m 22 3,o 23 (.bin .sub (.t 22) (aX 1)),o 24 (.is 8 (.t 21) (.t 23)),f 25 0 0 24,au 26 2 25,p (.aT (some 2) (.t 5) (.t 26))]
def Ui:=[f 27 0 0 4,au 28 2 27,f 29 0 0 5,l 30 29,f 31 1 1 5,l 32 31,ad 33 32 1,o 34 (.bld [.int .i64 0,.int .i64 0] [(0,(.t 30)),(1,(.t 33))]),o 35 (.eqv (.aT [(.i .i64),(.i .i64)]) true (.t 28) (.t 34)),m 36 35,dZ 37 0 0 4 36,dZ 38 0 0 37 36,gF 39 38 36,dZ 40 0 0 5 36,gF 41 40 36,cd 42 (.bin .leq (.t 39) (.t 41)) 36,dz 43 42 36,fn 44 0 0 4 43,fn 45 1 1 44 43,e8 46 45 43,on 47 (.bin .neq (.t 46) (aX 0)) 43,cd 48 (.pick (.t 43) T (.t 47)) 36,and 49 36 48]
def T8:=[o 2 (.mv bm)]
def T9:=[ad 50 9 1,m 9 50]
def Ua:=[f 51 0 0 1,l 52 51,o 53 (.len (.t 52)),o 54 (.bin .leq (.t 53) (aX 60)),m 2 54]
def zO:bj:=(s (r T6) (s (s (r T7) (.block 0 (.loop (s (r Ub) (s (.cond (.t 10) .skip (.exit 0)) (s (.block 1 (s (r Uc) (s (s (r Ud) (.cond (.t 16) (s (r Ue) .ret) .skip)) (s (r Uf) (s (s (r Ug) (.cond (.t 19) (r Uh) .skip)) (s (r Ui) (.cond (.t 49) (s (r T8) .ret) .skip))))))) (r T9))))))) (s (r Ua) .ret)))
def DX:List bz:=[.tmp 2]
theorem JT:b8 Tryz.prog Tryz.f92 zO:=e (by kernel_rfl)
theorem Lc:bY Tryz.prog Tryz.f92 DX:=e (by kernel_rfl)
theorem IK:bP Tryz.prog 92:=e (by kernel_rfl)
def vx:=[o 2 (.mv (.c (.nils 8)))]
def qa:=[m 3 0,o 4 (.nilS false (.t 3))]
def vy:=[o 2 (.mv (.c (.nils 8)))]
def qb:=[o 5 (.bs0 8),m 6 0,o 7 (.dM 50 8 72 (.agg [.agg [.int .i64 0,.int .i64 0],.int .i64 0,.int .i64 0,.int .i64 0,.agg [.int .i64 0,.int .i64 0],.aj ⟨#[]⟩]) (.t 5) (.t 6)),m 2 7]
def uI:bj:=(s (r vx) (s (s (r qa) (.cond (.t 4) (s (r vy) .ret) .skip)) (s (r qb) .ret)))
def wL:List bz:=[.tmp 2]
theorem Aa:b8 Tryz.prog Tryz.f93 uI:=e (by kernel_rfl)
theorem Am:bY Tryz.prog Tryz.f93 wL:=e (by kernel_rfl)
theorem zX:bP Tryz.prog 93:=e (by kernel_rfl)
def Uj:=[b 2 0,b 3 1,bq 4 0,o 5 (.mv bm)]
def Uk:=[f 6 0 0 2,l 7 6,au 8 2 3,o 9 (.call 138 [.t 7,.t 8,(.c (.func 139 []))]),o 10 (.ext (.t 9) 0),o 11 (.ext (.t 9) 1),m 4 10,m 5 11]
def zP:bj:=(s (r Uj) (s (r Uk) .ret))
def DY:List bz:=[.tmp 4,.tmp 5]
theorem JU:b8 Tryz.prog Tryz.f94 zP:=e (by kernel_rfl)
theorem Ld:bY Tryz.prog Tryz.f94 DY:=e (by kernel_rfl)
theorem IL:bP Tryz.prog 94:=e (by kernel_rfl)
def Ul:=[o 2 (.alloc (.agg [.nils 8]))]
def Um:=[m 4 0,o 5 (.call 93 [.t 4]),m 3 5]
def Bq:=[m 6 3,o 7 (.call 141 [.t 6,(.c (.func 142 []))])]
def Un:=[m 8 3,o 9 (.bld [.nils 8] [(0,(.t 8))]),p (.aT (some 1) (.t 2) (.t 9))]
def uJ:bj:=(s (r Ul) (s (r Um) (s (r Bq) (s (r Un) .ret))))
def wM:List bz:=[.cell 2 (some 1)]
theorem Ab:b8 Tryz.prog Tryz.f95 uJ:=e (by kernel_rfl)
theorem An:bY Tryz.prog Tryz.f95 wM:=e (by kernel_rfl)
theorem zY:bP Tryz.prog 95:=e (by kernel_rfl)
def Uo:=[o 2 (.mv bm)]
def Up:=[m 5 0,o 6 (.len (.t 5)),bq 7 0]
def Uq:=[lt 8 7 6]
def Ur:=[m 9 7,o 10 (.is 8 (.t 5) (.t 7)),au 11 8 10,o 4 (.alloc (.agg [.agg [.int .i64 0,.int .i64 0],.int .i64 0,.int .i64 0,.int .i64 0,.agg [.int .i64 0,.int .i64 0],.aj ⟨#[]⟩])),m 3 9,p (.aT (some 8) (.t 4) (.t 11))]
def Us:=[au 12 8 4,o 13 (.call 80 [.t 12]),no 14 13,m 15 14,eT 16 0 15,eT 17 3 15,on 18 (.sl 8 (.t 16) none (some (.t 17)) none) 15,on 19 (.ld (some 8) (.t 4)) 15,on 20 (.call 71 [.t 18,.t 19]) 15,on 21 (.un .not (.t 20)) 15,or 22 15 21]
def LN:=some [[],[0],[1],[2,1],[3],[3],[4,5,3],[3],[6,7,3,3],[8,3],[3,9]]
def Ut:=[o 2 (.mv bm)]
def Uu:=[ad 23 7 1,m 7 23]
def Uv:=[o 2 (.mv T)]
def zQ:bj:=(s (r Uo) (s (s (r Up) (.block 0 (.loop (s (r Uq) (s (.cond (.t 8) .skip (.exit 0)) (s (.block 1 (s (r Ur) (s (.b7 LN Us) (.cond (.t 22) (s (r Ut) .ret) .skip)))) (r Uu))))))) (s (r Uv) .ret)))
def DZ:List bz:=[.tmp 2]
theorem JV:b8 Tryz.prog Tryz.f98 zQ:=e (by kernel_rfl)
theorem Le:bY Tryz.prog Tryz.f98 DZ:=e (by kernel_rfl)
theorem IM:bP Tryz.prog 98:=e (by kernel_rfl)
def MV:=[o 2 (.alloc (.agg [.int .i64 0,.int .i64 0,.int .i64 0,.int .i64 0,.int .i64 0,.int .i64 0]))]
def MW:=[o 3 (.alloc (.agg [.int .i64 0,.int .i64 0,.int .i64 0,.int .i64 0,.int .i64 0,.int .i64 0]))]
def MX:=[m 6 0,o 7 (.len (.t 6)),bq 8 0]
def MY:=[lt 9 8 7]
def MZ:=[o 10 (.is 8 (.t 6) (.t 8)),au 11 8 10,o 5 (.alloc (.agg [.agg [.int .i64 0,.int .i64 0],.int .i64 0,.int .i64 0,.int .i64 0,.agg [.int .i64 0,.int .i64 0],.aj ⟨#[]⟩])),p (.aT (some 8) (.t 5) (.t 11))]
def M0:=[f 12 0 0 5,f 13 0 0 12,l 14 13,o 15 (.ia 6 1 (.t 3) (.t 14)),l 16 15,ad 17 16 1,o 18 (.ia 6 1 (.t 3) (.t 14)),p (.aT none (.t 18) (.t 17))]
def M2:=[ad 19 8 1,m 8 19]
def M3:=[au 20 6 3,p (.aT (some 6) (.t 2) (.t 20))]
def yQ:bj:=(s (r MV) (s (r MW) (s (s (r MX) (.block 0 (.loop (s (r MY) (s (.cond (.t 9) .skip (.exit 0)) (s (.block 1 (s (r MZ) (r M0))) (r M2))))))) (s (r M3) .ret))))
def CY:List bz:=[.cell 2 (some 6)]
theorem IZ:b8 Tryz.prog Tryz.f100 yQ:=e (by kernel_rfl)
theorem Kf:bY Tryz.prog Tryz.f100 CY:=e (by kernel_rfl)
theorem HD:bP Tryz.prog 100:=e (by kernel_rfl)
def r0:=[o 6 (.mv (.c (.nils 8)))]
def r2:=[m 10 0,m 11 1,o 12 (.sl 8 (.t 10) (some (.t 11)) none none)]
def r3:=[m 13 2,o 14 (.len (.t 13)),m 7 14]
def r4:=[m 15 7,o 16 (.bin .eql (.t 15) (aX 0))]
def M7:=[m 17 0,m 6 17]
def r5:=[m 18 0,o 19 (.len (.t 18)),m 8 19]
def r6:=[m 20 1,m 21 8,o 22 (.bin .eql (.t 20) (.t 21))]
def p9:=[m 23 0,m 24 2,o 25 (.dM 50 8 72 (.agg [.agg [.int .i64 0,.int .i64 0],.int .i64 0,.int .i64 0,.int .i64 0,.agg [.int .i64 0,.int .i64 0],.aj ⟨#[]⟩]) (.t 23) (.t 24)),m 6 25]
def Bi:=[m 26 8,m 27 7,o 28 (.bin .add (.t 26) (.t 27)),m 29 0,o 30 (.cap (.t 29)),o 31 (.bin .gtr (.t 28) (.t 30))]
def Bj:=[m 32 0,m 33 1,o 34 (.sl 8 (.t 32) none (some (.t 33)) none),m 35 8,m 36 7,o 37 (.bin .add (.t 35) (.t 36)),m 38 1,o 39 (.bin .sub (.t 37) (.t 38)),o 40 (.jI 50 8 72 (.agg [.agg [.int .i64 0,.int .i64 0],.int .i64 0,.int .i64 0,.int .i64 0,.agg [.int .i64 0,.int .i64 0],.aj ⟨#[]⟩]) (.t 34) (.t 39)),m 9 40]
def Ba:=[m 41 9,m 42 1,o 43 (.sl 8 (.t 41) (some (.t 42)) none none),m 44 2,o 45 (.gp 8 (.t 43) (.t 44))]
def Bb:=[m 46 9,m 47 1,m 48 7,o 49 (.bin .add (.t 47) (.t 48)),o 50 (.sl 8 (.t 46) (some (.t 49)) none none),m 51 0,m 52 1,o 53 (.sl 8 (.t 51) (some (.t 52)) none none),o 54 (.gp 8 (.t 50) (.t 53))]
def Ll:=some [[],[],[],[1,2],[0,3],[],[],[5,6],[4,7]]
def Bc:=[m 55 9,m 6 55]
def Bd:=[m 56 0,m 57 8,m 58 7,o 59 (.bin .add (.t 57) (.t 58)),o 60 (.sl 8 (.t 56) none (some (.t 59)) none),m 0 60]
def Be:=[m 61 2,m 62 0,m 63 1,m 64 7,o 65 (.bin .add (.t 63) (.t 64)),o 66 (.sl 8 (.t 62) (some (.t 65)) none none),o 67 (.gM 143 [.t 61,.t 66]),no 68 67]
def Bf:=[m 69 0,m 70 1,m 71 7,o 72 (.bin .add (.t 70) (.t 71)),o 73 (.sl 8 (.t 69) (some (.t 72)) none none),m 74 0,m 75 1,o 76 (.sl 8 (.t 74) (some (.t 75)) none none),o 77 (.gp 8 (.t 73) (.t 76))]
def Lm:=some [[],[],[],[1,2],[0,3],[],[],[5,6],[4,7]]
def Bg:=[m 78 0,m 79 1,o 80 (.sl 8 (.t 78) (some (.t 79)) none none),m 81 2,o 82 (.gp 8 (.t 80) (.t 81))]
def Bh:=[m 83 0,m 6 83]
def M4:=[m 84 0,m 85 8,o 86 (.sl 8 (.t 84) (some (.t 85)) none none),m 87 2,o 88 (.gp 8 (.t 86) (.t 87))]
def M5:=[m 89 0,m 90 1,o 91 (.sl 8 (.t 89) (some (.t 90)) none none),m 92 7,o 93 (.call 144 [.t 91,.t 92])]
def M6:=[m 94 0,m 6 94]
def rJ:bj:=(s (r r0) (s (r r2) (s (r r3) (s (s (r r4) (.cond (.t 16) (s (r M7) .ret) .skip)) (s (r r5) (s (s (r r6) (.cond (.t 22) (s (r p9) .ret) .skip)) (s (s (r Bi) (.cond (.t 31) (s (r Bj) (s (r Ba) (s (.b7 Ll Bb) (s (r Bc) .ret)))) .skip)) (s (r Bd) (s (s (r Be) (.cond (.t 68) (s (.b7 Lm Bf) (s (r Bg) (s (r Bh) .ret))) .skip)) (s (r M4) (s (r M5) (s (r M6) .ret))))))))))))
def te:List bz:=[.tmp 6]
theorem uM:b8 Tryz.prog Tryz.f101 rJ:=e (by kernel_rfl)
theorem uV:bY Tryz.prog Tryz.f101 te:=e (by kernel_rfl)
theorem uK:bP Tryz.prog 101:=e (by kernel_rfl)
def M8:=[o 2 (.alloc (.agg [.int .i64 0,.int .i64 0,.int .i64 0,.int .i64 0,.int .i64 0,.int .i64 0]))]
def M9:=[o 3 (.alloc (.agg [.int .i64 0,.int .i64 0,.int .i64 0,.int .i64 0,.int .i64 0,.int .i64 0]))]
def Na:=[bq 4 0]
def Nb:=[m 5 4,m 6 0,o 7 (.len (.t 6)),lt 8 5 7]
def Nc:=[m 11 0,m 12 4,o 13 (.is 8 (.t 11) (.t 12)),f 14 0 0 13,f 15 0 0 14,l 16 15,o 17 (.ia 6 1 (.t 3) (.t 16)),l 18 17,ad 19 18 1,o 20 (.ia 6 1 (.t 3) (.t 16)),p (.aT none (.t 20) (.t 19))]
def Nd:=[m 9 4,ad 10 9 1,m 4 10]
def Nf:=[au 21 6 3,p (.aT (some 6) (.t 2) (.t 21))]
def yR:bj:=(s (r M8) (s (r M9) (s (s (r Na) (.block 0 (.loop (s (s (r Nb) (.cond (.t 8) .skip (.exit 0))) (s (.block 1 (r Nc)) (r Nd)))))) (s (r Nf) .ret))))
def CZ:List bz:=[.cell 2 (some 6)]
theorem I0:b8 Tryz.prog Tryz.f102 yR:=e (by kernel_rfl)
theorem Kg:bY Tryz.prog Tryz.f102 CZ:=e (by kernel_rfl)
theorem HE:bP Tryz.prog 102:=e (by kernel_rfl)
def Ng:=[o 2 (.mv bm)]
def Nh:=[m 3 0,o 4 (.call 128 [.t 3,(aX 0),(aX 100000)]),m 2 4]
def yS:bj:=(s (r Ng) (s (r Nh) .ret))
def C0:List bz:=[.tmp 2]
theorem I1:b8 Tryz.prog Tryz.f105 yS:=e (by kernel_rfl)
theorem Kh:bY Tryz.prog Tryz.f105 C0:=e (by kernel_rfl)
theorem HF:bP Tryz.prog 105:=e (by kernel_rfl)
def NP:=[bq 6 0]
def NQ:=[m 7 0,o 8 (.len (.t 7)),o 9 (.bin .eql (.t 8) (aX 0))]
def NR:=[bq 6 0]
def NS:=[m 10 0,m 11 1,m 12 0,o 13 (.len (.t 12)),o 14 (.bin .rem (.t 11) (.t 13)),o 15 (.is 1 (.t 10) (.t 14)),l 16 15,m 17 2,o 18 (.bin .rem (.t 16) (.t 17)),m 19 2,o 20 (.bin .add (.t 18) (.t 19)),m 21 2,o 22 (.bin .rem (.t 20) (.t 21)),m 6 22]
def yT:bj:=(s (r NP) (s (s (r NQ) (.cond (.t 9) (s (r NR) .ret) .skip)) (s (r NS) .ret)))
def C1:List bz:=[.tmp 6]
theorem I2:b8 Tryz.prog Tryz.f121 yT:=e (by kernel_rfl)
theorem Ki:bY Tryz.prog Tryz.f121 C1:=e (by kernel_rfl)
theorem HG:bP Tryz.prog 121:=e (by kernel_rfl)
def NT:=[l 4 1,o 5 (.bin .neq (.t 4) (.c (.aj ⟨#[]⟩)))]
def NU:=[l 6 1,o 7 (.call 123 [.t 6,(.c (.int .u8 10))]),m 3 7]
def NV:=[m 8 3,o 9 (.bin .lss (.t 8) (aX 0)),m 10 9,eT 11 0 10,e8 12 1 10,eT 13 3 10,on 14 (.bin .add (.t 13) (aX 1)) 10,on 15 (.prim (.ss false true) [.t 12,.t 14]) 10,on 16 (.fA (.t 11) [.t 15]) 10,on 17 (.un .not (.t 16)) 10,or 18 10 17]
def NW:=[l 19 1,m 20 3,ad 21 20 1,o 22 (.prim (.ss true false) [.t 19,.t 21]),p (.aT none (.t 1) (.t 22))]
def yU:bj:=(.block 0 (.loop (s (s (r NT) (.cond (.t 5) .skip (.exit 0))) (.block 1 (s (r NU) (s (s (r NV) (.cond (.t 18) .ret .skip)) (r NW)))))))
def C2:List bz:=[]
theorem I3:b8 Tryz.prog Tryz.f122 yU:=e (by kernel_rfl)
theorem Kj:bY Tryz.prog Tryz.f122 C2:=e (by kernel_rfl)
theorem zT:bP Tryz.prog 122:=e (by kernel_rfl)
theorem HI:bP Tryz.prog 123:=e (by kernel_rfl)
theorem zU:bP Tryz.prog 124:=e (by kernel_rfl)
theorem HJ:bP Tryz.prog 125:=e (by kernel_rfl)
def NX:=[bq 2 0,o 3 (.mv (.c (.aj ⟨#[]⟩)))]
def NY:=[m 10 0,o 11 (.call 154 [.t 10,(.c (.aj ⟨#[32]⟩))]),m 9 11,o 12 (.ext (.t 9) 0),o 13 (.ext (.t 9) 1),o 14 (.ext (.t 9) 2),m 4 12,m 5 13,m 6 14]
def NZ:=[m 16 4,o 17 (.call 155 [.t 16]),m 15 17,o 18 (.ext (.t 15) 0),o 19 (.ext (.t 15) 1),m 7 18,m 8 19]
def N0:=[m 20 6,no 21 20,m 22 21,eT 23 8 22,on 24 (.prim (.nc true) [.t 23]) 22,or 25 22 24]
def r7:=[o 26 (.bld [] []),o 27 (.prim (.mj 176) [.t 26]),p (.prim .kJ [.t 27])]
def N4:=[m 28 7,m 29 5,m 2 28,m 3 29]
def uH:bj:=(s (r NX) (s (r NY) (s (r NZ) (s (s (r N0) (.cond (.t 25) (r r7) .skip)) (s (r N4) .ret)))))
def C3:List bz:=[.tmp 2,.tmp 3]
theorem z8:b8 Tryz.prog Tryz.f126 uH:=e (by kernel_rfl)
theorem Kk:bY Tryz.prog Tryz.f126 C3:=e (by kernel_rfl)
theorem zV:bP Tryz.prog 126:=e (by kernel_rfl)
theorem HK:bP Tryz.prog 127:=e (by kernel_rfl)
def N5:=[o 6 (.mv bm)]
def N6:=[m 7 1,m 8 0,o 9 (.bin .leq (.t 7) (.t 8)),m 10 9,dz 11 0 10,dz 12 2 10,cd 13 (.bin .leq (.t 11) (.t 12)) 10,and 14 10 13,m 6 14]
def yV:bj:=(s (r N5) (s (r N6) .ret))
def C4:List bz:=[.tmp 6]
theorem I4:b8 Tryz.prog Tryz.f128 yV:=e (by kernel_rfl)
theorem Kl:bY Tryz.prog Tryz.f128 C4:=e (by kernel_rfl)
theorem HL:bP Tryz.prog 128:=e (by kernel_rfl)
def N7:=[b 1 0,o 2 (.mv bm)]
def N8:=[f 3 0 0 1,l 4 3,o 5 (.call 128 [.t 4,(aX 0),(aX 5)]),m 6 5,dZ 7 1 1 1 6,gF 8 7 6,cd 9 (.call 128 [.t 8,(aX 0),(aX 9999)]) 6,and 10 6 9,m 2 10]
def yW:bj:=(s (r N7) (s (r N8) .ret))
def C5:List bz:=[.tmp 2]
theorem I5:b8 Tryz.prog Tryz.f129 yW:=e (by kernel_rfl)
theorem Km:bY Tryz.prog Tryz.f129 C5:=e (by kernel_rfl)
theorem HM:bP Tryz.prog 129:=e (by kernel_rfl)
def N9:=[o 2 (.mv bm)]
def Oa:=[m 5 0,o 6 (.lenT (.t 5)),o 7 (.bin .gtr (.t 6) (aX 160))]
def Ob:=[o 2 (.mv bm)]
def Oc:=[m 8 0,o 9 (.eM (.t 8)),o 10 (.len (.t 9)),bq 11 0]
def Od:=[lt 12 11 10]
def Oe:=[o 13 (.is 1 (.t 9) (.t 11)),l 14 13,m 4 14]
def Of:=[m 15 4,o 16 (.bin .lss (.t 15) (.c (.int .u8 32))),m 17 16,eT 18 4 17,on 19 (.bin .gtr (.t 18) (.c (.int .u8 126))) 17,or 20 17 19,m 21 20,eT 22 4 21,on 23 (.bin .eql (.t 22) (.c (.int .u8 63))) 21,or 24 21 23]
def Og:=[o 2 (.mv bm)]
def Oh:=[ad 25 11 1,m 11 25]
def Oi:=[o 2 (.mv T)]
def yX:bj:=(s (r N9) (s (s (r Oa) (.cond (.t 7) (s (r Ob) .ret) .skip)) (s (s (r Oc) (.block 0 (.loop (s (r Od) (s (.cond (.t 12) .skip (.exit 0)) (s (.block 1 (s (r Oe) (s (r Of) (.cond (.t 24) (s (r Og) .ret) .skip)))) (r Oh))))))) (s (r Oi) .ret))))
def C6:List bz:=[.tmp 2]
theorem I6:b8 Tryz.prog Tryz.f130 yX:=e (by kernel_rfl)
theorem Kn:bY Tryz.prog Tryz.f130 C6:=e (by kernel_rfl)
theorem HN:bP Tryz.prog 130:=e (by kernel_rfl)
theorem HO:bP Tryz.prog 131:=e (by kernel_rfl)
theorem HP:bP Tryz.prog 132:=e (by kernel_rfl)
def Oj:=[b 1 0,o 2 (.mv (.c (.aj ⟨#[]⟩)))]
def Ol:=[f 4 0 0 1,f 5 0 0 4,l 6 5,o 7 (.call 134 [.t 6]),o 8 (.bin .add (.t 7) (.c (.aj ⟨#[32]⟩))),f 9 0 0 1,f 10 1 1 9,l 11 10,o 12 (.call 134 [.t 11]),o 13 (.bin .add (.t 8) (.t 12)),o 14 (.bin .add (.t 13) (.c (.aj ⟨#[32]⟩))),f 15 1 2 1,l 16 15,o 17 (.call 134 [.t 16]),o 18 (.bin .add (.t 14) (.t 17)),o 19 (.bin .add (.t 18) (.c (.aj ⟨#[32]⟩))),f 20 2 3 1,l 21 20,o 22 (.call 134 [.t 21]),o 23 (.bin .add (.t 19) (.t 22)),o 24 (.bin .add (.t 23) (.c (.aj ⟨#[32]⟩))),f 25 3 4 1,l 26 25,o 27 (.call 134 [.t 26]),o 28 (.bin .add (.t 24) (.t 27)),o 29 (.bin .add (.t 28) (.c (.aj ⟨#[32]⟩))),m 3 29]
def Lo:=some [[],[0],[1],[2],[3],[],[5],[6],[7,3],[4,8],[9],[],[11],[12,8],[10,13],[14],[],[16],[17,13],[15,18],[19],[],[21],[22,18],[20,23],[24],[25,23,0,1,2,3,4,5,6,7,8,9,10,11,12,13,14,15,16,17,18,19,20,21,22,23,24,25]]
def Om:=[m 30 3,f 31 4 5 1,f 32 0 0 31,l 33 32,o 34 (.call 134 [.t 33]),o 35 (.bin .add (.t 30) (.t 34)),o 36 (.bin .add (.t 35) (.c (.aj ⟨#[32]⟩))),f 37 4 5 1,f 38 1 1 37,l 39 38,o 40 (.call 134 [.t 39]),o 41 (.bin .add (.t 36) (.t 40)),o 42 (.bin .add (.t 41) (.c (.aj ⟨#[32]⟩))),f 43 5 7 1,l 44 43,o 45 (.bin .add (.t 42) (.t 44)),m 2 45]
def Lp:=some [[],[],[1],[2],[3],[0,4],[5],[],[7],[8],[9,4],[6,10],[11],[],[13],[12,14],[15,10,0,1,2,3,4,5,6,7,8,9,10,11,12,13,14,15]]
def yY:bj:=(s (r Oj) (s (.b7 Lo Ol) (s (.b7 Lp Om) .ret)))
def C7:List bz:=[.tmp 2]
theorem I7:b8 Tryz.prog Tryz.f133 yY:=e (by kernel_rfl)
theorem Ko:bY Tryz.prog Tryz.f133 C7:=e (by kernel_rfl)
theorem HQ:bP Tryz.prog 133:=e (by kernel_rfl)
def On:=[o 2 (.mv (.c (.aj ⟨#[]⟩)))]
def Oo:=[m 4 0,o 5 (.bin .rem (.t 4) (aX 10)),o 6 (.bin .add (aX 48) (.t 5)),o 7 (.conv .u8 (.t 6)),o 8 (.bs 5 1 [.t 7]),o 9 (.b2s (.t 8)),m 3 9]
def Oq:=[m 10 0,o 11 (.bin .geq (.t 10) (aX 10))]
def Ot:=[m 12 0,o 13 (.bin .quo (.t 12) (aX 10)),m 0 13]
def Ou:=[m 14 0,o 15 (.bin .rem (.t 14) (aX 10)),o 16 (.bin .add (aX 48) (.t 15)),o 17 (.conv .u8 (.t 16)),o 18 (.bs 5 1 [.t 17]),o 19 (.b2s (.t 18)),m 20 3,o 21 (.bin .add (.t 19) (.t 20)),m 3 21]
def Ov:=[m 22 3,m 2 22]
def yZ:bj:=(s (r On) (s (r Oo) (s (.block 0 (.loop (s (s (r Oq) (.cond (.t 11) .skip (.exit 0))) (.block 1 (s (r Ot) (r Ou)))))) (s (r Ov) .ret))))
def C8:List bz:=[.tmp 2]
theorem I8:b8 Tryz.prog Tryz.f134 yZ:=e (by kernel_rfl)
theorem Kp:bY Tryz.prog Tryz.f134 C8:=e (by kernel_rfl)
theorem HR:bP Tryz.prog 134:=e (by kernel_rfl)
theorem HS:bP Tryz.prog 135:=e (by kernel_rfl)
def Ow:=[b 3 1,o 4 (.mv bm)]
def Ox:=[m 5 0,au 6 8 3,o 7 (.call 159 [.t 5,.t 6]),o 8 (.bin .geq (.t 7) (aX 0)),m 4 8]
def y5:bj:=(s (r Ow) (s (r Ox) .ret))
def C9:List bz:=[.tmp 4]
theorem I9:b8 Tryz.prog Tryz.f136 y5:=e (by kernel_rfl)
theorem Kq:bY Tryz.prog Tryz.f136 C9:=e (by kernel_rfl)
theorem HT:bP Tryz.prog 136:=e (by kernel_rfl)
def Oy:=[bq 2 0]
def Oz:=[bq 3 1]
def OA:=[m 6 0,o 7 (.len (.t 6)),bq 8 0]
def OB:=[lt 9 8 7]
def OC:=[o 10 (.is 8 (.t 6) (.t 8)),au 11 8 10,o 5 (.alloc (.agg [.agg [.int .i64 0,.int .i64 0],.int .i64 0,.int .i64 0,.int .i64 0,.agg [.int .i64 0,.int .i64 0],.aj ⟨#[]⟩])),p (.aT (some 8) (.t 5) (.t 11))]
def OD:=[m 13 3,au 14 8 5,o 15 (.call 81 [.t 13,.t 14]),m 12 15,o 16 (.ext (.t 12) 0),o 17 (.ext (.t 12) 1),m 3 17]
def OE:=[ad 18 8 1,m 8 18]
def OF:=[m 19 3,m 2 19]
def y7:bj:=(s (r Oy) (s (r Oz) (s (s (r OA) (.block 0 (.loop (s (r OB) (s (.cond (.t 9) .skip (.exit 0)) (s (.block 1 (s (r OC) (r OD))) (r OE))))))) (s (r OF) .ret))))
def Da:List bz:=[.tmp 2]
theorem Ja:b8 Tryz.prog Tryz.f137 y7:=e (by kernel_rfl)
theorem Kr:bY Tryz.prog Tryz.f137 Da:=e (by kernel_rfl)
theorem HU:bP Tryz.prog 137:=e (by kernel_rfl)
def OG:=[b 4 1,bq 6 0,o 7 (.mv bm)]
def OH:=[m 12 0,o 13 (.len (.t 12)),m 8 13]
def OI:=[m 14 8,bq 9 0,m 10 14]
def OJ:=[m 15 9,m 16 10,lt 17 15 16]
def OK:=[m 18 9,m 19 10,o 20 (.bin .add (.t 18) (.t 19)),o 21 (.conv .u64 (.t 20)),o 22 (.bin .shr (.t 21) (.c (.int .u64 1))),o 23 (.conv .i64 (.t 22)),m 11 23]
def OL:=[m 24 2,m 25 0,m 26 11,o 27 (.is 8 (.t 25) (.t 26)),au 28 8 27,au 29 2 4,o 30 (.fA (.t 24) [.t 28,.t 29]),o 31 (.bin .lss (.t 30) (aX 0))]
def Lq:=some [[],[],[],[1,2],[3],[],[0,4,5],[6]]
def OM:=[m 32 11,ad 33 32 1,m 9 33]
def ON:=[m 34 11,m 10 34]
def OO:=[m 35 9,m 36 9,m 37 8,lt 38 36 37,m 39 38,dz 40 2 39,dz 41 0 39,dz 42 9 39,cd 43 (.is 8 (.t 41) (.t 42)) 39,cd 44 (.ld (some 8) (.t 43)) 39,cd 45 (.ld (some 2) (.t 4)) 39,cd 46 (.fA (.t 40) [.t 44,.t 45]) 39,cd 47 (.bin .eql (.t 46) (aX 0)) 39,and 48 39 47,m 6 35,m 7 48]
def Lr:=some [[],[],[],[1,2],[3],[4],[4],[4],[6,7,4],[8,4],[4],[5,9,10,4,4],[11,4],[4,12],[0,11,0],[13,14,0,1,2,3,4,5,6,7,8,9,10,11,12,13,14]]
def y8:bj:=(s (r OG) (s (r OH) (s (r OI) (s (.block 0 (.loop (s (s (r OJ) (.cond (.t 17) .skip (.exit 0))) (.block 1 (s (r OK) (s (.b7 Lq OL) (.cond (.t 31) (r OM) (r ON)))))))) (s (.b7 Lr OO) .ret)))))
def Db:List bz:=[.tmp 6,.tmp 7]
theorem Jb:b8 Tryz.prog Tryz.f138 y8:=e (by kernel_rfl)
theorem Ks:bY Tryz.prog Tryz.f138 Db:=e (by kernel_rfl)
theorem HV:bP Tryz.prog 138:=e (by kernel_rfl)
def OP:=[b 2 0,b 3 1,bq 4 0]
def OQ:=[f 5 0 0 2,au 6 2 5,au 7 2 3,o 8 (.call 140 [.t 6,.t 7]),m 4 8]
def y9:bj:=(s (r OP) (s (r OQ) .ret))
def Dc:List bz:=[.tmp 4]
theorem Jc:b8 Tryz.prog Tryz.f139 y9:=e (by kernel_rfl)
theorem Kt:bY Tryz.prog Tryz.f139 Dc:=e (by kernel_rfl)
theorem HW:bP Tryz.prog 139:=e (by kernel_rfl)
def OR:=[b 2 0,b 3 1,bq 4 0]
def OS:=[f 5 0 0 2,l 6 5,f 7 0 0 3,l 8 7,o 9 (.call 161 [.t 6,.t 8]),f 10 1 1 2,l 11 10,f 12 1 1 3,l 13 12,o 14 (.call 161 [.t 11,.t 13]),o 15 (.bs 3 1 [.t 9,.t 14]),o 16 (.call 160 [.t 15]),m 4 16]
def Ls:=some [[],[0],[],[2],[1,3],[],[5],[],[7],[6,8,4],[4,9],[10,9],[11,11,0,1,2,3,4,5,6,7,8,9,10,11]]
def zb:bj:=(s (r OR) (s (.b7 Ls OS) .ret))
def De:List bz:=[.tmp 4]
theorem Je:b8 Tryz.prog Tryz.f140 zb:=e (by kernel_rfl)
theorem Kv:bY Tryz.prog Tryz.f140 De:=e (by kernel_rfl)
theorem HY:bP Tryz.prog 140:=e (by kernel_rfl)
theorem HZ:bP Tryz.prog 141:=e (by kernel_rfl)
theorem H2:bP Tryz.prog 152:=e (by kernel_rfl)
def O5:=[o 4 (.mv (.c (.aj ⟨#[]⟩))),o 5 (.mv (.c (.aj ⟨#[]⟩))),o 6 (.mv bm)]
def O6:=[m 7 0,m 8 1,o 9 (.call 170 [.t 7,.t 8]),o 10 (.ext (.t 9) 0),o 11 (.ext (.t 9) 1),o 12 (.ext (.t 9) 2),m 4 10,m 5 11,m 6 12]
def zd:bj:=(s (r O5) (s (r O6) .ret))
def Dg:List bz:=[.tmp 4,.tmp 5,.tmp 6]
theorem Jg:b8 Tryz.prog Tryz.f154 zd:=e (by kernel_rfl)
theorem Ky:bY Tryz.prog Tryz.f154 Dg:=e (by kernel_rfl)
theorem H3:bP Tryz.prog 154:=e (by kernel_rfl)
theorem H4:bP Tryz.prog 155:=e (by kernel_rfl)
def O7:=[b 3 1,bq 4 0]
def O8:=[m 6 0,o 7 (.len (.t 6)),bq 8 0]
def O9:=[lt 9 8 7]
def Pa:=[m 10 8,m 5 10]
def Pb:=[au 11 8 3,m 12 0,m 13 5,o 14 (.is 8 (.t 12) (.t 13)),au 15 8 14,o 16 (.eqv (.aT [(.aT [(.i .i64),(.i .i64)]),(.i .i64),(.i .i64),(.i .i64),(.aT [(.i .i64),(.i .i64)]),.s]) false (.t 11) (.t 15))]
def Lt:=some [[],[],[],[1,2],[3],[0,4]]
def Pc:=[m 17 5,m 4 17]
def Pd:=[ad 18 8 1,m 8 18]
def Pe:=[bq 4 (-1)]
def ze:bj:=(s (r O7) (s (s (r O8) (.block 0 (.loop (s (r O9) (s (.cond (.t 9) .skip (.exit 0)) (s (.block 1 (s (r Pa) (s (.b7 Lt Pb) (.cond (.t 16) (s (r Pc) .ret) .skip)))) (r Pd))))))) (s (r Pe) .ret)))
def Di:List bz:=[.tmp 4]
theorem Jh:b8 Tryz.prog Tryz.f159 ze:=e (by kernel_rfl)
theorem Kz:bY Tryz.prog Tryz.f159 Di:=e (by kernel_rfl)
theorem H5:bP Tryz.prog 159:=e (by kernel_rfl)
def Pr:=[bq 2 0]
def Ps:=[bq 3 0]
def Pt:=[m 6 0,o 7 (.len (.t 6)),bq 8 0]
def Pu:=[lt 9 8 7]
def Pv:=[o 10 (.is 1 (.t 6) (.t 8)),l 11 10,m 5 11]
def Pw:=[m 12 5,m 13 3,o 14 (.bin .neq (.t 12) (.t 13))]
def Px:=[m 15 5,m 2 15]
def Py:=[ad 16 8 1,m 8 16]
def Pz:=[m 17 3,m 2 17]
def zf:bj:=(s (r Pr) (s (r Ps) (s (s (r Pt) (.block 0 (.loop (s (r Pu) (s (.cond (.t 9) .skip (.exit 0)) (s (.block 1 (s (r Pv) (s (r Pw) (.cond (.t 14) (s (r Px) .ret) .skip)))) (r Py))))))) (s (r Pz) .ret))))
def Dj:List bz:=[.tmp 2]
theorem Ji:b8 Tryz.prog Tryz.f160 zf:=e (by kernel_rfl)
theorem KA:bY Tryz.prog Tryz.f160 Dj:=e (by kernel_rfl)
theorem H6:bP Tryz.prog 160:=e (by kernel_rfl)
def PA:=[bq 4 0]
def PB:=[m 7 0,o 8 (.call 175 [.t 7]),m 5 8]
def PG:=[m 9 1,o 10 (.call 175 [.t 9]),m 6 10]
def PH:=[m 11 5]
def PI:=[m 12 6]
def PJ:=[bq 4 0]
def PK:=[bq 4 (-1)]
def PL:=[m 13 6]
def PM:=[bq 4 1]
def PN:=[m 14 0,m 15 1,lt 16 14 15]
def PC:=[bq 4 (-1)]
def PD:=[m 17 0,m 18 1,o 19 (.bin .gtr (.t 17) (.t 18))]
def PE:=[bq 4 1]
def PF:=[bq 4 0]
def zg:bj:=(s (r PA) (s (r PB) (s (r PG) (s (s (r PH) (.cond (.t 11) (s (s (r PI) (.cond (.t 12) (s (r PJ) .ret) .skip)) (s (r PK) .ret)) .skip)) (s (s (r PL) (.cond (.t 13) (s (r PM) .ret) .skip)) (s (s (r PN) (.cond (.t 16) (s (r PC) .ret) .skip)) (s (s (r PD) (.cond (.t 19) (s (r PE) .ret) .skip)) (s (r PF) .ret))))))))
def Dk:List bz:=[.tmp 4]
theorem Jj:b8 Tryz.prog Tryz.f161 zg:=e (by kernel_rfl)
theorem KB:bY Tryz.prog Tryz.f161 Dk:=e (by kernel_rfl)
theorem H7:bP Tryz.prog 161:=e (by kernel_rfl)
def PO:=[o 4 (.mv (.c (.aj ⟨#[]⟩))),o 5 (.mv (.c (.aj ⟨#[]⟩))),o 6 (.mv bm)]
def PQ:=[m 8 0,m 9 1,o 10 (.call 188 [.t 8,.t 9]),m 7 10]
def PR:=[m 11 7,o 12 (.bin .geq (.t 11) (aX 0))]
def PS:=[m 13 0,m 14 7,o 15 (.prim (.ss false true) [.t 13,.t 14]),m 16 0,m 17 7,m 18 1,o 19 (.lenT (.t 18)),o 20 (.bin .add (.t 17) (.t 19)),o 21 (.prim (.ss true false) [.t 16,.t 20]),m 4 15,m 5 21,o 6 (.mv T)]
def Lv:=some [[],[],[0,1],[],[],[],[5],[4,6],[3,7],[2,0,1,2],[8,9,0,1,2,3,4,5,6,7,8,9],[10,0,1,2,3,4,5,6,7,8,9,10]]
def PT:=[m 22 0,m 4 22,o 5 (.mv (.c (.aj ⟨#[]⟩))),o 6 (.mv bm)]
def zi:bj:=(s (r PO) (s (s (r PQ) (s (r PR) (.cond (.t 12) (s (.b7 Lv PS) .ret) .skip))) (s (r PT) .ret)))
def Dm:List bz:=[.tmp 4,.tmp 5,.tmp 6]
theorem Jl:b8 Tryz.prog Tryz.f170 zi:=e (by kernel_rfl)
theorem KD:bY Tryz.prog Tryz.f170 Dm:=e (by kernel_rfl)
theorem zW:bP Tryz.prog 170:=e (by kernel_rfl)
def PU:=[o 2 (.mv bm)]
def PV:=[m 3 0,m 4 0,o 5 (.bin .neq (.t 3) (.t 4)),m 2 5]
def c175:bj:=(s (r PU) (s (r PV) .ret))
def Dn:List bz:=[.tmp 2]
theorem Jm:b8 Tryz.prog Tryz.f175 c175:=e (by kernel_rfl)
theorem KE:bY Tryz.prog Tryz.f175 Dn:=e (by kernel_rfl)
theorem H9:bP Tryz.prog 175:=e (by kernel_rfl)
def P3:=[bq 4 0]
def P4:=[m 14 1,o 15 (.lenT (.t 14)),m 5 15]
def Qf:=[m 17 5,o 18 (.bin .eql (.t 17) (aX 0)),m 19 18,eT 20 1 19,eT 21 0 19,on 22 (.bin .eql (.t 20) (.t 21)) 19,or 23 19 22,m 16 23]
def Qq:=[bq 4 0]
def Qu:=[m 25 5,o 26 (.bin .eql (.t 25) (aX 1)),m 24 26]
def Qv:=[m 27 0,m 28 1,o 29 (.prim .dJ [.t 28,(aX 0)]),o 30 (.call 152 [.t 27,.t 29]),m 4 30]
def Qw:=[m 32 5,m 33 0,o 34 (.lenT (.t 33)),o 35 (.bin .geq (.t 32) (.t 34)),m 31 35]
def Qx:=[bq 4 (-1)]
def Qy:=[m 45 0,m 46 1,o 47 (.gM 204 [.t 45,.t 46]),m 4 47]
def Qz:=[m 48 1,o 49 (.prim .dJ [.t 48,(aX 0)]),m 6 49]
def P5:=[m 50 1,o 51 (.prim .dJ [.t 50,(aX 1)]),m 7 51]
def P6:=[bq 8 0]
def P7:=[m 52 0,o 53 (.lenT (.t 52)),m 54 5,o 55 (.bin .sub (.t 53) (.t 54)),ad 56 55 1,m 9 56]
def P8:=[bq 10 0]
def P9:=[m 57 8,m 58 9,lt 59 57 58]
def Qa:=[m 60 0,m 61 8,o 62 (.prim .dJ [.t 60,.t 61]),m 63 6,o 64 (.bin .neq (.t 62) (.t 63))]
def Qb:=[m 65 0,m 66 8,ad 67 66 1,m 68 9,o 69 (.prim (.ss true true) [.t 65,.t 67,.t 68]),m 70 6,o 71 (.call 152 [.t 69,.t 70]),m 11 71]
def Qc:=[m 72 11,o 73 (.bin .lss (.t 72) (aX 0))]
def Qd:=[bq 4 (-1)]
def Qe:=[m 74 8,m 75 11,ad 76 75 1,o 77 (.bin .add (.t 74) (.t 76)),m 8 77]
def Qg:=[m 78 0,m 79 8,ad 80 79 1,o 81 (.prim .dJ [.t 78,.t 80]),m 82 7,o 83 (.bin .eql (.t 81) (.t 82)),m 84 83,dz 85 0 84,dz 86 8 84,dz 87 8 84,dz 88 5 84,cd 89 (.bin .add (.t 87) (.t 88)) 84,cd 90 (.prim (.ss true true) [.t 85,.t 86,.t 89]) 84,dz 91 1 84,cd 92 (.bin .eql (.t 90) (.t 91)) 84,and 93 84 92]
def Qh:=[m 94 8,m 4 94]
def Qi:=[m 95 8,ad 96 95 1,m 8 96]
def Qj:=[m 97 10,ad 98 97 1,m 10 98]
def Qk:=[m 108 0,m 109 8,o 110 (.prim (.ss true false) [.t 108,.t 109]),m 111 1,o 112 (.gM 204 [.t 110,.t 111]),m 12 112]
def Ql:=[m 113 12,o 114 (.bin .geq (.t 113) (aX 0))]
def Qm:=[m 115 12,m 116 8,o 117 (.bin .add (.t 115) (.t 116)),m 4 117]
def Qn:=[bq 4 (-1)]
def Qo:=[m 133 0,m 134 8,o 135 (.prim (.ss true false) [.t 133,.t 134]),m 136 1,o 137 (.call 206 [.t 135,.t 136]),m 13 137]
def Qp:=[m 138 13,o 139 (.bin .lss (.t 138) (aX 0))]
def Qr:=[bq 4 (-1)]
def Qs:=[m 140 8,m 141 13,o 142 (.bin .add (.t 140) (.t 141)),m 4 142]
def Qt:=[bq 4 (-1)]
def zk:bj:=(s (r P3) (s (r P4) (s (.block 0 (s (r Qf) (.cond (.t 16) (s (r Qq) .ret) (s (r Qu) (.cond (.t 24) (s (r Qv) .ret) (s (r Qw) (.cond (.t 31) (s (r Qx) .ret) (s .pM (.cond (.t 36) (s (r Qy) .ret) .skip))))))))) (s (r Qz) (s (r P5) (s (r P6) (s (r P7) (s (r P8) (s (.block 1 (.loop (s (s (r P9) (.cond (.t 59) .skip (.exit 1))) (.block 2 (s (s (r Qa) (.cond (.t 64) (s (r Qb) (s (s (r Qc) (.cond (.t 73) (s (r Qd) .ret) .skip)) (r Qe))) .skip)) (s (s (r Qg) (.cond (.t 93) (s (r Qh) .ret) .skip)) (s (r Qi) (s (r Qj) (s .pM (.cond (.t 107) (s (r Qk) (s (s (r Ql) (.cond (.t 114) (s (r Qm) .ret) .skip)) (s (r Qn) .ret))) (s .pM (.cond (.t 132) (s (r Qo) (s (s (r Qp) (.cond (.t 139) (s (r Qr) .ret) .skip)) (s (r Qs) .ret))) .skip)))))))))))) (s (r Qt) .ret))))))))))
def Dq:List bz:=[.tmp 4]
theorem Jo:b8 Tryz.prog Tryz.f188 zk:=e (by kernel_rfl)
theorem KG:bY Tryz.prog Tryz.f188 Dq:=e (by kernel_rfl)
theorem Ib:bP Tryz.prog 188:=e (by kernel_rfl)
end Go.Proofs.YtoffnnjbplgnaaaGreatDoor
namespace Go.Abs
open Go Go.RowKit
open Enc (enc)
def aw(x:I)(p q:Prop):Prop:=match x with
 | .bool t=>(t=true→p)∧(t=false→q)
 |_=>False
theorem U.gT{c:ct}{A:ab}{Q:Exit→ab→Prop}{b:az}{x y:bj}(h:aw (af A b) (U c x Q A) (U c y Q A)):U c (.cond b x y) Q A:=by
 generalize hb:af A b=v at h;unfold aw at h;split at h
 ·exact U.cond hb h.1 h.2
 ·exact h.elim
def nz(r:I):Option (List I)→Prop
 |some xs=>j6 xs=r
 |none=>False
theorem YR(rs:List bz)(r:I)(A:ab):j9 rs r .ret A=nz r (eA A rs):=by
 simp only[j9,nz];cases eA A rs <;>simp
theorem YQ(rs:List bz)(r:I)(A:ab):j9 rs r .normal A=nz r (eA A rs):=by
 simp only[j9,nz];cases eA A rs <;>simp
def qM(s:Option Nat)(A:ab):Option I→Option I
 |some x=>if b6 s x=true then bd true A x else none
 |none=>none
def lv:Option I→Option (List I)→Option (List I)
 |some x,some xs=>some (x::xs)
 |_,_=>none
theorem YI(A:ab):eA A []=some []:=rfl
theorem YJ(A:ab)(t:Nat)(rs:List bz):eA A (.tmp t::rs)=lv (bd true A (A.t t)) (eA A rs):=by
 simp only[eA,tr];cases bd true A (A.t t) <;>cases eA A rs <;>rfl
theorem YH(A:ab)(a:Nat)(s:Option Nat)(rs:List bz):eA A (.cell a s::rs)=lv (qM s A (fO A (A.t a))) (eA A rs):=by
 simp only[eA,tr,jN];cases fO A (A.t a) with
 |none=>cases eA A rs <;>rfl
 |some x =>
  by_cases h:b6 s x=true
  ·simp only[qM,if_pos h];cases bd true A x <;>cases eA A rs <;>rfl
  ·simp only[qM,if_neg h];cases eA A rs <;>rfl
def ou(aI:Bool)(A:ab):Option I→Option I
 |some x=>if x.bC=true then some (.ref x) else (gr A 9 x).map .ref
 |none=>none
theorem vl(A:ab)(n:Nat)(p:List Nat):bd true A (.ptr n p)=ou true A (dF p (A.o n)):=by
 simp only[bd,jN,fO,if_true,ou];cases dF p (A.o n) <;>rfl
open Classical in
noncomputable def jP(sz lo k:Nat):Option (List I)→Option I
 |some fs=>if I.cu ((fs.drop lo).take k)=true then some (.slice sz ((fs.drop lo).take k)) else none
 |none=>none
theorem vm(A:ab)(n:Nat)(p:List Nat)(sz lo k:Nat):bd true A (.view n p sz lo k)=jP sz lo k (ev (dF p (A.o n))):=by
 simp only[bd,jN,fO,if_true];cases dF p (A.o n) with
 |none=>rfl
 |some c=>cases c <;>simp only[ev,I.dc,jP] <;>(split <;>simp_all)
open Classical in
noncomputable def ky(k:Nat):Option ai→Option I
 |some (.bH _ sz es)=>if k=es.length∧I.cu es=true then some (.slice sz es) else none
 |_=>none
theorem MI(aI:Bool)(A:ab)(n k:Nat):bd aI A (.own n k)=ky k (A.o n):=by
 simp only[bd];cases A.o n with
 |none=>rfl
 |some y=>cases y <;>simp only[ky] <;>(split <;>simp_all)
theorem MC(aI:Bool)(A:ab)(fs:List I):bd aI A (.agg fs)=(bJ aI A fs).map .agg:=by simp only[bd]
theorem ME(aI:Bool)(A:ab)(f:FuncId)(fs:List I):bd aI A (.func f fs)=if f<1000000 then (bJ aI A fs).map (.func f) else some .any:=by simp only[bd]
theorem MF(aI:Bool)(A:ab)(k:IntKind)(n:Int):bd aI A (.int k n)=some (.int k n):=by simp only[bd]
theorem MD(aI:Bool)(A:ab)(n:Bool):bd aI A (.bool n)=some (.bool n):=by simp only[bd]
theorem ML(aI:Bool)(A:ab)(n:ByteArray):bd aI A (.aj n)=some (.aj n):=by simp only[bd]
theorem MH(aI:Bool)(A:ab)(n:Nat):bd aI A (.nils n)=some (.slice n []):=by simp only[bd]
theorem MK(aI:Bool)(A:ab)(n:Nat)(es:List I):bd aI A (.slice n es)=if I.cu es=true then some (.slice n es) else none:=by simp only[bd]
theorem MJ(aI:Bool)(A:ab)(x:I):bd aI A (.ref x)=if x.bC=true then some (.ref x) else none:=by simp only[bd]
theorem MQ(aI:Bool)(A:ab):bJ aI A []=some []:=by simp only[bJ]
theorem MP(aI:Bool)(A:ab)(x:I)(xs:List I):bJ aI A (x::xs)=lv (bd aI A x) (bJ aI A xs):=by
 simp only[bJ];cases bd aI A x <;>cases bJ aI A xs <;>rfl
theorem JY(fs:List I):(I.agg fs).bC=I.cu fs:=by simp only[I.bC]
theorem J3(n:Nat)(fs:List I):(I.slice n fs).bC=I.cu fs:=by simp only[I.bC]
theorem J2(x:I):(I.ref x).bC=x.bC:=by simp only[I.bC]
theorem J1(k:IntKind)(n:Int):(I.int k n).bC=true:=by simp only[I.bC]
theorem JZ(n:Bool):(I.bool n).bC=true:=by simp only[I.bC]
theorem J4(n:ByteArray):(I.aj n).bC=true:=by simp only[I.bC]
theorem J0(f:FuncId)(fs:List I):(I.func f fs).bC=I.cu fs:=by simp only[I.bC]
theorem J6:I.cu []=true:=by simp only[I.cu]
theorem J5(x:I)(xs:List I):I.cu (x::xs)=(x.bC&&I.cu xs):=by simp only[I.cu]
theorem Hb(k:IntKind)(a b:Int):bL .add (.int k a) (.int k b)=some (.int k (k.wrap (a+b))):=by simp[bL]
theorem Hr(k:IntKind)(a b:Int):bL .sub (.int k a) (.int k b)=some (.int k (k.wrap (a-b))):=by simp[bL]
theorem Hj(k:IntKind)(a b:Int):bL .mul (.int k a) (.int k b)=some (.int k (k.wrap (a*b))):=by simp[bL]
theorem Hn(k:IntKind)(a b:Int):bL .quo (.int k a) (.int k b)=if b=0 then none else some (.int k (k.wrap (a.tdiv b))):=by simp[bL]
theorem Ho(k:IntKind)(a b:Int):bL .rem (.int k a) (.int k b)=if b=0 then none else some (.int k (a.tmod b)):=by simp[bL]
theorem Hc(k:IntKind)(a b:Int):bL .and (.int k a) (.int k b)=some (.int k (k.wrap ((BitVec.ofInt k.bits a &&& BitVec.ofInt k.bits b).toNat:Int))):=by simp[bL]
theorem Hm(k:IntKind)(a b:Int):bL .or (.int k a) (.int k b)=some (.int k (k.wrap ((BitVec.ofInt k.bits a ||| BitVec.ofInt k.bits b).toNat:Int))):=by simp[bL]
theorem Hs(k:IntKind)(a b:Int):bL .xor (.int k a) (.int k b)=some (.int k (k.wrap ((BitVec.ofInt k.bits a ^^^ BitVec.ofInt k.bits b).toNat:Int))):=by simp[bL]
theorem Hd(k:IntKind)(a b:Int):bL .andNot (.int k a) (.int k b)=some (.int k (k.wrap ((BitVec.ofInt k.bits a &&& ~~~ BitVec.ofInt k.bits b).toNat:Int))):=by simp[bL]
theorem Hp(k k':IntKind)(a b:Int):bL .shl (.int k a) (.int k' b)=if 0≤b then some (.int k (k.wrap (a*2^(min b.toNat k.bits)))) else none:=by simp[bL]
theorem Hq(k k':IntKind)(a b:Int):bL .shr (.int k a) (.int k' b)=if 0≤b then some (.int k (a.fdiv (2^(min b.toNat k.bits)))) else none:=by simp[bL]
theorem He(k:IntKind)(a b:Int):bL .eql (.int k a) (.int k b)=some (.bool (a==b)):=by simp[bL]
theorem Hk(k:IntKind)(a b:Int):bL .neq (.int k a) (.int k b)=some (.bool (a != b)):=by simp[bL]
theorem Hi(k:IntKind)(a b:Int):bL .lss (.int k a) (.int k b)=some (.bool (decide (a<b))):=by simp[bL]
theorem Hh(k:IntKind)(a b:Int):bL .leq (.int k a) (.int k b)=some (.bool (decide (a≤b))):=by simp[bL]
theorem Hg(k:IntKind)(a b:Int):bL .gtr (.int k a) (.int k b)=some (.bool (decide (b<a))):=by simp[bL]
theorem Hf(k:IntKind)(a b:Int):bL .geq (.int k a) (.int k b)=some (.bool (decide (b≤a))):=by simp[bL]
theorem ym :
  (∀ ts os d v,(aq ts os).put d v=aq ((d,v)::ts) os)∧(∀ ts os d v,(aq ts os).aP (some d) v=aq ((d,v)::ts) os)∧(∀ (A:ab) v,A.aP none v=A) ∧
  (∀ ts os d x,(aq ts os).aQ d x=aq ts ((d,x)::os))∧(∀ ts os k,(aq ts os).t k=bM ts k)∧(∀ ts os k,(aq ts os).o k=aA os k) ∧
  (∀ j v r k,bM ((j,v)::r) k=if k=j then v else bM r k)∧(∀ j v r k,aA ((j,v)::r) k=if k=j then some v else aA r k)∧(∀ k,aA [] k=none) ∧
  (∀ A k,af A (.t k)=A.t k)∧(∀ A x,af A (.c x)=x)∧(∀ d rest A v,cF d rest A v=ar rest (A.aP d v))∧(∀ v k,cq (some v) k=k v)∧(∀ A,ar [] A=.done A) :=
 ⟨v8,Ch,WN,sJ,WO,WM,bN,cI,WC,Mp,Mo,V8,Ht,GK⟩
theorem CJ :
  (∀ d rest A op,ar (⟨d,op,none⟩::rest) A=bo A d op rest)∧(∀ d rest A op t b,ar (⟨d,op,some (t,b)⟩::rest) A=gu (A.t t) b d op rest A) ∧
  (∀ d rest A op,gu (.bool true) true d op rest A=bo A d op rest)∧(∀ d rest A op,gu (.bool false) false d op rest A=bo A d op rest) ∧
  (∀ d rest A op,gu (.bool true) false d op rest A=ar rest (A.aP d .undef))∧(∀ d rest A op,gu (.bool false) true d op rest A=ar rest (A.aP d .undef))∧(∀ d rest A op b,gu .undef b d op rest A=ar rest (A.aP d .undef)) ∧
  (∀ d rest A x,bo A d (.mv x) rest=ar rest (A.aP d (af A x)))∧(∀ d rest A c a b,bo A d (.pick c a b) rest=qF A d a b rest (af A c)) ∧
  (∀ A d a b rest,qF A d a b rest (.bool true)=ar rest (A.aP d (af A a)))∧(∀ A d a b rest,qF A d a b rest (.bool false)=ar rest (A.aP d (af A b))) ∧
  (∀ d rest A op x y,bo A d (.bin op x y) rest=cq (bL op (af A x) (af A y)) (cF d rest A)) ∧
  (∀ d rest A ty neg x y,bo A d (.eqv ty neg x y) rest=cq ((b9 ty (af A x) (af A y)).map fun b=>.bool (if neg then !b else b)) (cF d rest A)) ∧
  (∀ d rest A op x,bo A d (.un op x) rest=cq (re op (af A x)) (cF d rest A))∧(∀ b,re .not (.bool b)=some (.bool !b))∧(∀ k n,re .neg (.int k n)=some (.int k (k.wrap (0-n))))∧(∀ k n,re .xor (.int k n)=some (.int k (oe k n))) ∧
  (∀ d rest A k x,bo A d (.conv k x) rest=cq (uU k (af A x)) (cF d rest A))∧(∀ k k' n,uU k (.int k' n)=some (.int k (k.wrap n))) ∧
  (∀ d rest A s x,bo A d (.ld s x) rest=cq (fU s (fO A (af A x))) (cF d rest A))∧(∀ d rest A f off x,bo A d (.fa f off x) rest=cq (mb A f off (af A x)) (cF d rest A)) ∧
  (∀ d rest A f off s x,bo A d (.fl f off s x) rest=cq (rZ f off s (af A x).dc) (cF d rest A))∧(∀ d rest A n esz x i,bo A d (.ia n esz x i) rest=cq (qc A n esz (af A x) (af A i)) (cF d rest A)) ∧
  (∀ d rest A esz x i,bo A d (.is esz x i) rest=cq (qf A esz (af A x) (af A i)) (cF d rest A))∧(∀ d rest A n esz s x i,bo A d (.ix n esz s x i) rest=cq (qi n esz s (af A x) (af A i)) (cF d rest A)) ∧
  (∀ d rest A x,bo A d (.len x) rest=cq (jV A (af A x)) (cF d rest A))∧(∀ d rest A n esz x,bo A d (.va n esz x) rest=cq (nR A n esz (af A x)) (cF d rest A)) ∧
  (∀ d rest A zs ps,bo A d (.bld zs ps) rest=cq ((fF zs (ps.map fun p=>(p.1,af A p.2))).map .agg) (cF d rest A))∧(∀ d rest A x i,bo A d (.ext x i) rest=cq (vd i (af A x)) (cF d rest A))∧(∀ i fs,vd i (.tuple fs)=fs[i]?) ∧
  (∀ d rest A f caps,bo A d (.mk f caps) rest=cq (if ((caps.map (af A)).all fun y=>y.cC)=true then some (.func f (caps.map (af A))) else none) (cF d rest A)) ∧
  (∀ rest A d z,bo A (some d) (.alloc z) rest=uq A d z rest (A.o d))∧(∀ A d z rest,uq A d z rest none=ar rest ((A.aQ d (.box z)).put d (.ptr d []))) ∧
  (∀ rest A d x,bo A (some d) (.box x) rest=rH A d (af A x) rest (A.o d))∧(∀ A d z rest,rH A d z rest none=rI A d z rest z.cC)∧(∀ A d z rest,rI A d z rest true=ar rest ((A.aQ d (.box z)).put d (.ptr d []))) ∧
  (∀ rest A s x v,bo A none (.aT s x v) rest=tI A s (af A v) rest (af A x))∧(∀ A s v rest n p,tI A s v rest (.ptr n p)=tJ A s n p v rest (A.o n))∧(∀ A s n p v rest b,tJ A s n p v rest (some (.box b))=dW A s n p b v rest (b.at p)) ∧
  (∀ d rest A f args,bo A d (.call f args) rest=.call f (args.map (af A)) (bJ true A (args.map (af A))) (bJ false A (args.map (af A))) d rest A) ∧
  (∀ d rest A x args,bo A d (.fA x args) rest=pQ A d (args.map (af A)) rest (af A x))∧(∀ A d args rest f caps,pQ A d args rest (.func f caps)=if f<1000000 then .call f (args++caps) (bJ true A (args++caps)) (bJ false A (args++caps)) d rest A else .call (kv f) (caps++args) (bJ true A (caps++args)) (bJ false A (caps++args)) d rest A) :=
 ⟨Gu,Gv,UY,UU,UX,UW,UZ,Xx,XB,fun _ _ _ _ _=>rfl,fun _ _ _ _ _=>rfl,W8,Xi,XG,fun _=>rfl,fun _ _=>rfl,fun _ _=>rfl,Xg,fun _ _ _=>rfl,Xp,Xk,Xl,Xm,Xn,Xo,Xq,XH,W9,Xj,fun _ _=>rfl,Xt,
  W5,fun _ _ _ _=>rfl,Xa,fun _ _ _ _=>rfl,fun _ _ _ _=>rfl,XF,fun _ _ _ _ _ _=>rfl,fun _ _ _ _ _ _ _=>rfl,Xc,Xd,fun A d args rest f caps=>by
   simp only[pQ];split
   ·rename_i h;rw[vg h,vf h]
   ·rename_i h;simp only[gR,if_neg h]⟩
theorem eV{A:ab}{s:Option Nat}{n:Nat}{p:List Nat}{b v old:I}{rest:List ay}(h1:v.cC=true)(h2:b6 s v=true)(h3:v.aL=old.aL):dW A s n p b v rest (some old)=ar rest (A.aQ n (.box (b.du p v))):=by
 simp only[dW];rw[if_pos ⟨h1,h2,h3⟩]
theorem Fz :
  (∀ A x,fO A (.ref x)=some x)∧(∀ A n p,fO A (.ptr n p)=dF p (A.o n))∧(∀ p c,dF p (some (.box c))=c.at p)∧(∀ c:I,c.at []=some c)∧(∀ (c:I) i p,c.at (i::p)=lh i p c.dc) ∧
  (∀ i p fs,lh i p (some fs)=nZ p fs[i]?)∧(∀ p f,nZ p (some f)=f.at p)∧(∀ c v:I,c.du [] v=v)∧(∀ (c:I) i p v,c.du (i::p) v=pd c i p v c.dc)∧(∀ c i p v fs,pd c i p v (some fs)=qU fs i p v fs[i]?) ∧
  (∀ fs i p v f,qU fs i p v (some f)=.agg (fs.set i (f.du p v)))∧(∀ fs,(I.agg fs).dc=some fs)∧(∀ x:I,ev (some x)=x.dc) ∧
  (∀ s x,fU s (some x)=if b6 s x=true then some x else none) ∧
  (∀ A f off c,mb A f off (.ref c)=rX f off c.dc)∧(∀ A f off n p,mb A f off (.ptr n p)=pY n p f off (ev (dF p (A.o n))))∧(∀ f off fs,rX f off (some fs)=pX fs f off fs[f]?)∧(∀ fs f off v,pX fs f off (some v)=gf fs f off (.ref v)) ∧
  (∀ n p f off fs,pY n p f off (some fs)=gf fs f off (.ptr n (p++[f])))∧(∀ A n esz x kk k,qc A n esz x (.int kk k)=ja A n esz k x)∧(∀ A n esz k c,ja A n esz k (.ref c)=ig k n (oE n esz k c.dc)) ∧
  (∀ A n esz k m p,ja A n esz k (.ptr m p)=ig k n (oD n esz m p k (ev (dF p (A.o m)))))∧(∀ n esz k fs,oE n esz k (some fs)=iH n esz fs ((fs[k.toNat]?).map .ref))∧(∀ n esz m p k fs,oD n esz m p k (some fs)=iH n esz fs (some (.ptr m (p++[k.toNat])))) ∧
  (∀ A esz x kk k,qf A esz x (.int kk k)=jb A esz k x)∧(∀ n esz s x kk k,qi n esz s x (.int kk k)=mW n esz s k x.dc)∧(∀ n esz s k fs,mW n esz s k (some fs)=ig k n (iH n esz fs (fU s fs[k.toNat]?))) ∧
  (∀ A n esz m p,nR A n esz (.ptr m p)=rh n esz m p (ev (dF p (A.o m))))∧(∀ n esz m p fs,rh n esz m p (some fs)=rf n esz fs (.view m p esz 0 n)) ∧
  (∀ A sz es,jV A (.slice sz es)=some (.int .i64 es.length))∧(∀ A n,jV A (.nils n)=some (.int .i64 0))∧(∀ A n,jV A (.c0 n)=some (.int .i64 0)) :=
 ⟨fun _ _=>rfl,fun _ _ _=>rfl,fun _ _=>rfl,pL,G2,fun _ _ _=>rfl,fun _ _=>rfl,fM,xd,fun _ _ _ _ _=>rfl,fun _ _ _ _ _=>rfl,fun _=>rfl,fun _=>rfl,fun _ _=>rfl,fun _ _ _ _=>rfl,fun _ _ _ _ _=>rfl,fun _ _ _=>rfl,fun _ _ _ _=>rfl,
  fun _ _ _ _ _=>rfl,fun _ _ _ _ _ _=>rfl,fun _ _ _ _ _=>rfl,fun _ _ _ _ _ _=>rfl,fun _ _ _ _=>rfl,fun _ _ _ _ _ _=>rfl,fun _ _ _ _ _=>rfl,fun _ _ _ _ _ _=>rfl,fun _ _ _ _ _=>rfl,fun _ _ _ _ _=>rfl,fun _ _ _ _ _=>rfl,fun _ _ _=>rfl,fun _ _=>rfl,fun _ _=>rfl⟩
theorem AS :
  (∀ A n p,bd true A (.ptr n p)=ou true A (dF p (A.o n)))∧(∀ A x,ou true A (some x)=if x.bC=true then some (.ref x) else (gr A 9 x).map .ref)∧(∀ A n p sz lo k,bd true A (.view n p sz lo k)=jP sz lo k (ev (dF p (A.o n)))) ∧
  (∀ A n p,bd false A (.ptr n p)=none)∧(∀ A n p sz lo k,bd false A (.view n p sz lo k)=none)∧(∀ x,lv none x=none)∧(∀ x,lv x none=none) ∧
  (∀ aI A n k,bd aI A (.own n k)=ky k (A.o n))∧(∀ aI A fs,bd aI A (.agg fs)=(bJ aI A fs).map .agg)∧(∀ aI A f fs,bd aI A (.func f fs)=if f<1000000 then (bJ aI A fs).map (.func f) else some .any)∧(∀ aI A k n,bd aI A (.int k n)=some (.int k n))∧(∀ aI A b,bd aI A (.bool b)=some (.bool b)) ∧
  (∀ aI A s,bd aI A (.aj s)=some (.aj s))∧(∀ aI A n,bd aI A (.nils n)=some (.slice n []))∧(∀ aI A n es,bd aI A (.slice n es)=if I.cu es=true then some (.slice n es) else none)∧(∀ aI A x,bd aI A (.ref x)=if x.bC=true then some (.ref x) else none) ∧
  (∀ aI A,bJ aI A []=some [])∧(∀ aI A x xs,bJ aI A (x::xs)=lv (bd aI A x) (bJ aI A xs))∧(∀ x xs,lv (some x) (some xs)=some (x::xs)) ∧
  (∀ fs,(I.agg fs).bC=I.cu fs)∧(∀ n fs,(I.slice n fs).bC=I.cu fs)∧(∀ x,(I.ref x).bC=x.bC)∧(∀ k n,(I.int k n).bC=true)∧(∀ n,(I.bool n).bC=true)∧(∀ n,(I.aj n).bC=true)∧(∀ f fs,(I.func f fs).bC=I.cu fs) ∧
  I.cu []=true∧(∀ x xs,I.cu (x::xs)=(x.bC&&I.cu xs)) ∧
  (∀ rs r A,j9 rs r .ret A=nz r (eA A rs))∧(∀ rs r A,j9 rs r .normal A=nz r (eA A rs))∧(∀ r xs,nz r (some xs)=(j6 xs=r))∧(∀ A,eA A []=some [])∧(∀ A t rs,eA A (.tmp t::rs)=lv (bd true A (A.t t)) (eA A rs)) ∧
  (∀ A a s rs,eA A (.cell a s::rs)=lv (qM s A (fO A (A.t a))) (eA A rs))∧(∀ s A x,qM s A (some x)=if b6 s x=true then bd true A x else none)∧(∀ x,j6 [x]=x)∧(∀ x y xs,j6 (x::y::xs)=.tuple (x::y::xs)) :=
 ⟨vl,fun _ _=>rfl,vm,fun _ _ _=>rfl,fun _ _ _ _ _ _=>rfl,fun _=>rfl,fun x=>by cases x <;>rfl,MI,MC,ME,MF,MD,ML,MH,MK,MJ,MQ,MP,fun _ _=>rfl,JY,J3,J2,J1,JZ,J4,J0,J6,J5,
  YR,YQ,fun _ _=>rfl,YI,YJ,YH,fun _ _ _=>rfl,fun _=>rfl,fun _ _ _=>rfl⟩
theorem yG :
  (∀ k a b,bL .add (.int k a) (.int k b)=some (.int k (k.wrap (a+b))))∧(∀ k a b,bL .sub (.int k a) (.int k b)=some (.int k (k.wrap (a-b))))∧(∀ k a b,bL .mul (.int k a) (.int k b)=some (.int k (k.wrap (a*b)))) ∧
  (∀ k a b,bL .quo (.int k a) (.int k b)=if b=0 then none else some (.int k (k.wrap (a.tdiv b))))∧(∀ k a b,bL .rem (.int k a) (.int k b)=if b=0 then none else some (.int k (a.tmod b))) ∧
  (∀ k a b,bL .and (.int k a) (.int k b)=some (.int k (k.wrap ((BitVec.ofInt k.bits a &&& BitVec.ofInt k.bits b).toNat:Int))))∧(∀ k a b,bL .or (.int k a) (.int k b)=some (.int k (k.wrap ((BitVec.ofInt k.bits a ||| BitVec.ofInt k.bits b).toNat:Int)))) ∧
  (∀ k a b,bL .xor (.int k a) (.int k b)=some (.int k (k.wrap ((BitVec.ofInt k.bits a ^^^ BitVec.ofInt k.bits b).toNat:Int))))∧(∀ k a b,bL .andNot (.int k a) (.int k b)=some (.int k (k.wrap ((BitVec.ofInt k.bits a &&& ~~~ BitVec.ofInt k.bits b).toNat:Int)))) ∧
  (∀ k k' a b,bL .shl (.int k a) (.int k' b)=if 0≤b then some (.int k (k.wrap (a*2^(min b.toNat k.bits)))) else none)∧(∀ k k' a b,bL .shr (.int k a) (.int k' b)=if 0≤b then some (.int k (a.fdiv (2^(min b.toNat k.bits)))) else none) ∧
  (∀ k a b,bL .eql (.int k a) (.int k b)=some (.bool (a==b)))∧(∀ k a b,bL .neq (.int k a) (.int k b)=some (.bool (a != b)))∧(∀ k a b,bL .lss (.int k a) (.int k b)=some (.bool (decide (a<b))))∧(∀ k a b,bL .leq (.int k a) (.int k b)=some (.bool (decide (a≤b)))) ∧
  (∀ k a b,bL .gtr (.int k a) (.int k b)=some (.bool (decide (b<a))))∧(∀ k a b,bL .geq (.int k a) (.int k b)=some (.bool (decide (b≤a)))) :=
 ⟨Hb,Hr,Hj,Hn,Ho,Hc,Hm,Hs,Hd,Hp,Hq,He,Hk,Hi,Hh,Hg,Hf⟩
end Go.Abs
namespace Go.Abs
open Go Go.RowKit
open Enc (enc)
section
variable {α:Type} [Enc α]
theorem Wu(A:ab)(l:List α):jV A (enc l)=some (.int .i64 l.length):=by simp[iG,jV]
theorem VR{A:ab}(esz:Nat){k:Int}{l:List α}(h:0≤k∧k.toNat<l.length)(hs:Enc.sz α=esz):jb A esz k (enc l)=some (.ref (enc l[k.toNat])):=by
 simp only[iG,jb,hs,Z2,true_and];rw[if_pos ⟨h.1,by omega⟩];simp[h.2]
theorem eS{A:ab}(esz:Nat){k:Nat}{l:List α}(h:k<l.length)(hs:Enc.sz α=esz):jb A esz k (enc l)=some (.ref (enc l[k])):=by
 have:=VR (A:=A) esz (k:=(k:Int)) (l:=l) ⟨by omega,by simpa using h⟩ hs;simpa using this
theorem en.lt{α:Type}{n:Nat}(x:en n α){k:Nat}(h:k<n):k<x.l.length:=by rw[x.h];exact h
theorem ZU{n:Nat}(esz:Nat){k:Int}{x:en n α}(h:0≤k∧k.toNat<n)(hs:Enc.sz α=esz):ig k n (oE n esz k (some (x.l.map enc)))=some (.ref (enc (x.l[k.toNat]'(x.lt h.2)))):=by
 have hl:=x.lt h.2;simp only[ig,oE,iH,vb n esz x.l x.h hs,if_true];rw[if_pos ⟨h.1,by omega⟩];simp[hl]
theorem si{n:Nat}(esz:Nat){k:Int}(x:en n α){y:Option I}(h:0≤k∧k<n)(hs:Enc.sz α=esz):ig k n (iH n esz (x.l.map enc) y)=y:=by
 simp only[ig,iH,vb n esz x.l x.h hs,if_true];rw[if_pos h]
theorem U4{n k:Nat}(x:en n α)(h:k<n):(x.l.map enc)[k]?=some (enc (x.l[k]'(x.lt h))):=by
 simp[x.lt h]
theorem V0{n:Nat}(esz:Nat){s:Option Nat}{k:Int}{x:en n α}(h:0≤k∧k.toNat<n)(hs:Enc.sz α=esz):mW n esz s k (some (x.l.map enc))=fU s (some (enc (x.l[k.toNat]'(x.lt h.2)))):=by
 have hl:=x.lt h.2;simp only[mW,ig,iH,vb n esz x.l x.h hs,if_true];rw[if_pos ⟨h.1,by omega⟩];simp[hl]
theorem G1{n k:Nat}{p:List Nat}{x:en n α}(h:k<n):lh k p (some (x.l.map enc))=(enc (x.l[k]'(x.lt h))).at p:=by
 have hl:=x.lt h;simp[lh,nZ,hl]
theorem XP(k:IntKind)(n:Int):fU none (some (.int k n))=some (.int k n):=by simp[fU,mn,b6,I.isAgg]
theorem XN(b:Bool):fU none (some (.bool b))=some (.bool b):=by simp[fU,mn,b6,I.isAgg]
theorem XQ(z:Nat)(es:List I):fU none (some (.slice z es))=some (.slice z es):=by simp[fU,mn,b6,I.isAgg]
theorem XO(f:FuncId)(es:List I):fU none (some (.func f es))=some (.func f es):=by simp[fU,mn,b6,I.isAgg]
end
mutual
/-- What every value in memory keeps to: whole numbers within their kind,slices no longer than a slice can be. -/
def I.wf:I→Prop
 | .agg fs=>I.gL fs
 | .int k n=>k.min≤n∧n≤k.max
 | .aj s=>s.size≤maxLen
 | .slice _ es=>es.length≤maxLen∧I.gL es
 | .ref c=>c.wf
 | .func _ caps=>I.gL caps
 | .iface _ v=>v.wf
 |_=>True
def I.gL:List I→Prop
 | []=>True
 |x::xs=>x.wf∧I.gL xs
end
mutual
theorem tj{w:World}{D:aK}{E:aN} : ∀ (x:I) (cs:List Value),ae w D E x cs→x.wf
 | .agg fs,cs,h=>by simp only[ae,I.wf] at *;exact wO fs cs h
 | .int k n,cs,h=>by simp only[ae,I.wf] at *;exact h.2
 | .aj s,cs,h=>by simp only[ae,I.wf] at *;exact h.2
 | .slice sz es,cs,h=>by
  simp only[ae,I.wf] at *;obtain ⟨a,cap,_,h1,h2,h3,_⟩:=h;refine ⟨by omega,?_⟩;rcases h3 with rfl | ⟨b,off,cs',_,_,h4⟩
  ·simp[I.gL]
  ·exact wO es cs' h4
 | .ref c,cs,h=>by simp only[ae,I.wf] at *;obtain ⟨b,off,cs',_,_,h⟩:=h;exact tj c cs' h
 | .func f caps,cs,h=>by simp only[ae,I.wf] at *;obtain ⟨vs,_,h⟩:=h;exact o9 caps vs h
 | .iface t v,cs,h=>by simp only[ae,I.wf] at *;obtain ⟨u,cs',_,_,h⟩:=h;exact tj v cs' h
 | .bool _,_,_ | .nilp,_,_ | .de,_,_ | .cS,_,_ | .any,_,_ | .raw _,_,_ | .nils _,_,_ | .c0 _,_,_ | .ptr _ _,_,_ | .own _ _,_,_ | .view _ _ _ _ _,_,_ | .mref _,_,_ | .cX _,_,_ | .c6 _ _,_,_ | .undef,_,_ | .cY,_,_ | .tuple _,_,_=>by simp[I.wf]
theorem wO{w:World}{D:aK}{E:aN} : ∀ (xs:List I) (cs:List Value),aC w D E xs cs→I.gL xs
 | [],_,_=>by simp[I.gL]
 |x::xs,cs,h=>by
  simp only[aC,I.gL] at *;obtain ⟨c1,c2,_,h1,h2⟩:=h;exact ⟨tj x c1 h1,wO xs c2 h2⟩
theorem o9{w:World}{D:aK}{E:aN} : ∀ (xs:List I) (vs:List Value),al w D E xs vs→I.gL xs
 | [],_,_=>by simp[I.gL]
 |x::xs,vs,h=>by
  simp only[al,I.gL] at *;obtain ⟨v,rest,cs,_,_,h1,h2⟩:=h;exact ⟨tj x cs h1,o9 xs rest h2⟩
end
theorem aS.wf{P:Program}{f:FuncId}{args:List I}{r:I}(hc:dS P f=true)(h:I.gL args→aS P f args r):aS P f args r :=
 ⟨hc,fun w D vs hl h1 h2=>(h (o9 _ _ h2)).2 w D vs hl h1 h2⟩
theorem aS.bT{P:Program}{f:FuncId}{fn:Func}{x:bj}{rs:List bz}{args:List I}{r:I}(hf:P.funcs[f]?=some fn)(hcall:dS P f=true)(hc:(fn.body.bind (dR P fn.ntmps))=some x)
  (hrs:gn P fn.results.toList=some rs) (hn:args.length≤fn.ntmps) (h:I.gL args→∀ (w:World) (D:aK) (E:aN),U ⟨P,w,D,fn.ntmps,bX E,E,fQ,none,none⟩ x (j9 rs r) (aq (bF 0 args) [])):aS P f args r :=
 aS.wf hcall fun hw=>aS.mk hf hcall hc hrs hn (h hw)
theorem ji{α:Type}[Enc α] :
  (∀ A (l:List α),jV A (enc l)=some (.int .i64 l.length))∧(∀ n (x:en n α),(enc x).dc=some (x.l.map enc)) :=
 ⟨Wu,fun _ _=>rfl⟩
theorem j0:(∀ k n,fU none (some (.int k n))=some (.int k n))∧(∀ b,fU none (some (.bool b))=some (.bool b))∧(∀ z es,fU none (some (.slice z es))=some (.slice z es))∧(∀ f es,fU none (some (.func f es))=some (.func f es)) :=
 ⟨XP,XN,XQ,XO⟩
end Go.Abs
namespace Go.Abs
open Go Go.RowKit
open Enc (enc)
def oO(neg:Bool):I→Option I
 | .nils _=>some (.bool (!neg))
 | .slice _ es=>if es.isEmpty then none else some (.bool neg)
 | .view _ _ _ _ _=>some (.bool neg)
 |_=>none
def mh:I→Option I
 | .aj s=>some (.int .i64 s.size)
 |_=>none
open Classical in
noncomputable def lP(n:Nat)(p:List Nat)(sz l0 k esz:Nat)(lo hi mx:Option I):Option (List I)→Option I
 |some fs=>if sz=esz then iR n p sz l0 k fs.length lo hi mx else none
 |none=>none
noncomputable def jF(A:ab)(esz:Nat)(lo hi mx:Option I):I→Option I
 | .slice sz es=>if sz=esz then iQ sz es lo hi mx else none
 | .nils sz=>if sz=esz then iQ sz [] lo hi mx else none
 | .c0 sz=>if sz=esz then iQ sz [] lo hi mx else none
 | .view n p sz l0 k=>lP n p sz l0 k esz lo hi mx (ev (dF p (A.o n)))
 |_=>none
open Classical in
noncomputable def gm(esz:Nat):Option (List I)→Option I
 |some es=>if (es.all fun e=>e.size==esz)=true∧I.cu es=true then some (.slice esz es) else none
 |none=>none
open Classical in
noncomputable def pI(A:ab)(d:Option Nat)(e esz bytes n l T sz':Nat)(es:List I)(rest:List ay):I→cg
 | .slice sz ys=>if wm e esz bytes l sz ys T sz' es then ar rest ((A.aQ n (.bH e esz (es++ys))).aP d (.own n (es.length+ys.length))) else .fail
 |_=>.fail
open Classical in
noncomputable def ur(A:ab)(d:Option Nat)(e esz bytes:Nat)(z:I)(n l T:Nat)(xs:List Int)(rest:List ay):I→cg
 | .slice _ ys=>if wo e esz bytes l ys T xs z then ar rest ((A.aQ n (.dK e (xs++qd ys))).aP d (.own n (xs.length+ys.length))) else .fail
 |_=>.fail
noncomputable def pH(A:ab)(d:Option Nat)(e esz bytes:Nat)(z:I)(n l:Nat)(x:I)(rest:List ay):Option ai→cg
 |some (.bH T sz' es)=>pI A d e esz bytes n l T sz' es rest x
 |some (.dK T xs)=>ur A d e esz bytes z n l T xs rest x
 |_=>.fail
noncomputable def eY(A:ab)(d:Option Nat)(e esz bytes:Nat)(z x:I)(rest:List ay):I→cg
 | .own n l=>pH A d e esz bytes z n l x rest (A.o n)
 |s=>ed A d esz bytes z s (cW A esz s) (cW A esz x) (ar rest)
section
variable (d:Option Nat) (rest:List ay) (A:ab)
noncomputable def oP(neg:Bool)(x:I):Bool→cg
 |true=>.any (fun m=>m<2) (fun m=>ar rest (A.aP d (.bool (m==0))))
 |false=>cq (oO neg x) (cF d rest A)
theorem Xz(neg:Bool)(x:az):bo A d (.nilS neg x) rest=oP d rest A neg (af A x) (jh (af A x)):=by
 simp only[bo,aW,aV];cases jh (af A x)
 ·simp only[Z6,if_false,oP,oO];cases af A x <;>rfl
 ·rfl
theorem Xr(x:az):bo A d (.lenT x) rest=cq (mh (af A x)) (cF d rest A):=by
 simp only[bo,aW,aV];cases af A x <;>rfl
theorem XE(esz:Nat)(x:az)(lo hi mx:Option az):bo A d (.sl esz x lo hi mx) rest=cq (jF A esz (lo.map (af A)) (hi.map (af A)) (mx.map (af A)) (af A x)) (cF d rest A):=by
 simp only[bo,aW,aV];cases af A x <;>try rfl
 rename_i n p sz l0 k;simp only[jF,jN,fO];cases dF p (A.o n) with
 |none=>rfl
 |some c=>cases c <;>simp only[ev,I.dc,lP] <;>(first | rfl | (split <;>rfl))
theorem Xb(T esz:Nat)(ps:List az):bo A d (.bs T esz ps) rest=cq (gm esz (bJ false A (ps.map (af A)))) (cF d rest A):=by
 simp only[bo,aW,aV];cases bJ false A (ps.map (af A)) <;>simp only[gm] <;>rfl
theorem W6(e esz bytes:Nat)(z:I)(s x:az):bo A d (.dM e esz bytes z s x) rest=eY A d e esz bytes z (af A x) rest (af A s):=by
 simp only[bo,aW];generalize af A s=s';generalize af A x=x';cases s' <;>simp only[eY]
 rename_i n l;cases x' <;>simp only <;>generalize A.o n=z <;>(cases z with
  |none=>rfl
  |some y=>cases y <;>simp only[pH,pI,ur])
end
theorem CK :
  (∀ d rest A neg x,bo A d (.nilS neg x) rest=oP d rest A neg (af A x) (jh (af A x)))∧(∀ d rest A neg x,oP d rest A neg x false=cq (oO neg x) (cF d rest A))∧(∀ z,jh (.nils z)=false)∧(∀ n p sz lo k,jh (.view n p sz lo k)=false)∧(∀ d rest A x,bo A d (.lenT x) rest=cq (mh (af A x)) (cF d rest A)) ∧
  (∀ d rest A esz x lo hi mx,bo A d (.sl esz x lo hi mx) rest=cq (jF A esz (lo.map (af A)) (hi.map (af A)) (mx.map (af A)) (af A x)) (cF d rest A)) ∧
  (∀ d rest A T esz ps,bo A d (.bs T esz ps) rest=cq (gm esz (bJ false A (ps.map (af A)))) (cF d rest A))∧(∀ d rest A e esz bytes z s x,bo A d (.dM e esz bytes z s x) rest=eY A d e esz bytes z (af A x) rest (af A s)) ∧
  (∀ A d e esz bytes z x rest n l,eY A d e esz bytes z x rest (.own n l)=pH A d e esz bytes z n l x rest (A.o n))∧(∀ A d e esz bytes z n l x rest T sz es,pH A d e esz bytes z n l x rest (some (.bH T sz es))=pI A d e esz bytes n l T sz es rest x)∧(∀ A d e esz bytes z n l x rest T xs,pH A d e esz bytes z n l x rest (some (.dK T xs))=ur A d e esz bytes z n l T xs rest x) ∧
  (∀ neg z,oO neg (.nils z)=some (.bool (!neg))) :=
 ⟨Xz,fun _ _ _ _ _=>rfl,fun _=>rfl,fun _ _ _ _ _=>rfl,Xr,XE,Xb,W6,fun _ _ _ _ _ _ _ _ _ _=>rfl,fun _ _ _ _ _ _ _ _ _ _ _ _ _=>rfl,fun _ _ _ _ _ _ _ _ _ _ _ _=>rfl,fun _ _=>rfl⟩
theorem nj(p:Nat→Bool)(xs ys:List I):I.bV p (xs++ys)=(I.bV p xs&&I.bV p ys):=by
 induction xs with
 |nil=>simp[I.bV]
 |cons x xs ih=>simp[I.bV,ih,Bool.and_assoc]
section
variable {α:Type} [Enc α]
theorem yr{A:ab}{d:Option Nat}(e:Nat)(esz bytes n:Nat){l:Nat}{es ys:List α}{rest:List ay}(hl:l=es.length)(hs:Enc.sz α=esz)(hy:ys≠[])(h1:es.length+ys.length≤maxLen)(h2:(es.length+ys.length)*bytes≤140737488355328) :
  pI A d e esz bytes n l e esz (es.map enc) rest (enc ys)=ar rest ((A.aQ n (.bH e esz ((es++ys).map enc))).aP d (.own n (es++ys).length)):=by
 simp only[iG,pI];rw[if_pos ⟨by simpa using hl,hs,rfl,rfl,by simpa using hy,by simpa using h1,by simpa using h2⟩];simp
theorem uG(esz:Nat){ys:List α}(hs:Enc.sz α=esz):gm esz (some (ys.map enc))=some (enc ys):=by
 have h1:((ys.map enc).all fun e:I=>e.size==esz)=true:=by
  simp only[zy5,zy3];rintro x ⟨y,_,rfl⟩;simp[Enc.size,hs]
 simp only[gm,iG];rw[if_pos ⟨h1,pS ys⟩,hs]
theorem oa(esz:Nat)(y:α)(hs:Enc.sz α=esz):gm esz (some [enc y])=some (enc [y]):=uG (ys:=[y]) esz hs
theorem pZ(sz:Nat){T k:Nat}{es:List α}(hk:k=es.length)(hs:Enc.sz α=sz):ky k (some (.bH T sz (es.map enc)))=some (enc es):=by
 simp only[ky,Z2];rw[if_pos ⟨hk,pS es⟩,iG,hs]
theorem j4(p:Nat→Bool)(l:List α):I.bV p (l.map enc)=true:=by
 induction l with
 |nil=>rfl
 |cons x l ih=>simp only[Z3,I.bV,br,ih,Bool.and_self]
end
theorem BJ :
  (∀ n:Int,gm 1 (some [.int .i64 n])=some (enc [n]))∧(∀ (T:Nat) (es:List Int),ky es.length (some (.bH T 1 (es.map enc)))=some (enc es)) :=
 ⟨fun n=>oa 1 n rfl,fun _ _=>pZ 1 rfl rfl⟩
theorem bg.Gz{A:ab}{d n T sz z:Nat}(hd:A.t d=.nils z)(hn:A.o n=none)(hlt:n<1000000):bg A ((A.aQ n (.bH T sz [])).put d (.own n 0)):=by
 rintro c a w ⟨D,E,h⟩;have ak:E n=none:=by have:=h.bB n;rw[hn] at this;exact this
 have hl:dj w D E w D (fun m=>if m=n then some (.rw none 0) else E m):=by
  have eD:∀ {m:Nat} {e:bx},E m=some e→(if m=n then some (.rw none 0) else E m)=some e:=fun {m e} he=>by
   have:m≠n:=fun e=>by rw[e,ak] at he;cases he
   rw[if_neg this];exact he
  refine ⟨fun _ _ h=>h,fun _ _ _ _ h=>h,fun m b aL he=>eD he,fun m aB l he =>?_,fun m b he=>eD he,fun m b he=>eD he,fun _ _ _ _ h=>h⟩
  ·have:m≠n:=fun e=>by rw[e,ak] at he;cases he
   exact ⟨aB,l,by simp only[if_neg this];exact he,Z4 _,fun _=>rfl⟩
 refine ⟨D,fun m=>if m=n then some (.rw none 0) else E m,h.sz,h.dT,fun t =>?_,h.db,h.cH,h.cN,fun m =>?_,fun m m' e e' b h1 h2 h3 h4 =>?_,fun m e hm =>?_,h.ee,h.cz,h.eF,h.fe⟩
 ·simp only[ab.put,ab.aQ];by_cases ht:t=d
  ·subst ht;simp only[if_true];have hv:=h.dv t;rw[hd] at hv;obtain ⟨cs,q1,q2⟩:=hv;simp only[ae] at q2;subst q2;refine ⟨[.slice none 0 0],by simpa[aZ,I.isAgg] using q1,?_⟩;simp only[ae,if_true];exact ⟨none,0,rfl,Z4 _,⟨_,_,_,rfl⟩,fun _=>trivial⟩
  ·simp only[if_neg ht];exact aR.later hl (h.dv t)
 ·simp only[ab.put,ab.aQ];by_cases hm:m=n
  ·subst hm;simp only[if_true,cJ];exact ⟨none,by simp,by simp,trivial⟩
  ·simp only[if_neg hm];exact (h.bB m).later hl (by simp only[if_neg hm]) fun _ _ _ _=>⟨rfl,fun _ ho=>ho⟩
 ·by_cases hm:m=n <;>by_cases hm':m'=n
  ·rw[hm,hm']
  ·simp only[if_pos hm,v6] at h1;subst h1;simp[bx.aB] at h3
  ·simp only[if_pos hm',v6] at h2;subst h2;simp[bx.aB] at h4
  ·simp only[if_neg hm] at h1;simp only[if_neg hm'] at h2;exact h.cw m m' e e' b h1 h2 h3 h4
 ·have hmn:m≠n:=fun e=>by rw[e,h.jt (.inr hlt)] at hm;cases hm
  simp only[if_neg hmn];exact h.dp m e hm
theorem bg.GC{ts:List (Nat×I)}{os:List (Nat×ai)}(d n T sz z:Nat)(hd:bM ts d=.nils z)(hn:aA os n=none){B:ab}(h:bg (aq ((d,.own n 0)::ts) ((n,.bH T sz [])::os)) B)(hlt:n<1000000:=by decide):bg (aq ts os) B :=
 ((bg.Gz (A:=aq ts os) (T:=T) (sz:=sz) hd hn hlt).trans (by rw[sJ,v8];exact bg.refl _)).trans h
def en.g{n:Nat}(x:en n Int)(k:Nat):Int:=x.l.getD k 0
theorem en.vA{n k:Nat}(x:en n Int)(h:k<n):x.l[k]'(x.lt h)=x.g k:=by simp[en.g,x.lt h]
theorem kj{n k:Nat}{p:List Nat}(x:en n Int)(h:k<n):lh k p (some (x.l.map enc))=(I.int .i64 (x.g k)).at p:=by
 rw[G1 h,x.vA h];rfl
theorem Bt{n k:Nat}(x:en n Int)(h:k<n):(x.l.map (enc (α:=Int)))[k]?=some (I.int .i64 (x.g k)):=by
 rw[U4 x h,x.vA h];rfl
theorem CB:(∀ k n,b6 none (.int k n)=true)∧(∀ b,b6 none (.bool b)=true)∧(∀ z es,b6 none (.slice z es)=true)∧(∀ f es,b6 none (.func f es)=true)∧(∀ z,b6 none (.nils z)=true)∧(∀ n k,b6 none (.own n k)=true) :=
 ⟨fun _ _=>rfl,fun _=>rfl,fun _ _=>rfl,fun _ _=>rfl,fun _=>rfl,fun _ _=>rfl⟩
theorem ba:(type_of% @ym)∧(type_of% @CJ)∧(type_of% @CK)∧(type_of% @BJ)∧(type_of% @CB)∧(type_of% @Fz)∧(type_of% @AS)∧(type_of% @yG)∧(∀ n:Int,(enc n:I)=.int .i64 n)∧(∀ n:Bool,(enc n:I)=.bool n) ∧
  (∀ {α β:Type} (f:α→β) (x:α) (xs:List α),List.map f (x::xs)=f x::List.map f xs)∧(∀ {α β:Type} (f:α→β),List.map f []=[])∧(∀ {α:Type} (xs:List α),[]++xs=xs)∧(∀ n:Nat,(n:Int).toNat=n)∧(∀ {α β:Type} (f:α→β) (x:α),Option.map f (some x)=some (f x)) ∧
  (∀ n:Nat,0≤(n:Int))∧((!true)=false)∧((!false)=true)∧((false=true)=False)∧((true=false)=False) :=
 ⟨@ym,@CJ,@CK,@BJ,@CB,@Fz,@AS,@yG,rU,Az,fun _ _ _=>rfl,fun _=>rfl,fun _=>rfl,fun _=>rfl,fun _ _=>rfl,fun n=>Int.natCast_nonneg n,rfl,rfl,by simp,by simp⟩
end Go.Abs
namespace Go.Abs
open Go Go.RowKit
open Enc (enc)
theorem jj.bT{P:Program}{f:FuncId}{fn:Func}{x:bj}{rs:List bz}{Y:Value→List I→List (Nat×ai)→cj→Prop}{args:List I}{os:List (Nat×ai)}{post:cj}(hf:P.funcs[f]?=some fn)(hcall:dS P f=true)(hc:(fn.body.bind (dR P fn.ntmps))=some x)
  (hrs:gn P fn.results.toList=some rs) (hn:args.length≤fn.ntmps) (hn2:fn.ntmps≤1000000) (hos:∀ m,ao os m=true→1000000≤m) (h:I.gL args→∀ (w:World) (D:aK) (E:aN),U ⟨P,w,D,fn.ntmps,bX E,E,Y,none,none⟩ x (ny rs post) (aq (bF 0 args) os)):jj P f Y args os post:=by
 obtain ⟨body,hb,hc'⟩:=zx6.1 hc;refine ⟨hcall,fun w D E vs hy hD ho hv =>?_⟩;exact (jj.sU hf hb hcall hc' hrs hn (fun m hm=>⟨Nat.le_trans hn2 (hos m hm),hos m hm⟩) (fun w D E=>(h (o9 _ _ hv) w D E).sub (tK args os))).2 w D E vs hy hD ho hv
theorem eW.bT{P:Program}{f:FuncId}{fn:Func}{x:bj}{rs:List bz}{args:List I}{os:List (Nat×ai)}{post:cj}(hf:P.funcs[f]?=some fn)(hcall:dS P f=true)(hc:(fn.body.bind (dR P fn.ntmps))=some x)
  (hrs:gn P fn.results.toList=some rs) (hn:args.length≤fn.ntmps) (hn2:fn.ntmps≤1000000) (hos:∀ m,ao os m=true→1000000≤m) (h:I.gL args→∀ (w:World) (D:aK) (E:aN),U ⟨P,w,D,fn.ntmps,bX E,E,fQ,none,none⟩ x (ny rs post) (aq (bF 0 args) os)):eW P f args os post :=
 eW.Cr (jj.bT hf hcall hc hrs hn hn2 hos h)
theorem vF{A:ab} : ∀ n x,aA [] n=some x→A.o n=some x∧x.only (ao [])=true∧x.er=true:=fun n x h=>by simp[aA] at h
theorem oC{A:ab}{k:Nat}{c:I}(h1:A.o k=some (.box c))(h2:∀ p,c.only p=true):∀ n x,aA [(k,.box c)] n=some x→A.o n=some x∧x.only (ao [(k,.box c)])=true∧x.er=true:=fun n x h=>by
 simp only[aA] at h;split at h
 ·rename_i hn;subst hn;simp only[v6] at h;subst h;exact ⟨h1,h2 _,rfl⟩
 ·cases h
theorem dh.nil{aI:Bool}{ρ:List (Nat×Nat)}{os0:List (Nat×ai)}{r:I}(h1:∀ p,r.only p=true)(h2:aI=true→r.cZ=true):dh aI ρ [] os0 r [] :=
 ⟨fun m x h=>by simp[aA] at h,fun m m' h=>by simp[ao,aA] at h,fun m h=>by simp[ao,aA] at h,fun m h=>by simp[ao,aA] at h,h1 _,h2⟩
theorem ga{k:Nat}{x:ai}{m:Nat} : ao [(k,x)] m=true↔m=k:=by
 simp only[ao,aA];split <;>simp_all
theorem dh.qx{aI:Bool}{k d:Nat}{os0:List (Nat×ai)}{r c:I}(h1:∀ p,c.only p=true)(h2:aI=true→c.cZ=true)(h3:r.only (ao [(k,.box c)])=true)(h4:aI=true→r.cZ=true)(h5:aA os0 d=none)(h6:d<1000000):dh aI [(k,d)] [] os0 r [(k,.box c)]:=by
 refine ⟨fun m x h =>?_,fun m m' h h' _ =>?_,fun m h=>by simp[ao,aA] at h,fun m h _ =>?_,h3,h4⟩
 ·simp only[aA] at h;split at h
  ·simp only[v6] at h;subst h;exact ⟨h1 _,rfl,h2⟩
  ·cases h
 ·rw[ga.1 h,ga.1 h']
 ·rw[ga.1 h];simp[bh,h5,h6]
theorem eP.nil{ρ:List (Nat×Nat)}{os0:List (Nat×ai)} : eP ρ [] os0:=⟨fun m x h=>by simp[aA] at h,fun m m' h=>by simp[ao,aA] at h⟩
mutual
theorem qL(ρ:Nat→Nat):∀ x:I,x.bC=true→x.aO ρ=x
 | .agg fs,h=>by simp only[I.aO,I.bC] at *;rw[nv ρ fs h]
 | .slice _ es,h=>by simp only[I.aO,I.bC] at *;rw[nv ρ es h]
 | .ref x,h=>by simp only[I.aO,I.bC] at *;rw[qL ρ x h]
 | .func _ caps,h=>by simp only[I.aO,I.bC] at *;rw[nv ρ caps h]
 | .iface _ v,h=>by simp only[I.aO,I.bC] at *;rw[qL ρ v h]
 | .bool _,_ | .int _ _,_ | .aj _,_ | .nilp,_ | .de,_ | .cS,_ | .any,_ | .raw _,_ | .nils _,_ | .c0 _,_=>by simp only[I.aO]
 | .c6 ks vs,h=>by simp only[I.aO,I.bC,Z0] at *;rw[nv ρ ks h.1,nv ρ vs h.2]
 | .ptr _ _,h | .own _ _,h | .view _ _ _ _ _,h | .mref _,h | .cX _,h | .undef,h | .cY,h | .tuple _,h=>by simp[I.bC] at h
theorem nv(ρ:Nat→Nat):∀ xs:List I,I.cu xs=true→I.cV ρ xs=xs
 | [],_=>rfl
 |x::xs,h=>by
  simp only[I.cu,Z0] at h;simp only[I.cV,qL ρ x h.1,nv ρ xs h.2]
end
theorem kN :
  (∀ (k:IntKind) n (ρ:Nat→Nat),(I.int k n).aO ρ=.int k n)∧(∀ (b:Bool) (ρ:Nat→Nat),(I.bool b).aO ρ=.bool b)∧(∀ n p (ρ:Nat→Nat),(I.ptr n p).aO ρ=.ptr (ρ n) p) ∧
  (∀ n p sz lo k (ρ:Nat→Nat),(I.view n p sz lo k).aO ρ=.view (ρ n) p sz lo k)∧(∀ fs (ρ:Nat→Nat),(I.agg fs).aO ρ=.agg (I.cV ρ fs))∧(∀ fs (ρ:Nat→Nat),(I.tuple fs).aO ρ=.tuple (I.cV ρ fs))∧(∀ f fs (ρ:Nat→Nat),(I.func f fs).aO ρ=.func f (I.cV ρ fs)) ∧
  (∀ ρ:Nat→Nat,I.cV ρ []=[])∧(∀ (ρ:Nat→Nat) x xs,I.cV ρ (x::xs)=x.aO ρ::I.cV ρ xs)∧(∀ (ρ:Nat→Nat) (x:I),(ai.box x).aO ρ=.box (x.aO ρ)) ∧
  (∀ (z:Nat) (ρ:Nat→Nat),(I.nils z).aO ρ=.nils z)∧(∀ (z:Nat) (ρ:Nat→Nat),(I.c0 z).aO ρ=.c0 z) ∧
  (∀ n,bh [] n=n)∧(∀ a b r n,bh ((a,b)::r) n=if n=a then b else bh r n)∧(∀ ρ,cO ρ []=[])∧(∀ ρ k x os,cO ρ ((k,x)::os)=(bh ρ k,x.aO (bh ρ))::cO ρ os) :=
 ⟨fun _ _ _=>by simp only[I.aO],fun _ _=>by simp only[I.aO],fun _ _ _=>by simp only[I.aO],fun _ _ _ _ _ _=>by simp only[I.aO],fun _ _=>by simp only[I.aO],fun _ _=>by simp only[I.aO],fun _ _ _=>by simp only[I.aO],
  fun _=>rfl,fun _ _ _=>by simp only[I.cV],fun _ _=>rfl,fun _ _=>by simp only[I.aO],fun _ _=>by simp only[I.aO],fun _=>rfl,fun _ _ _ _=>rfl,fun _=>rfl,fun _ _ _ _=>rfl⟩
section
variable {α:Type} [Enc α]
theorem gQ(ρ:Nat→Nat)(x:α):(enc x).aO ρ=enc x:=qL ρ _ (kr x)
theorem jB(ρ:Nat→Nat)(l:List α):I.cV ρ (l.map enc)=l.map enc:=nv ρ _ (pS l)
theorem kT(A:ab)(esz:Nat)(l:List α)(hs:Enc.sz α=esz):cW A esz (enc l)=some (l.map enc):=by
 simp only[iG,cW,hs,if_true]
theorem tN(l:List α):jh (enc l)=l.isEmpty:=by
 simp only[iG,jh];cases l <;>rfl
theorem Ck(neg:Bool)(l:List α)(h:l≠[]):oO neg (enc l)=some (.bool neg):=by
 simp only[iG,oO];cases l with
 |nil=>exact absurd rfl h
 |cons=>rfl
section
variable {P:Program} {Y:Value→List I→List (Nat×ai)→cj→Prop} {K:ab→Prop} {A:ab} {rest:List ay} {d:Nat} {e esz bytes:Nat} {q:Nat}
theorem aY.uu(z:α){l:List α}(hs:Enc.sz α=esz)(hl:l≠[])(hf:A.o d=none)(hb:l.length*bytes≤140737488355328)(hml:l.length≤maxLen)
  (h:∀ m,aY P Y false K (ar rest ((A.aQ d (.box (.agg ((l++List.replicate m z).map enc)))).aP (some d) (.view d [] esz 0 l.length)))):aY P Y false K (eY A (some d) e esz bytes (enc z) (enc l) rest (.c0 q)):=by
 have hne:l.map (enc (α:=α))≠[]:=by simpa using hl
 have h1:cW A esz (.c0 q)=some []:=rfl;simp only[eY,h1,kT A esz l hs,ed,if_neg hne,fh,hf,zy9,Z5,Z2,if_pos (y6 hb hml),zz3];refine .any rfl fun m _ =>?_;have:=h m;simp only[zy7,List.map_replicate] at this;exact this
theorem GU(z:I)(hs:Enc.sz α=esz):eY A (some d) e esz bytes z (enc ([]:List α)) rest (.c0 q)=ar rest (A.aP (some d) (.c0 q)):=by
 have h1:cW A esz (.c0 q)=some []:=rfl;simp only[eY,h1,kT A esz ([]:List α) hs,ed,zz6,if_true]
theorem Xf(esz:Nat)(z:I)(x:az)(rest:List ay)(A:ab):bo A none (.jq esz z x) rest=od A esz z (ar rest) (af A x):=rfl
theorem E0{n:Nat}{p:List Nat}{sz k total i:Nat}(h:i≤total)(h0:0<total):iR n p sz 0 k total none (some (.int .i64 i)) none=some (.view n p sz 0 i):=by
 simp only[iR,hG];rw[if_pos ⟨by omega,by omega,by omega⟩,if_neg (by omega)];simp
theorem mA{n:Nat}{p:List Nat}{sz k total i:Nat}(h:i≤k)(hk:k≤total)(h0:i<total):iR n p sz 0 k total (some (.int .i64 i)) none none=some (.view n p sz i (k-i)):=by
 simp only[iR,hG];rw[if_pos ⟨by omega,by omega,by omega⟩,if_neg (by omega)];simp
theorem VU{m:Nat}{p:List Nat}{sz lo l j:Nat}{fs:List I}(h:j<l):mV m p sz lo l sz (j:Int) (some fs)=some (.ptr m (p++[lo+j])):=by
 simp only[mV,true_and];rw[if_pos ⟨by omega,by omega⟩];simp
theorem ox{sz k:Nat}{xs:List α}(hs:Enc.sz α=sz):jP sz 0 k (some (xs.map enc))=some (enc (xs.take k)):=by
 have h:((xs.map (enc (α:=α))).drop 0).take k=(xs.take k).map enc:=by rw[List.drop_zero,List.map_take]
 simp only[jP,h];rw[if_pos (pS _),iG,hs]
end
end
theorem vI(A:ab)(esz m:Nat)(p:List Nat)(sz lo l:Nat)(k:Int):jb A esz k (.view m p sz lo l)=mV m p sz lo l esz k (ev (dF p (A.o m))):=rfl
theorem ql(A:ab)(m:Nat)(p:List Nat)(sz lo l:Nat):jV A (.view m p sz lo l)=some (.int .i64 l):=rfl
theorem xj(A:ab)(esz:Nat)(lo hi mx:Option I)(n:Nat)(p:List Nat)(l0 k:Nat):jF A esz lo hi mx (.view n p esz l0 k)=lP n p esz l0 k esz lo hi mx (ev (dF p (A.o n))):=rfl
theorem xk(n:Nat)(p:List Nat)(sz l0 k:Nat)(lo hi mx:Option I)(fs:List I):lP n p sz l0 k sz lo hi mx (some fs)=iR n p sz l0 k fs.length lo hi mx:=by simp[lP]
theorem iB :
  (∀ A esz m p sz lo l k,jb A esz k (.view m p sz lo l)=mV m p sz lo l esz k (ev (dF p (A.o m))))∧(∀ A m p sz lo l,jV A (.view m p sz lo l)=some (.int .i64 l)) ∧
  (∀ A esz lo hi mx n p l0 k,jF A esz lo hi mx (.view n p esz l0 k)=lP n p esz l0 k esz lo hi mx (ev (dF p (A.o n))))∧(∀ n p sz l0 k lo hi mx fs,lP n p sz l0 k sz lo hi mx (some fs)=iR n p sz l0 k fs.length lo hi mx) ∧
  (∀ esz z x rest A,bo A none (.jq esz z x) rest=od A esz z (ar rest) (af A x))∧(∀ rest A d esz,bo A d (.bs0 esz) rest=ar rest (A.aP d (.c0 esz))) :=
 ⟨vI,ql,xj,xk,Xf,fun _ _ _ _=>rfl⟩
theorem j8(rs:List bz)(post:cj)(A:ab):ny rs post .ret A=iV rs post A:=rfl
theorem YO(rs:List bz)(post:cj)(A:ab):ny rs post .normal A=iV rs post A:=rfl
theorem bg.jQ{ts:List (Nat×I)}{os0:List (Nat×ai)}(ns:List Nat)(d:Nat){x y:I}(hd:bM ts d=x)(h:bd true (aq ts (kD ns os0)) x=some y)(ho:bE (fun n => !ns.contains n) (dD ns os0)) :
  bg (aq ts os0) (aq ((d,y)::ib ns ts) (dD ns os0)):=by
 rintro c a w ⟨D,E,hs⟩;obtain ⟨D1,E1,hs1,hw⟩:=hs.freeze ns ho;have hu:dy (aq ts (kD ns os0)) (aq ts os0):=fun n z hz=>by
  simp only[aq,qp] at hz ⊢;split at hz
  ·exact hz
  ·cases hz
 have hx:x.cC=true:=by cases x <;>first | rfl | simp[bd] at h
 have hv:=hs.dv d;simp only[aq] at hv;rw[hd] at hv;have h1:al w D E [x] [a.tmps.getD d undef]:=kS [x] _ (.cons hv .nil) (by intro z hz;simp only[zy6] at hz;subst hz;exact hx);have h2:=ly (E':=E1) hs hu hw [x] [y] _ h1 (by simp only[bJ,h]);have h3:aR w D1 E1 y (a.tmps.getD d undef):=by
  simp only[al] at h2;obtain ⟨v',rest,cs,e,k1,k2,_⟩:=h2;simp only[zy1] at e;obtain ⟨e1,_⟩:=e;rw[e1];exact fK k1 k2
 refine ⟨D1,E1,hs1.sz,hs1.dT,fun t =>?_,hs1.db,hs1.cH,hs1.cN,hs1.bB,hs1.cw,hs1.dp,hs1.ee,hs1.cz,hs1.eF,hs1.fe⟩;simp only[aq,bM];split
 ·rename_i ht;subst ht;exact h3
 ·exact hs1.dv t
theorem bg.mT{ts ts':List (Nat×I)}{os0 os':List (Nat×ai)}(ns:List Nat)(d:Nat){x y:I}(hd:bM ts d=x)(h:bd true (aq ts (kD ns os0)) x=some y)(ho:bE (fun n => !ns.contains n) (dD ns os0))
  (h1:bK ((d,y)::ib ns ts) ts') (h2:bO (dD ns os0) os') (h3:bG (ao os') ts') (h4:bE (ao os') os'):bg (aq ts os0) (aq ts' os') :=
 (bg.jQ ns d hd h ho).trans (bg.bZ h1 h2 h3 h4)
theorem U.ZI{c:ct}{Q:Exit→ab→Prop}{A:ab}{x:bj}(T:ab)(h1:U c x (cQ (fun B=>bg B T) fun _ _=>False) A)(h2:∀ B,bg B T→Q .normal B):U c x Q A :=
 h1.mono fun e B hq=>by
  cases e <;>simp only[cQ] at hq <;>first
   |exact h2 B hq
   |exact hq.elim
theorem D7{w:World}{D:aK}{E:aN}{p:List Nat}{c x y:I}{cs:List Value}(hr:ae w D E c cs)(h:c.at p=some x)(hxy:∀ ds,ae w D E x ds→ae w D E y ds)(hs:y.aL=x.aL):ae w D E (c.du p y) cs∧(c.du p y).aL=c.aL:=by
 obtain ⟨off,c1,c2,c3,h1,rfl,h2,h3⟩:=wN p c x cs hr h;obtain ⟨off',k1,k2,k3,k4⟩:=th p c x y _ c2 hr h (hxy c2 h3) hs;rw[h1,v6] at k1;subst k1;refine ⟨?_,k4⟩;have e:(c1++c2++c3).take off++c2++(c1++c2++c3).drop (off+c2.length)=c1++c2++c3:=by
  rw[Z9 c1 c2 c3,←h2,List.take_left,List.drop_length_add_append,List.drop_left,Z9]
 rw[←e];exact k3
theorem bg.GA{A:ab}{m n T sz z:Nat}{p:List Nat}{b:I}(hm:A.o m=some (.box b))(hp:b.at p=some (.nils z))(hn:A.o n=none)(hlt:n<1000000):bg A ((A.aQ n (.bH T sz [])).aQ m (.box (b.du p (.own n 0)))):=by
 rintro c a w ⟨D,E,h⟩;have ak:E n=none:=by have:=h.bB n;rw[hn] at this;exact this
 have hmn:m≠n:=fun e=>by rw[e,hn] at hm;cases hm
 have hl:dj w D E w D (fun m=>if m=n then some (.rw none 0) else E m):=by
  have eD:∀ {m:Nat} {e:bx},E m=some e→(if m=n then some (.rw none 0) else E m)=some e:=fun {m e} he=>by
   have:m≠n:=fun e=>by rw[e,ak] at he;cases he
   rw[if_neg this];exact he
  refine ⟨fun _ _ h=>h,fun _ _ _ _ h=>h,fun m b aL he=>eD he,fun m aB l he =>?_,fun m b he=>eD he,fun m b he=>eD he,fun _ _ _ _ h=>h⟩
  ·have:m≠n:=fun e=>by rw[e,ak] at he;cases he
   exact ⟨aB,l,by simp only[if_neg this];exact he,Z4 _,fun _=>rfl⟩
 refine ⟨D,fun m=>if m=n then some (.rw none 0) else E m,h.sz,h.dT,fun t=>aR.later hl (h.dv t),h.db,h.cH,h.cN,fun k =>?_,fun m m' e e' b h1 h2 h3 h4 =>?_,fun m e hm =>?_,h.ee,h.cz,h.eF,h.fe⟩
 ·simp only[ab.aQ];by_cases hk:k=m
  ·subst hk;have ho:=h.bB k;rw[hm] at ho;obtain ⟨b',cs,T',h1,h2,h3,h4,h5⟩:=ho;obtain ⟨q1,q2⟩:=D7 (y:=.own n 0) (ae.later hl _ _ h4) hp (fun ds hd=>by
    simp only[ae] at hd;subst hd;simp only[ae,if_true];exact ⟨none,0,rfl,Z4 _,⟨_,_,_,rfl⟩,fun _=>trivial⟩) rfl
   simp only[if_true,cJ];exact ⟨b',cs,T',by rw[q2];simp only[if_neg hmn];exact h1,h2,h3.aL q2,q1,h5⟩
  ·simp only[if_neg hk];by_cases hkn:k=n
   ·subst hkn;simp only[if_true,cJ];exact ⟨none,by simp,by simp,trivial⟩
   ·simp only[if_neg hkn];exact (h.bB k).later hl (by simp only[if_neg hkn]) fun _ _ _ _=>⟨rfl,fun _ ho=>ho⟩
 ·by_cases hm:m=n <;>by_cases hm':m'=n
  ·rw[hm,hm']
  ·simp only[if_pos hm,v6] at h1;subst h1;simp[bx.aB] at h3
  ·simp only[if_pos hm',v6] at h2;subst h2;simp[bx.aB] at h4
  ·simp only[if_neg hm] at h1;simp only[if_neg hm'] at h2;exact h.cw m m' e e' b h1 h2 h3 h4
 ·have hmn:m≠n:=fun e=>by rw[e,h.jt (.inr hlt)] at hm;cases hm
  simp only[if_neg hmn];exact h.dp m e hm
theorem bg.GB{ts:List (Nat×I)}{os:List (Nat×ai)}(m n T sz z:Nat)(p:List Nat)(b:I)(hm:aA os m=some (.box b))(hp:b.at p=some (.nils z))(hn:aA os n=none){B:ab}(h:bg (aq ts ((m,.box (b.du p (.own n 0)))::(n,.bH T sz [])::os)) B)(hlt:n<1000000:=by decide):bg (aq ts os) B :=
 ((bg.GA (A:=aq ts os) (T:=T) (sz:=sz) hm hp hn hlt).trans (by rw[sJ,sJ];exact bg.refl _)).trans h
mutual
theorem jA{p q:Nat→Bool}(h:∀ n,p n=true→q n=true):∀ x:I,x.only p=true→x.only q=true
 | .agg fs,hx | .tuple fs,hx=>by simp only[I.only] at *;exact j5 h fs hx
 | .slice _ es,hx=>by simp only[I.only] at *;exact j5 h es hx
 | .ref x,hx=>by simp only[I.only] at *;exact jA h x hx
 | .func _ caps,hx=>by simp only[I.only] at *;exact j5 h caps hx
 | .iface _ v,hx=>by simp only[I.only] at *;exact jA h v hx
 | .ptr _ _,hx | .own _ _,hx | .view _ _ _ _ _,hx | .mref _,hx | .cX _,hx=>by simp only[I.only] at *;exact h _ hx
 | .c6 ks vs,hx=>by simp only[I.only,Z0] at *;exact ⟨j5 h ks hx.1,j5 h vs hx.2⟩
 | .bool _,_ | .int _ _,_ | .aj _,_ | .nilp,_ | .de,_ | .cS,_ | .any,_ | .raw _,_ | .nils _,_ | .c0 _,_ | .undef,_ | .cY,_=>by simp[I.only]
theorem j5{p q:Nat→Bool}(h:∀ n,p n=true→q n=true):∀ xs:List I,I.bV p xs=true→I.bV q xs=true
 | [],_=>rfl
 |x::xs,hx=>by
  simp only[I.bV,Z0] at *;exact ⟨jA h x hx.1,j5 h xs hx.2⟩
end
theorem ai.jA{p q:Nat→Bool}(h:∀ n,p n=true→q n=true)(x:ai)(hx:x.only p=true):x.only q=true:=by
 cases x with
 |box y=>simp only[ai.only] at *;exact Abs.jA h y hx
 |bH T sz es=>simp only[ai.only] at *;exact j5 h es hx
 |da o=>rfl
 |dK T xs=>rfl
 |cm ks vs=>simp only[ai.only,Z0] at *;exact ⟨j5 h ks hx.1,j5 h vs hx.2⟩
 |it ks vs left cur=>simp only[ai.only,Z0] at *;exact ⟨j5 h ks hx.1,j5 h vs hx.2⟩
theorem VW{x:I}(h:x.bC=true):x.cC=true:=by
 cases x <;>first | rfl | simp[I.bC] at h
theorem yx{aI:Bool}{A0:ab}{ρ:List (Nat×Nat)}{os:List (Nat×ai)} : ∀ xs:List I,I.cu xs=true→gl aI A0 ρ os xs xs
 | [],_=>trivial
 |x::xs,h=>by
  simp only[I.cu,Z0] at h;exact ⟨.inl ⟨(qL _ x h.1).symm,mq _ x h.1,VW h.1⟩,yx xs h.2⟩
structure fH (os os':List (Nat×ai)):Prop where
 same:∀ m,ao os' m=ao os m
 ok:∀ m x,aA os' m=some x→x.only (ao os')=true∧x.er=true
 me:∀ m,ao os m=true→1000000≤m
def bU(o:Obj)(os:List (Nat×ai)):List (Nat×ai):=(1999999,.da o)::os
theorem jU(o:Obj)(os:List (Nat×ai))(m:Nat):ao (bU o os) m=(decide (m=1999999)||ao os m):=by
 simp only[bU,ao,aA];by_cases h:m=1999999 <;>simp[h]
theorem oM(o:Obj)(os:List (Nat×ai))(m:Nat):aA (bU o os) m=if m=1999999 then some (.da o) else aA os m:=rfl
theorem fH.bU{os os':List (Nat×ai)}(h:fH os os')(o o':Obj):fH (bU o os) (bU o' os'):=by
 refine ⟨fun m=>by rw[jU,jU,h.same],fun m x hx =>?_,fun m hm =>?_⟩
 ·rw[oM] at hx;split at hx
  ·cases hx;exact ⟨rfl,rfl⟩
  ·obtain ⟨h1,h2⟩:=h.ok m x hx;exact ⟨x.jA (fun n hn=>by rw[jU,hn];simp) h1,h2⟩
 ·rw[jU] at hm;simp only[Bool.or_eq_true,decide_eq_true_eq] at hm;rcases hm with rfl | hm
  ·decide
  ·exact h.me m hm
def td:List Nat→List I→List (Nat×I)→List (Nat×I)
 |p::ps,v::vs,ts=>td ps vs ((p,v)::ts)
 |_,_,ts=>ts
def mB(ρ:List (Nat×Nat))(p:Nat→Bool)(ts:List (Nat×I)):List (Nat×I)→Prop
 | []=>True
 |(k,v)::r=>bM ts k=v.aO (bh ρ)∧v.only p=true∧mB ρ p ts r
theorem E6{ρ:List (Nat×Nat)}{p:Nat→Bool}{ts:List (Nat×I)} : ∀ {tsR:List (Nat×I)},mB ρ p ts tsR→∀ k,bM tsR k=.cY∨(bM ts k=(bM tsR k).aO (bh ρ)∧(bM tsR k).only p=true)
 | [],_,k=>.inl rfl
 |(j,v)::r,h,k=>by
  simp only[mB] at h;simp only[bM];split
  ·rename_i hk;subst hk;exact .inr ⟨h.1,h.2.1⟩
  ·exact E6 h.2.2 k
section
variable {c:ct} {a:Act} {w:World} {D:aK} {E:aN}
theorem aM.xf{A:ab}(h:aM c A a w D E){n b:Nat}{o o':Obj}(hn:A.o n=some (.da o))(ak:E n=some (.op b))(ho:oG o'=true):aM c (A.aQ n (.da o')) a (w.putObj b o') D E:=by
 have hob:=h.bB n;rw[hn] at hob;obtain ⟨b',k1,k2,k3,k4,k5⟩:=hob;rw[ak] at k1;cases k1;have hnc:o.isCells=false:=by cases o <;>first | rfl | cases k4
 have hlt:b<w.heap.size:=eR k3;have hl:dj w D E (w.putObj b o') D E:=⟨fun _ _ h=>h,fun b1 o1 v _ hv=>uO k3 hnc hv,fun _ _ _ h=>h,fun _ aB l h=>⟨aB,l,h,Z4 _,fun _=>rfl⟩,fun _ _ h=>h,fun _ _ h=>h,fun b1 es ck hd hm=>(World.putObj_heap_other (fun e1=>k5 0 (by rw[←e1];exact hd))).trans hm⟩
 refine ⟨h.sz,h.dT.mono fun B _ hB=>(World.putObj_heap_other (fun e=>by rw[e,k3] at hB;cases hB;cases k4)).trans hB,fun t=>aR.later hl (h.dv t),h.db.trans ⟨rfl,rfl,rfl,by simp,fun k hk=>World.putObj_heap_other (fun e=>hk (e▸k2))⟩,h.cH,
  fun b1 o1 hd=>by have:=h.cN b1 o1 hd;simpa using this,fun m =>?_,h.cw,h.dp,h.ee,h.cz,h.eF,h.kd hl⟩
 simp only[ab.aQ];by_cases hm:m=n
 ·subst hm;simp only[if_true,cJ];exact ⟨b,ak,k2,World.putObj_heap_same hlt,ho,k5⟩
 ·simp only[if_neg hm];exact (h.bB m).later hl rfl fun e b1 he hb=>⟨World.putObj_heap_other (fun e1=>hm (h.cw m n e _ b1 he ak hb (by rw[e1];rfl))),fun _ ho=>ho⟩
theorem aM.Md{A:ab}(h:aM c A a w D E){n b:Nat}(ak:E n=some (.op b)):aM c ⟨A.t,fun m=>if m=n then none else A.o m⟩ a w D (fun m=>if m=n then none else E m):=by
 have hne:∀ {m:Nat} {e:bx},E m=some e→(∀ b,e≠.op b)→m≠n:=fun he h2 e'=>by
  subst e';rw[ak] at he;cases he;exact h2 _ rfl
 have hl:dj w D E w D (fun m=>if m=n then none else E m):=by
  refine ⟨fun _ _ h=>h,fun _ _ _ _ h=>h,fun m b aL he =>?_,fun m aB l he=>⟨aB,l,?_,Z4 _,fun _=>rfl⟩,fun m b he =>?_,fun m b he =>?_,fun _ _ _ _ h=>h⟩
  ·simp only[if_neg (hne he (fun b=>by simp))];exact he
  ·simp only[if_neg (hne he (fun b=>by simp))];exact he
  ·simp only[if_neg (hne he (fun b=>by simp))];exact he
  ·simp only[if_neg (hne he (fun b=>by simp))];exact he
 refine ⟨h.sz,h.dT,fun t=>aR.later hl (h.dv t),h.db,h.cH,h.cN,fun m =>?_,fun m m' e e' b h1 h2 h3 h4 =>?_,fun m e hm =>?_,h.ee,h.cz,h.eF,h.fe⟩
 ·by_cases hm:m=n
  ·simp only[hm,if_true,cJ]
  ·simp only[if_neg hm];exact (h.bB m).later hl (by simp only[if_neg hm]) fun _ _ _ _=>⟨rfl,fun _ ho=>ho⟩
 ·split at h1
  ·cases h1
  ·split at h2
   ·cases h2
   ·exact h.cw m m' e e' b h1 h2 h3 h4
 ·by_cases hmn:m=n
  ·left;simp only[hmn,if_true]
  ·simp only[if_neg hmn];exact h.dp m e hm
theorem aM.enter{ts:List (Nat×I)}{os0:List (Nat×ai)}(h:aM c (aq ts os0) a w D E)(hbase:c.dN=none)(hfree:aA os0 999999=none)(hE0:c.cB 999999=none){o:Obj}(ho:oG o=true) :
  ∃ E1,aM c (aq ts ((999999,.da o)::os0)) { a with defers := { target:=.collected w.heap.size,args := #[] } :: a.defers } ((w.alloc (.deferred (some []))).alloc o) D E1∧E1 999999=some (.op (w.heap.size+1))∧∀ xs vs,al w D E xs vs→al ((w.alloc (.deferred (some []))).alloc o) D E1 xs vs:=by
 have hb:Below w.heap.size w ((w.alloc (.deferred (some []))).alloc o):=((Below.refl _ w).alloc (Z4 _) _).alloc (by simp) _;have h1:=h.grow (D':=D) hb (fun _ _ h=>h) (fun _ _ h _=>h) (fun b o' hd=>by have:=h.cN b o' hd;simp;omega);obtain ⟨W,hW⟩:∃ W,W=(w.alloc (.deferred (some []))).alloc o:=⟨_,rfl⟩
 have hL:W.heap[w.heap.size+1]?=some o:=by
  rw[hW];have:=World.alloc_heap_new (w.alloc (.deferred (some []))) o;rwa [World.size_alloc] at this
 have hK:W.heap[w.heap.size]?=some (.deferred (some [])):=by
  rw[hW];exact (Below.heap_alloc _ _ _ (by simp)).trans (World.alloc_heap_new w _)
 rw[←hW] at h1 hb ⊢;have hEn:E 999999=none:=by have:=h.bB 999999;simp only[aq,hfree] at this;exact this
 have hl:dj W D E W D (fun m=>if m=999999 then some (.op (w.heap.size+1)) else E m):=by
  refine ⟨fun _ _ h=>h,fun _ _ _ _ h=>h,fun m b aL he =>?_,fun m aB l he=>⟨aB,l,?_,Z4 _,fun _=>rfl⟩,fun m b he =>?_,fun m b he =>?_,fun _ _ _ _ h=>h⟩
  all_goals
   have:m≠999999:=fun e=>by rw[e,hEn] at he;cases he
   simp only[if_neg this];exact he
 have hsz:c.cT.heap.size≤w.heap.size:=h.db.size;have nb:∀ {m:Nat} {e:bx} {b:Nat},E m=some e→e.aB=some b→b<w.heap.size:=fun he hb'=>h.fy he hb';refine ⟨fun m=>if m=999999 then some (.op (w.heap.size+1)) else E m,⟨h1.sz,?_,fun t=>aR.later hl (h1.dv t),h1.db,h1.cH,h1.cN,fun m =>?_,fun m m' e e' b g1 g2 g3 g4 =>?_,fun m e hm =>?_,h1.ee,h1.cz,h1.eF,h1.fe⟩,by simp,fun xs vs hx=>al.later hl xs vs (al.later (dj.grow hb fun _ _ h=>h) xs vs hx)⟩
 ·have hdf:=h1.dT;rw[hbase] at hdf ⊢;obtain ⟨Bs,k1,k2,k3⟩:=hdf;refine ⟨w.heap.size::Bs,by simp only[Z3];rw[←k1],List.nodup_cons.2 ⟨fun hin =>?_,k2⟩,fun B hB =>?_⟩
  ·have hdf':=h.dT;rw[hbase] at hdf';obtain ⟨Bs',j1,_,j3⟩:=hdf';have e1:Bs=Bs':=by
    have:Bs.map (fun B=>({ target:=.collected B,args := #[] } : Deferred))=Bs'.map (fun B => { target:=.collected B,args := #[] }):=by rw[←k1,←j1]
    exact (List.map_inj_right (fun x y hxy=>by simpa using hxy)).1 this
   rw[e1] at hin;have:=eR (j3 _ hin).2;omega
  ·rcases zy8.1 hB with rfl | hB
   ·exact ⟨hsz,hK⟩
   ·exact k3 B hB
 ·simp only[aq,aA];by_cases hm:m=999999
  ·subst hm;simp only[if_true,cJ];exact ⟨_,rfl,.inl (by omega),hL,ho,fun o' hd=>by have:=h.cN _ o' hd;omega⟩
  ·simp only[if_neg hm];exact (h1.bB m).later hl (by simp only[if_neg hm]) fun _ _ _ _=>⟨rfl,fun _ ho=>ho⟩
 ·by_cases hm:m=999999 <;>by_cases hm':m'=999999
  ·rw[hm,hm']
  ·simp only[if_pos hm,v6] at g1;simp only[if_neg hm'] at g2;subst g1;simp only[bx.aB,v6] at g3;have:=nb g2 g4;omega
  ·simp only[if_neg hm] at g1;simp only[if_pos hm',v6] at g2;subst g2;simp only[bx.aB,v6] at g4;have:=nb g1 g3;omega
  ·simp only[if_neg hm] at g1;simp only[if_neg hm'] at g2;exact h.cw m m' e e' b g1 g2 g3 g4
 ·have hmn:m≠999999:=fun e=>by rw[e,hE0] at hm;cases hm
  simp only[if_neg hmn];exact h.dp m e hm
theorem cJ.jx{M M':Nat→Prop}{n:Nat}{x:Option ai}(h:cJ M w D E n x)(hM:∀ e b,E n=some e→e.aB=some b→M' b):cJ M' w D E n x:=by
 unfold cJ at *;split
 ·exact h
 ·obtain ⟨b,cs,T,h1,_,h3⟩:=h;exact ⟨b,cs,T,h1,hM _ b h1 rfl,h3⟩
 ·obtain ⟨aB,h1,h2,h3⟩:=h;refine ⟨aB,h1,h2,?_⟩;split
  ·exact h3
  ·obtain ⟨cs,pre,rest,_,h4⟩:=h3;exact ⟨cs,pre,rest,hM _ _ h1 rfl,h4⟩
 ·obtain ⟨b,h1,_,h3⟩:=h;exact ⟨b,h1,hM _ b h1 rfl,h3⟩
 ·obtain ⟨b,es,ck,h1,_,h3⟩:=h;exact ⟨b,es,ck,h1,hM _ b h1 rfl,h3⟩
 ·obtain ⟨r,b,es,ck,dJ,se,la,h1,_,h3⟩:=h;exact ⟨r,b,es,ck,dJ,se,la,h1,hM _ r h1 rfl,h3⟩
 ·obtain ⟨aB,h1,h2,h3⟩:=h;refine ⟨aB,h1,h2,?_⟩;split
  ·exact h3
  ·obtain ⟨cs,m,_,h4⟩:=h3;exact ⟨cs,m,hM _ _ h1 rfl,h4⟩
theorem aM.CW{os:List (Nat×ai)} : ∀ (ps:List Nat) (vs:List Value) (xs:List I) (ts:List (Nat×I)) (a:Act),aM c (aq ts os) a w D E→(∀ p∈ps,p<c.n)→al w D E xs vs→ps.length=vs.length →
  aM c (aq (td ps xs ts) os) { a with tmps:=(ps.zip vs).foldl (fun t q=>t.setIfInBounds q.1 q.2) a.tmps } w D E
 | [],[],xs,ts,a,h,_,hv,_=>by
  cases xs with
  |nil=>exact h
  |cons x xs=>simp[al] at hv
 | [],_::_,_,_,_,_,_,_,hl=>by simp at hl
 |_::_,[],_,_,_,_,_,_,hl=>by simp at hl
 |p::ps,v::vs,xs,ts,a,h,hp,hv,hl=>by
  cases xs with
  |nil=>simp[al] at hv
  |cons x xs =>
   simp only[al] at hv;obtain ⟨v',rest,cs,e,h1,h2,h3⟩:=hv;simp only[zy1] at e;obtain ⟨rfl,rfl⟩:=e;have h4:=h.put (hp p (by simp)) (fK h1 h2);rw[v8] at h4;have:=aM.CW ps vs xs ((p,x)::ts) (a.put (some p) v) h4 (fun q hq=>hp q (by simp[hq])) h3 (by simpa using hl);exact this
end
end Go.Abs
namespace Go.Abs
open Go Go.RowKit
def iz:bw→Bool
 | .mv _ | .pick .. | .bin .. | .eqv .. | .conv .. | .un .. | .fl .. | .ix .. | .lenT _ | .bld .. | .ext .. | .mk .. | .nilC _ | .ptrE .. | .max2 .. | .prim .. =>true
 | .ld .. | .fa .. | .ia .. | .is .. | .len _ | .va .. | .bs .. | .sl .. | .cap _ | .bs0 _ | .lk .. | .b2s _=>true
 |_=>false
def sZ:bw→Bool
 | .alloc _ | .box _ | .aT .. | .call .. | .fA .. | .dM .. | .eM _=>true
 |op=>iz op
def oL(hs:List FuncId):bw→Bool
 | .alloc _ | .box _ | .eM _=>true
 | .call f _ => !hs.contains f
 |op=>iz op
abbrev ec:=List (Nat×List Nat)
def gV(au:ec)(s:Nat):Option (List Nat):=(au.find? fun q=>q.1==s).map (·.2)
def dL(au:ec)(A:ab):Prop:=∀ s ns,gV au s=some ns→(A.t s).only (fun n=>ns.contains n)=true
def oI(au:ec):az→Option (List Nat)
 | .t s=>gV au s
 | .c x=>if x.bC then some [] else none
def qY(a:Option (List Nat))(ns:List Nat):Bool:=match a with
 |some ms=>ms.all fun m=>ns.contains m
 |none=>false
def im(au:ec)(g:ay):Bool:=match g.dst with
 |none=>true
 |some d=>match gV au d with
  |none=>true
  |some ns=>match g.op with
   | .mv x | .nilC x | .fa _ _ x | .ia _ _ x _=>qY (oI au x) ns
   | .bin .. | .len _ | .bs .. | .bs0 _ | .conv .. | .lenT _ | .prim .. | .b2s _=>true
   | .box _ | .alloc _ | .eM _=>ns.contains d
   | .is _ x _ | .ld _ x=>qY (oI au x) []
   |_=>false
def mi:bw→Option (List Nat)
 | .ld _ (.t x) | .fa _ _ (.t x) | .ia _ _ (.t x) _ | .is _ (.t x) _ | .len (.t x) | .va _ _ (.t x) | .sl _ (.t x) _ _ _ | .cap (.t x) | .lk _ _ _ (.t x) _ | .b2s (.t x)=>some [x]
 | .bs _ _ ps=>if (ps.all fun x=>match x with | .t _=>true | .c _=>false)=true then some (iS ps) else none
 | .bs0 _=>some []
 |op=>if op.fY=0∧iz op=true then some [] else none
def rF(au:ec)(g:ay)(p:Nat→Bool):Bool:=match mi g.op with
 |some xs=>xs.all fun s=>match gV au s with | some ns=>ns.all p | none=>false
 |none=>false
def nm(hs:List FuncId)(au:ec)(g h:ay):Bool:=oL hs h.op||match h.op with
 | .aT _ (.t y) _=>match mi g.op with
  |some []=>true
  |_=>match gV au y with
   |some ms=>rF au g fun n => !ms.contains n
   |none=>false
 | .aT .. =>match mi g.op with
  |some []=>true
  |_=>false
 | .dM _ _ _ _ s _=>rF au g (fun _=>false)||qY (oI au s) []
 |_=>false
def mU(hs:List FuncId)(au:ec)(g h:ay):Bool:=iz g.op&&(nm hs au g h&&((match g.dst with
  |some d => !h.cv.contains d&&h.dst != some d
  |none=>true)&&(match h.dst with
  |some d => !g.cv.contains d
  |none=>true)))
theorem vz{op:bw}(h:iz op=true)(A:ab)(dst:Option Nat)(rest:List ay)(k:ab→cg):aW A dst op rest k=cq (aV A op) fun v=>k (A.aP dst v):=by
 cases op <;>first | rfl | cases h
inductive bQ (P:Program) (Y:Value→List I→List (Nat×ai)→cj→Prop) (hs:List FuncId) (K:ab→Prop):cg→Prop where
 |done {A:ab} : K A→bQ P Y hs K (.done A)
 |flat {f:FuncId} {avs cargs:List I} {a2:Option (List I)} {dst:Option Nat} {rest:List ay} {A:ab} (r:I):aS P f cargs r→r.flat=true→bQ P Y hs K (ar rest (A.aP dst r))→bQ P Y hs K (.call f avs (some cargs) a2 dst rest A)
 |lead {f:FuncId} {avs cargs:List I} {a1:Option (List I)} {dst:Option Nat} {rest:List ay} {A:ab} (r:I):aS P f cargs r→bQ P Y hs K (ar rest (A.aP dst r))→bQ P Y hs K (.call f avs a1 (some cargs) dst rest A)
 |bB {f:FuncId} {avs:List I} {a1 a2:Option (List I)} {dst:Option Nat} {rest:List ay} {ts:List (Nat×I)} {os0:List (Nat×ai)} (ρ:List (Nat×Nat)) (cargs:List I) (post:cj):eW P f cargs [] post →
   eP ρ [] os0→gl false (aq ts os0) ρ [] avs cargs→(∀ r os',post r os'→dh false ρ [] os0 r os') →
   (∀ r os',post r os'→bQ P Y hs K (ar rest ((aq ts (cO ρ os'++os0)).aP dst (r.aO (bh ρ)))))→bQ P Y hs K (.call f avs a1 a2 dst rest (aq ts os0))
 |any {p:Nat→Prop} {k:Nat→cg} : (∀ m,p m→bQ P Y hs K (k m))→bQ P Y hs K (.any p k)
 |wi {f:FuncId} {avs:List I} {a1 a2:Option (List I)} {dst:Option Nat} {rest:List ay} {ts:List (Nat×I)} {os0:List (Nat×ai)} (aI:Bool) (ρ:List (Nat×Nat)) (os:List (Nat×ai)) (cargs:List I) (post:cj):hs.contains f=true→eW P f cargs os post →
   eP ρ os os0→gl aI (aq ts (dD (iI ρ os) os0)) ρ os avs cargs→(∀ r os',post r os'→dh aI ρ os os0 r os') →
   (∀ r os',post r os'→bQ P Y hs K (ar rest ((aq ts (cO ρ os'++os0)).aP dst (r.aO (bh ρ)))))→bQ P Y hs K (.call f avs a1 a2 dst rest (aq ts os0))
 |ZO {v:Value} {avs:List I} {dst:Option Nat} {rest:List ay} {ts:List (Nat×I)} {os0:List (Nat×ai)} (os:List (Nat×ai)) (cargs:List I) (post:cj):Y v cargs os post →
   eP [] os os0→gl false (aq ts (dD (iI [] os) os0)) [] os avs cargs→(∀ r os',post r os'→dh false [] os os0 r os') →
   (∀ r os',post r os'→bQ P Y hs K (ar rest ((aq ts (cO [] os'++os0)).aP dst (r.aO (bh [])))))→bQ P Y hs K (.lu v avs dst rest (aq ts os0))
theorem Mc(os:List (Nat×ai)):dD [] os=os:=by simp[dD]
section
variable {P:Program} {hs:List FuncId} {K:ab→Prop} {Y:Value→List I→List (Nat×ai)→cj→Prop}
theorem bQ.rD{p:Nat→Prop}{k:Nat→cg}(h:bQ P Y hs K (.any p k)):∀ m,p m→bQ P Y hs K (k m):=by cases h;assumption
theorem dL.put{au:ec}{A B:ab}(h:dL au A)(ht:∀ k,B.t k=A.t k){dst:Option Nat}{v:I}(hv:∀ d,dst=some d→∀ ns,gV au d=some ns→v.only (fun n=>ns.contains n)=true):dL au (B.aP dst v):=by
 intro s ns hs';cases dst with
 |none=>exact (ht s).symm▸h s ns hs'
 |some d =>
  simp only[ab.aP,ab.put];by_cases hd:s=d
  ·rw[if_pos hd];exact hv d rfl ns (hd▸hs')
  ·rw[if_neg hd,ht];exact h s ns hs'
theorem nP{au:ec}{A:ab}(h:dL au A){x:az}{ns:List Nat}(hx:qY (oI au x) ns=true):(af A x).only (fun n=>ns.contains n)=true:=by
 cases x with
 |c x =>
  simp only[oI] at hx;split at hx
  ·rename_i hc;exact mq _ x hc
  ·cases hx
 |t s =>
  simp only[oI] at hx;cases hl:gV au s with
  |none=>rw[hl] at hx;cases hx
  |some ms =>
   rw[hl] at hx;simp only[qY,zy5] at hx;exact jA (fun n hn=>hx n (by simpa using hn)) _ (h s ms hl)
theorem Hl{op:BinOp}{x y v:I}(p:Nat→Bool)(h:bL op x y=some v):v.only p=true:=by
 unfold bL at h
 (repeat' split at h) <;>first | (cases h;done) | (simp only[v6] at h;subst h;rfl)
theorem Ya{q:uh}{xs:List I}{v:I}(p:Nat→Bool)(h:ez q xs=some v):v.only p=true:=by
 unfold ez at h
 (repeat' split at h) <;>first | (cases h;done) | (rename_i hc;simp only[v6] at h;subst h;simp only[I.only];exact mq _ _ hc.1) | (simp only[v6] at h;subst h;rfl) | (simp only[t7] at h;obtain ⟨_,_,rfl⟩:=h;rfl)
theorem G3{x:Option (List I)}{v:I}(p:Nat→Bool)(h:lj x=some v):v.only p=true:=by
 unfold lj at h;split at h
 ·simp only[t7] at h;obtain ⟨_,_,rfl⟩:=h;rfl
 ·cases h
theorem s7{p:Nat→Bool} : ∀ {xs:List I} {i:Nat} {x:I},I.bV p xs=true→xs[i]?=some x→x.only p=true
 | [],_,_,_,h=>by simp at h
 |a::xs,0,x,h,e=>by
  simp only[I.bV,Z0] at h;simp only[List.getElem?_cons_zero,v6] at e;exact e▸h.1
 |a::xs,i+1,x,h,e=>by
  simp only[I.bV,Z0] at h;exact s7 (xs:=xs) h.2 (by simpa using e)
theorem Cz{au:ec}{A:ab}{g:ay}(h:dL au A)(hg:im au g=true){v:I}(hv:aV A g.op=some v):∀ d,g.dst=some d→∀ ns,gV au d=some ns→v.only (fun n=>ns.contains n)=true:=by
 intro d hd ns hn;obtain ⟨dst,op,gd⟩:=g;simp only at hd hv;subst hd;simp only[im,hn] at hg;cases op <;>simp only at hg <;>(try (cases hg;done)) <;>simp only[aV] at hv <;>(try (cases hv;done))
 case mv x=>simp only[v6] at hv;exact hv▸nP h hg
 case nilC x =>
  have:=nP h hg;generalize af A x=u at hv this;cases u <;>simp only[na] at hv <;>first | (cases hv;done) | (simp only[v6] at hv;exact hv▸this)
 case bin op x y=>exact Hl _ hv
 case conv k x=>split at hv <;>first | (cases hv;done) | (simp only[v6] at hv;subst hv;rfl)
 case prim p xs=>exact Ya _ hv
 case is esz x i =>
  have hx:=nP h hg;split at hv
  case h_2=>cases hv
  split at hv
  ·rename_i sz es he;rw[he] at hx;simp only[I.only] at hx;split at hv
   ·simp only[t7] at hv;obtain ⟨u,hu,rfl⟩:=hv;simp only[I.only];exact jA (fun n hn=>by simp at hn) _ (s7 hx hu)
   ·cases hv
  ·rename_i m l he;rw[he] at hx;simp[I.only] at hx
  ·rename_i m p sz lo l he;rw[he] at hx;simp[I.only] at hx
  ·cases hv
 case ld s x =>
  have hx:=nP h hg;split at hv
  case h_2=>cases hv
  rename_i u hu;split at hv
  case isFalse=>cases hv
  simp only[v6] at hv;subst hv;generalize af A x=z at hx hu;cases z <;>simp only[bW] at hu <;>try (cases hu;done)
  ·simp only[v6] at hu;subst hu;simp only[I.only] at hx;exact jA (fun n hn=>by simp at hn) _ hx
  ·simp[I.only] at hx
 case b2s x=>exact G3 _ hv
 case lenT x=>split at hv <;>first | (cases hv;done) | (simp only[v6] at hv;subst hv;rfl)
 case len x=>(repeat' split at hv) <;>first | (cases hv;done) | (simp only[v6] at hv;subst hv;rfl)
 case bs0 e=>simp only[v6] at hv;subst hv;rfl
 case bs e ps =>
  split at hv
  ·split at hv
   ·rename_i hc;simp only[v6] at hv;subst hv;simp only[I.only];exact nk _ _ hc.2
   ·cases hv
  ·cases hv
 case fa f off x =>
  have hx:=nP h hg;split at hv
  ·rename_i fs he;rw[he] at hx;simp only[I.only] at hx;split at hv
   ·rename_i u hu;split at hv
    ·simp only[v6] at hv;subst hv;simp only[I.only];exact s7 hx hu
    ·cases hv
   ·cases hv
  ·rename_i n q he;rw[he] at hx;simp only[I.only] at hx;split at hv
   ·split at hv
    ·simp only[v6] at hv;subst hv;simpa only[I.only] using hx
    ·cases hv
   ·cases hv
  ·cases hv
 case ia n esz x i =>
  have hx:=nP h hg;split at hv
  case h_2=>cases hv
  split at hv
  case isFalse=>cases hv
  split at hv
  ·rename_i fs he;rw[he] at hx;simp only[I.only] at hx;split at hv
   ·simp only[t7] at hv;obtain ⟨u,hu,rfl⟩:=hv;simp only[I.only];exact s7 hx hu
   ·cases hv
  ·rename_i m q he;rw[he] at hx;simp only[I.only] at hx;split at hv
   ·split at hv
    ·simp only[v6] at hv;subst hv;simpa only[I.only] using hx
    ·cases hv
   ·cases hv
  ·cases hv
def rr(A:ab)(dst:Option Nat)(s:I)(B:ab):Prop:=(∀ t,dst≠some t→B.t t=A.t t)∧(s.only (fun _=>false)=true→dy A B)
def mH(A:ab)(dst:Option Nat)(s:I)(R:(ab→cg)→cg):Prop :=
 (∀ k,R k=.fail)∨(∃ B,(∀ k,R k=k B)∧rr A dst s B)∨∃ (p:Nat→Prop) (bm:Nat→ab),(∀ k,R k=.any p fun m=>k (bm m))∧∀ m,rr A dst s (bm m)
theorem qI{A B:ab}{dst:Option Nat}{v:I}{t:Nat}(ht:∀ k,B.t k=A.t k)(h:dst≠some t):(B.aP dst v).t t=A.t t:=by
 cases dst with
 |none=>exact ht t
 |some d =>
  have:t≠d:=fun e=>h (by rw[e]);simp only[ab.aP,ab.put,if_neg this];exact ht t
theorem GL(A:ab)(dst:Option Nat)(esz bytes:Nat)(z s:I)(es ys:List I):mH A dst s (fh A dst esz bytes z es ys):=by
 cases dst with
 |none=>exact .inl fun _=>rfl
 |some d =>
  cases ho:A.o d with
  |some y=>exact .inl fun k=>by simp only[fh,ho]
  |none =>
   by_cases hc:(es.length+ys.length)*bytes≤140737488355328∧es.length+ys.length≤maxLen
   ·refine .inr (.inr ⟨_,fun m=>(A.aQ d (.box (.agg (es++(ys++List.replicate m z))))).aP (some d) (.view d [] esz 0 (es.length+ys.length)),fun k=>by simp only[fh,ho];rw[if_pos hc],fun m=>⟨fun t ht=>qI (A:=A) (B:=A.aQ d _) (fun _=>rfl) ht,fun _ n y hy =>?_⟩⟩);have:n≠d:=fun e=>by rw[e,ho] at hy;cases hy
    rw[gJ];simp only[ab.aQ,if_neg this];exact hy
   ·exact .inl fun k=>by simp only[fh,ho];rw[if_neg hc]
theorem GP(A:ab)(dst:Option Nat)(esz bytes:Nat)(z s:I)(es ys:Option (List I)):mH A dst s (ed A dst esz bytes z s es ys):=by
 cases es with
 |none=>exact .inl fun _=>rfl
 |some es =>
  cases ys with
  |none=>exact .inl fun _=>rfl
  |some ys =>
   by_cases h0:ys=[]
   ·exact .inr (.inl ⟨A.aP dst s,fun k=>by simp only[ed,if_pos h0],fun t ht=>qI (A:=A) (fun _=>rfl) ht,fun _ n y hy=>by rw[gJ];exact hy⟩)
   ·have gg:=fun s'=>GL A dst esz bytes z s' es ys;cases s
    case nils=>simp only[mH,ed,if_neg h0];exact gg _
    case c0=>simp only[mH,ed,if_neg h0];exact gg _
    case view n p sz lo l =>
     cases ho:A.o n with
     |none=>exact .inl fun k=>by simp only[ed,if_neg h0,ho]
     |some y =>
      cases y with
      |box b =>
       cases hb:b.at p with
       |none=>exact .inl fun k=>by simp only[ed,if_neg h0,ho,hb]
       |some c =>
        cases c
        case agg fs =>
         by_cases h1:lo+l+ys.length≤fs.length
         ·by_cases h2:sz=esz∧I.cK ys=I.cK ((fs.drop (lo+l)).take ys.length)
          ·exact .inr (.inl ⟨(A.aQ n (.box (iw b p (lo+l) fs ys))).aP dst (.view n p esz lo (l+ys.length)),fun k=>by simp only[ed,if_neg h0,ho,hb,if_pos h1];rw[if_pos h2],fun t ht=>qI (A:=A) (B:=A.aQ n _) (fun _=>rfl) ht,fun h=>by simp[I.only] at h⟩)
          ·exact .inl fun k=>by simp only[ed,if_neg h0,ho,hb,if_pos h1];rw[if_neg h2]
         ·simp only[mH,ed,if_neg h0,ho,hb,if_neg h1];exact gg _
        all_goals exact .inl fun k=>by simp only[ed,if_neg h0,ho,hb]
      |_=>exact .inl fun k=>by simp only[ed,if_neg h0,ho]
    all_goals exact .inl fun k=>by simp only[ed,if_neg h0]
theorem yw(A:ab)(dst:Option Nat)(e esz bytes:Nat)(z:I)(s x:az)(rest:List ay):mH A dst (af A s) (aW A dst (.dM e esz bytes z s x) rest):=by
 generalize hs:af A s=hE;cases hE
 case own n l =>
  cases hx:af A x
  case slice sz ys =>
   cases ho:A.o n with
   |none=>exact .inl fun k=>by simp only[aW,hs,hx,ho]
   |some y =>
    cases y with
    |bH T sz' es =>
     by_cases hc:wm e esz bytes l sz ys T sz' es
     ·exact .inr (.inl ⟨(A.aQ n (.bH e esz (es++ys))).aP dst (.own n (es.length+ys.length)),fun k=>by simp only[aW,hs,hx,ho];rw[if_pos hc],fun t ht=>qI (A:=A) (B:=A.aQ n _) (fun _=>rfl) ht,fun h=>by simp[I.only] at h⟩)
     ·exact .inl fun k=>by simp only[aW,hs,hx,ho];rw[if_neg hc]
    |dK T xs =>
     by_cases hc:wo e esz bytes l ys T xs z
     ·exact .inr (.inl ⟨(A.aQ n (.dK e (xs++qd ys))).aP dst (.own n (xs.length+ys.length)),fun k=>by simp only[aW,hs,hx,ho];rw[if_pos hc],fun t ht=>qI (A:=A) (B:=A.aQ n _) (fun _=>rfl) ht,fun h=>by simp[I.only] at h⟩)
     ·exact .inl fun k=>by simp only[aW,hs,hx,ho];rw[if_neg hc]
    |_=>exact .inl fun k=>by simp only[aW,hs,hx,ho]
  all_goals exact .inl fun k=>by simp only[aW,hs,hx]
 all_goals (simp only[mH,aW,hs];exact GP ..)
theorem wK{A:ab}{d:Nat}{v:I}{n:Nat}{y:ai}{dst:Option Nat}{u:I}(h:dst≠some d):((A.put d v).aQ n y).aP dst u=((A.aQ n y).aP dst u).put d v:=by
 cases dst with
 |none=>rfl
 |some e =>
  have:e≠d:=fun he=>h (by rw[he]);simp only[ab.aP,ab.put,ab.aQ,ab.mk.injEq,and_true]
  funext k
  by_cases h1:k=e <;>by_cases h2:k=d <;>simp_all
theorem Yo{A:ab}{d:Nat}{v:I}{dst:Option Nat}{u:I}(h:dst≠some d):(A.put d v).aP dst u=(A.aP dst u).put d v:=by
 cases dst with
 |none=>rfl
 |some e =>
  have:e≠d:=fun he=>h (by rw[he]);simp only[ab.aP,ab.put,ab.mk.injEq,and_true]
  funext k
  by_cases h1:k=e <;>by_cases h2:k=d <;>simp_all
theorem GM{A:ab}{d:Nat}{v:I}{dst:Option Nat}(h:dst≠some d)(esz bytes:Nat)(z:I)(es ys:List I)(k:ab→cg):fh (A.put d v) dst esz bytes z es ys k=fh A dst esz bytes z es ys fun B=>k (B.put d v):=by
 cases dst with
 |none=>rfl
 |some e =>
  simp only[fh];have:(A.put d v).o=A.o:=rfl;rw[this];cases A.o e with
  |some _=>rfl
  |none =>
   simp only;split
   ·simp only[wK h]
   ·rfl
theorem GQ{A:ab}{d:Nat}{v:I}{dst:Option Nat}(h:dst≠some d)(esz bytes:Nat)(z s:I)(es ys:Option (List I))(k:ab→cg):ed (A.put d v) dst esz bytes z s es ys k=ed A dst esz bytes z s es ys fun B=>k (B.put d v):=by
 have ho:(A.put d v).o=A.o:=rfl;cases es with
 |none=>rfl
 |some es =>
  cases ys with
  |none=>rfl
  |some ys =>
   simp only[ed];split
   ·rw[Yo h]
   ·cases s <;>simp only[GM h,ho]
    rename_i n p sz lo l;cases A.o n with
    |none=>rfl
    |some y =>
     cases y with
     |box b =>
      simp only;cases b.at p with
      |none=>rfl
      |some c =>
       cases c <;>simp only[wK h]
     |_=>rfl
theorem GV{A:ab}{d:Nat}{v:I}{dst:Option Nat}(h:dst≠some d){e esz bytes:Nat}{z:I}{s x:az}(hag:dx A (A.put d v) (s.sl++x.sl))(rest rest':List ay)(k:ab→cg) :
  aW (A.put d v) dst (.dM e esz bytes z s x) rest k=aW A dst (.dM e esz bytes z s x) rest' fun B=>k (B.put d v):=by
 have ho:(A.put d v).o=A.o:=rfl;have hsrc:∀ y,cW (A.put d v) esz y=cW A esz y:=fun y=>by cases y <;>rfl
 simp only[aW,cE hag.l,cE hag.r,hsrc];cases af A s <;>simp only[GQ h]
 rename_i n l;cases af A x <;>simp only[ho]
 cases A.o n with
 |none=>rfl
 |some y=>cases y <;>simp only[wK h]
theorem bQ.zZ{au:ec}{f:FuncId}{avs:List I}{a1 a2:Option (List I)}{dst:Option Nat}{rest:List ay}{A:ab}(hi:dL au A)(hd:∀ d,dst=some d→gV au d=none)(h:bQ P Y hs K (.call f avs a1 a2 dst rest A)) :
  aY P Y false (fun B=>bQ P Y hs K (ar rest B)∧dL au B) (.call f avs a1 a2 dst [] A):=by
 have no:∀ {v:I},∀ d,dst=some d→∀ ns,gV au d=some ns→v.only (fun n=>ns.contains n)=true:=fun d e ns hn=>by rw[hd d e] at hn;cases hn
 cases h with
 |flat r hc hf hw=>exact .flat r hc hf (.done ⟨hw,hi.put (fun _=>rfl) no⟩)
 |lead r hc hw=>exact .lead r hc (.done ⟨hw,hi.put (fun _=>rfl) no⟩)
 |bB ρ cargs post hc hg ha hb hw=>exact .bB false ρ [] cargs post rfl hc hg (by simp only[iI,zz6,Mc];exact ha) hb fun r os' hp=>.done ⟨hw r os' hp,hi.put (B:=aq _ (cO ρ os'++_)) (fun _=>rfl) no⟩
 |wi aI ρ os cargs post _ hc hg ha hb hw=>exact .bB aI ρ os cargs post rfl hc hg ha hb fun r os' hp=>.done ⟨hw r os' hp,hi.put (B:=aq _ (cO ρ os'++_)) (fun _=>rfl) no⟩
theorem bQ.IQ{au:ec}{v:Value}{avs:List I}{dst:Option Nat}{rest:List ay}{A:ab}(hi:dL au A)(hd:∀ d,dst=some d→gV au d=none)(h:bQ P Y hs K (.lu v avs dst rest A)) :
  aY P Y false (fun B=>bQ P Y hs K (ar rest B)∧dL au B) (.lu v avs dst [] A):=by
 have no:∀ {v:I},∀ d,dst=some d→∀ ns,gV au d=some ns→v.only (fun n=>ns.contains n)=true:=fun d e ns hn=>by rw[hd d e] at hn;cases hn
 cases h with
 |ZO os cargs post hc hg ha hb hw=>exact .tU os cargs post rfl hc hg ha hb fun r os' hp=>.done ⟨hw r os' hp,hi.put (B:=aq _ (cO [] os'++_)) (fun _=>rfl) no⟩
theorem bQ.one{au:ec}{A:ab}{g:ay}{rest:List ay}(hi:dL au A)(ho:sZ g.op=true)(hL:im au g=true)(h:bQ P Y hs K (aW A g.dst g.op rest (ar rest))):aY P Y false (fun B=>bQ P Y hs K (ar rest B)∧dL au B) (aW A g.dst g.op [] (ar [])):=by
 have hval:=fun v (hv:aV A g.op=some v)=>Cz hi hL hv;obtain ⟨dst,op,gd⟩:=g;simp only at ho h hval ⊢;have pure:iz op=true→aY P Y false (fun B=>bQ P Y hs K (ar rest B)∧dL au B) (aW A dst op [] (ar [])):=by
  intro hsm;rw[vz hsm] at h ⊢;cases hv:aV A op with
  |none=>rw[hv] at h;cases h
  |some v=>rw[hv] at h;exact .done ⟨h,hi.put (fun _=>rfl) (hval v hv)⟩
 have unl:(∀ ns d,dst=some d→gV au d=some ns→im au ⟨dst,op,gd⟩=false)→∀ d,dst=some d→gV au d=none:=fun h1 d hd=>by
  cases hn:gV au d with
  |none=>rfl
  |some ns=>rw[h1 ns d hd hn] at hL;cases hL
 cases op with
 |alloc z =>
  cases dst with
  |none=>simp only[aW] at h;cases h
  |some d =>
   simp only[aW] at h ⊢;split at h
   case h_2=>cases h
   refine .done ⟨h,hi.put (B:=A.aQ d _) (dst:=some d) (fun _=>rfl) fun d' e ns hn =>?_⟩;simp only[v6] at e;subst e;simpa only[im,hn,I.only] using hL
 |box x =>
  cases dst with
  |none=>simp only[aW] at h;cases h
  |some d =>
   simp only[aW] at h ⊢;split at h
   case h_2=>cases h
   split at h
   case isFalse=>cases h
   rename_i hv;rw[if_pos hv];refine .done ⟨h,hi.put (B:=A.aQ d _) (dst:=some d) (fun _=>rfl) fun d' e ns hn =>?_⟩;simp only[v6] at e;subst e;simpa only[im,hn,I.only] using hL
 |aT s x v =>
  cases dst with
  |some d=>simp only[aW] at h;cases h
  |none =>
   simp only[aW] at h ⊢;split at h
   case h_2=>cases h
   rename_i n p hx;split at h
   case h_2=>cases h
   rename_i b hb;split at h
   case h_2=>cases h
   rename_i old hold;split at h
   case isFalse=>cases h
   rename_i hok;simp only[if_pos hok];exact .done ⟨h,fun s ns hn=>hi s ns hn⟩
 |eM x =>
  simp only[aW] at h ⊢;cases hse:lK (af A x) with
  |none=>rw[hse] at h;simp only[iv] at h;cases h
  |some ys =>
   rw[hse] at h;cases dst with
   |none=>simp only[iv] at h;cases h
   |some d =>
    simp only[iv] at h ⊢;split at h
    case h_2=>cases h
    rename_i ho;refine .any rfl fun m hm=>.done ⟨h.rD m hm,hi.put (B:=A.aQ d _) (dst:=some d) (fun _=>rfl) fun d' e ns hn =>?_⟩;simp only[v6] at e;subst e;simpa only[im,hn,I.only] using hL
 |call f args=>exact bQ.zZ hi (unl fun ns d e hn=>by subst e;simp only[im,hn]) h
 |fA x args =>
  have hu:=unl fun ns d e hn=>by subst e;simp only[im,hn]
  simp only[aW] at h ⊢;split at h
  ·exact bQ.zZ hi hu h
  ·exact bQ.IQ hi hu h
  ·cases h
 |dM e esz bytes z s x =>
  have hu:=unl fun ns d e hn=>by subst e;simp only[im,hn]
  have sj:∀ B,rr A dst (af A s) B→dL au B:=fun B hB t ns hn=>by
   rw[hB.1 t fun e=>by rw[hu t e] at hn;cases hn];exact hi t ns hn
  have hf:=yw A dst e esz bytes z s x;rcases hf rest with h1 | ⟨B,h1,h2⟩ | ⟨p,bm,h1,h2⟩
  ·rw[h1] at h;cases h
  ·rw[h1] at h;have:aW A dst (.dM e esz bytes z s x) [] (ar [])=ar [] B:=(show aW A dst (.dM e esz bytes z s x) [] (ar [])=aW A dst (.dM e esz bytes z s x) rest (ar []) from rfl).trans (h1 _);rw[this];exact .done ⟨h,sj B h2⟩
  ·rw[h1] at h;have:aW A dst (.dM e esz bytes z s x) [] (ar [])=.any p fun m=>ar [] (bm m):=(show aW A dst (.dM e esz bytes z s x) [] (ar [])=aW A dst (.dM e esz bytes z s x) rest (ar []) from rfl).trans (h1 _);rw[this];exact .any rfl fun m hm=>.done ⟨h.rD m hm,sj _ (h2 m)⟩
 |_=>first | exact pure rfl | cases ho
def fI(g:ay)(A:ab)(v:I):Prop:=(fR A g∧v=.undef)∨(pass A g∧aV A g.op=some v)
theorem bQ.xl{A:ab}{g:ay}{rest:List ay}(hs':iz g.op=true)(h:bQ P Y hs K (ar (g::rest) A)):∃ v,fI g A v∧bQ P Y hs K (ar rest (A.aP g.dst v)):=by
 have step:pass A g→bQ P Y hs K (aW A g.dst g.op rest (ar rest))→∃ v,fI g A v∧bQ P Y hs K (ar rest (A.aP g.dst v)):=by
  intro hp h;rw[vz hs'] at h;cases hv:aV A g.op with
  |none=>rw[hv] at h;cases h
  |some v=>rw[hv] at h;exact ⟨v,.inr ⟨hp,hv⟩,h⟩
 simp only[ar] at h;split at h
 ·rename_i hg;exact step (by simp only[pass,hg]) h
 ·rename_i t b hg;split at h
  ·rename_i b' hb;split at h
   ·rename_i hbb;subst hbb;exact step (by simp only[pass,hg];exact hb) h
   ·rename_i hbb;exact ⟨_,.inl ⟨by simp only[fR,hg];exact .inl (by rw[hb,uF hbb]),rfl⟩,h⟩
  ·rename_i hb;exact ⟨_,.inl ⟨by simp only[fR,hg];exact .inr hb,rfl⟩,h⟩
  ·cases h
theorem rE{A:ab}{g:ay}{rest:List ay}(hn:fR A g):ar (g::rest) A=ar rest (A.aP g.dst .undef):=by
 simp only[ar];cases hg:g.guard with
 |none=>simp only[fR,hg] at hn
 |some tb =>
  obtain ⟨t,b⟩:=tb;simp only[fR,hg] at hn;rcases hn with hn | hn
  ·simp only[hn];rw[if_neg (by cases b <;>simp)]
  ·simp only[hn]
theorem fI.to{A:ab}{g:ay}{rest:List ay}{v:I}(hs':iz g.op=true)(h:fI g A v):ar (g::rest) A=ar rest (A.aP g.dst v):=by
 rcases h with ⟨hn,rfl⟩ | ⟨hp,hv⟩
 ·exact rE hn
 ·rw[mN hp,vz hs',hv];rfl
theorem LQ{A A':ab}{p:Nat→Bool}(ho:∀ n,p n=true→A'.o n=A.o n){x:I}(hx:x.only p=true):bW A' x=bW A x:=by
 cases x <;>simp only[bW]
 rename_i n q;rw[ho n (by simpa[I.only] using hx)]
mutual
theorem MG{A A':ab}{p:Nat→Bool}(ho:∀ n,p n=true→A'.o n=A.o n):∀ {x:I},x.only p=true→bd false A' x=bd false A x
 | .own n k,h=>by simp only[bd];rw[ho n (by simpa[I.only] using h)]
 | .func f caps,h=>by simp only[bd];rw[rY ho (xs:=caps) (by simpa[I.only] using h)]
 | .agg fs,h=>by simp only[bd];rw[rY ho (xs:=fs) (by simpa[I.only] using h)]
 | .undef,_ | .cY,_ | .bool _,_ | .int _ _,_ | .aj _,_ | .nilp,_ | .de,_ | .cS,_ | .any,_ | .raw _,_ | .nils _,_ | .c0 _,_ | .slice _ _,_ | .tuple _,_ | .ref _,_ | .iface _ _,_ | .ptr _ _,_ | .view _ _ _ _ _,_ | .mref _,_ | .cX _,_ | .c6 _ _,_=>by simp[bd]
theorem rY{A A':ab}{p:Nat→Bool}(ho:∀ n,p n=true→A'.o n=A.o n):∀ {xs:List I},I.bV p xs=true→bJ false A' xs=bJ false A xs
 | [],_=>rfl
 |x::xs,h=>by
  simp only[I.bV,Z0] at h;simp only[bJ,MG ho h.1,rY ho h.2]
end
theorem CH{p:Nat→Bool}{f:az→I} : ∀ {xs:List az},(∀ x∈xs,(f x).only p=true)→I.bV p (xs.map f)=true
 | [],_=>rfl
 |x::xs,h=>by
  simp only[Z3,I.bV,Z0];exact ⟨h x (by simp),CH fun y hy=>h y (by simp[hy])⟩
theorem WD{A A':ab}{p:Nat→Bool}(ho:∀ n,p n=true→A'.o n=A.o n){x:I}(hx:x.only p=true):gb A' x=gb A x:=by
 cases x with
 |mref n=>simp only[gb];rw[ho n (by simpa[I.only] using hx)]
 |raw v=>cases v <;>first | rfl | (rename_i o;cases o <;>rfl)
 |_=>rfl
theorem Yc{A A':ab}{op:bw}{xs:List Nat}{p:Nat→Bool}(hm:mi op=some xs)(h:dx A A' op.cv)(hx:∀ s∈xs,(A.t s).only p=true)(ho:∀ n,p n=true→A'.o n=A.o n):aV A' op=aV A op:=by
 have jQ:op.fY=0→aV A' op=aV A op:=fun hc=>wI hc h;have dl:=fun {x:I} (hx:x.only p=true)=>LQ ho hx;unfold mi at hm;split at hm
 ·rename_i s x;simp only[v6] at hm;subst hm;have e:=h x (by simp[bw.cv,az.sl]);simp only[aV,af,e,dl (hx x (by simp))]
 ·rename_i f off x;simp only[v6] at hm;subst hm;have e:=h x (by simp[bw.cv,az.sl]);have k:=hx x (by simp);simp only[aV,af,e];generalize A.t x=u at k ⊢;cases u with
  |ptr n q=>simp only[dl (x:=.ptr n q) k]
  |ref c=>cases c <;>rfl
  |_=>rfl
 ·rename_i n esz x i;simp only[v6] at hm;subst hm;have e:=h x (by simp[bw.cv,az.sl]);have ei:=cE (x:=i) (fun m hm=>h m (by simp[bw.cv,hm]));have k:=hx x (by simp);simp only[aV,ei];generalize af A i=w;simp only[af,e];generalize A.t x=u at k ⊢;cases u with
  |ptr n q=>simp only[dl (x:=.ptr n q) k]
  |ref c=>cases c <;>rfl
  |_=>rfl
 ·rename_i esz x i;simp only[v6] at hm;subst hm;have e:=h x (by simp[bw.cv,az.sl]);have ei:=cE (x:=i) (fun m hm=>h m (by simp[bw.cv,hm]));have k:=hx x (by simp);simp only[aV,ei];generalize af A i=w;simp only[af,e];generalize A.t x=u at k ⊢;cases u with
  |own n l=>simp only[ho n (by simpa[I.only] using k)]
  |view n q=>simp only[dl (x:=.ptr n q) (by simpa[I.only] using k)]
  |_=>rfl
 ·rename_i x;simp only[v6] at hm;subst hm;have e:=h x (by simp[bw.cv,az.sl]);have k:=hx x (by simp);simp only[aV,af,e];generalize A.t x=u at k ⊢;cases u with
  |own n l=>simp only[ho n (by simpa[I.only] using k)]
  |_=>rfl
 ·rename_i n esz x;simp only[v6] at hm;subst hm;have e:=h x (by simp[bw.cv,az.sl]);have k:=hx x (by simp);simp only[aV,af,e];generalize A.t x=u at k ⊢;cases u with
  |ptr n q=>simp only[dl (x:=.ptr n q) k]
  |ref c=>cases c <;>rfl
  |_=>rfl
 ·rename_i esz x lo hi mx;simp only[v6] at hm;subst hm;have e:=h x (by simp[bw.cv,az.sl]);have e1:=ot (x:=lo) (fun m hm=>h m (by simp[bw.cv,hm]));have e2:=ot (x:=hi) (fun m hm=>h m (by simp[bw.cv,hm]));have e3:=ot (x:=mx) (fun m hm=>h m (by simp[bw.cv,hm]));have k:=hx x (by simp);simp only[aV,e1,e2,e3];generalize lo.map (af A)=w1;generalize hi.map (af A)=w2;generalize mx.map (af A)=w3;simp only[af,e];generalize A.t x=u at k ⊢;cases u with
  |view n q=>simp only[dl (x:=.ptr n q) (by simpa[I.only] using k)]
  |_=>rfl
 ·rename_i x;simp only[v6] at hm;subst hm;have e:=h x (by simp[bw.cv,az.sl]);have k:=hx x (by simp);simp only[aV,af,e];generalize A.t x=u at k ⊢;cases u with
  |view n q=>simp only[dl (x:=.ptr n q) (by simpa[I.only] using k)]
  |_=>rfl
 ·rename_i ty z ok x kk;simp only[v6] at hm;subst hm;have e:=h x (by simp[bw.cv,az.sl]);have ek:=cE (x:=kk) (fun m hm=>h m (by simp[bw.cv,hm]));have k:=hx x (by simp);simp only[aV,ek];generalize af A kk=w;simp only[af,e,WD ho k]
 ·rename_i x;simp only[v6] at hm;subst hm;have e:=h x (by simp[bw.cv,az.sl]);have k:=hx x (by simp);simp only[aV,af,e];generalize A.t x=u at k ⊢;cases u with
  |own n l=>simp only[cW,ho n (by simpa[I.only] using k)]
  |view n q=>simp only[cW,dl (x:=.ptr n q) (by simpa[I.only] using k)]
  |_=>rfl
 ·rename_i esz ps;split at hm
  case isFalse=>cases hm
  rename_i hall;simp only[v6] at hm;subst hm;have hev:ps.map (af A')=ps.map (af A):=ku h;have hon:I.bV p (ps.map (af A))=true:=CH fun x hx'=>by
   have h1:=zy5.1 hall x hx';cases x with
   |c _=>cases h1
   |t s=>exact hx s (by simp only[iS,List.mem_flatMap];exact ⟨_,hx',by simp[az.sl]⟩)
  simp only[aV,hev,rY ho hon]
 ·rfl
 ·split at hm
  ·rename_i hc;exact jQ hc.1
  ·cases hm
theorem yq{au:ec}{A:ab}{g:ay}{p:Nat→Bool}(hi:dL au A)(h:rF au g p=true):∃ xs,mi g.op=some xs∧∀ s∈xs,(A.t s).only p=true:=by
 unfold rF at h;split at h
 case h_2=>cases h
 rename_i xs hm;refine ⟨xs,hm,fun s hs' =>?_⟩;have h1:=zy5.1 h s hs';split at h1
 case h_2=>cases h1
 rename_i ns hn;exact jA (fun n h2=>zy5.1 h1 n (by simpa using h2)) _ (hi s ns hn)
theorem fI.vW{A A':ab}{g:ay}{v:I}{xs:List Nat}{p:Nat→Bool}(h:fI g A v)(hm:mi g.op=some xs)(ha:dx A A' g.cv)(hx:∀ s∈xs,(A.t s).only p=true)(ho:∀ n,p n=true→A'.o n=A.o n):fI g A' v:=by
 rcases h with ⟨h,rfl⟩ | ⟨h,k⟩
 ·exact .inl ⟨oQ ha h,rfl⟩
 ·exact .inr ⟨mr ha h,by rw[Yc hm (ay.jc ha) hx ho];exact k⟩
theorem fI.sj{au:ec}{A:ab}{g:ay}{v:I}(hi:dL au A)(hg:im au g=true)(h:fI g A v):dL au (A.aP g.dst v):=by
 rcases h with ⟨_,rfl⟩ | ⟨_,k⟩
 ·exact hi.put (fun _=>rfl) fun _ _ _ _=>rfl
 ·exact hi.put (fun _=>rfl) (Cz hi hg k)
theorem fI.cz{A A':ab}{g:ay}{v:I}(h:fI g A v)(hu:dy A A')(ha:dx A A' g.cv):fI g A' v:=by
 rcases h with ⟨h,rfl⟩ | ⟨h,k⟩
 ·exact .inl ⟨oQ ha h,rfl⟩
 ·exact .inr ⟨mr ha h,CT hu (ay.jc ha) k⟩
theorem BG{au:ec}{g h:ay}(hi:mU hs au g h=true):iz g.op=true∧nm hs au g h=true∧(∀ d,g.dst=some d→d∉h.cv)∧(∀ d,g.dst=some d→h.dst≠some d)∧(∀ d,h.dst=some d→d∉g.cv):=by
 simp only[mU,Z0] at hi;obtain ⟨h1,h2,h3,h4⟩:=hi;refine ⟨h1,h2,fun d hd =>?_,fun d hd =>?_,fun d hd =>?_⟩
 ·rw[hd] at h3;simp at h3;exact h3.1
 ·rw[hd] at h3;simp at h3;exact h3.2
 ·rw[hd] at h4;simpa using h4
theorem yA{aI:Bool}{A A':ab}{ρ:List (Nat×Nat)}{os:List (Nat×ai)}(hu:dy A A'):∀ {xs cs:List I},gl aI A ρ os xs cs→gl aI A' ρ os xs cs
 | [],[],_=>trivial
 |x::xs,c::cs,h=>⟨h.1.imp id fun h=>AX hu h,yA hu h.2⟩
 | [],_::_,h=>h.elim
 |_::_,[],h=>h.elim
theorem WL{A:ab}{d:Option Nat}{v:I}{ts:List (Nat×I)}{os:List (Nat×ai)}(h:A.aP d v=aq ts os):∃ ts2,A=aq ts2 os∧∀ X:List (Nat×ai),(aq ts2 X).aP d v=aq ts X:=by
 cases d with
 |none=>exact ⟨ts,h,fun _=>rfl⟩
 |some d =>
  have ht:∀ k,(A.aP (some d) v).t k=bM ts k:=fun k=>by rw[h];rfl
  have ho:A.o=aA os:=by
   have:(A.aP (some d) v).o=aA os:=by rw[h];rfl
   rwa [gJ] at this
  refine ⟨(d,A.t d)::ts,?_,fun X =>?_⟩
  ·cases A with
   |mk t o =>
    simp only[aq,ab.mk.injEq];refine ⟨funext fun k =>?_,ho⟩;have:=ht k;simp only[ab.aP,ab.put] at this;simp only[bM];by_cases hk:k=d
    ·subst hk;simp
    ·rw[if_neg hk] at this;have hk':¬ d=k:=fun e=>hk e.symm;simp only[hk,if_false];exact this
  ·simp only[ab.aP,ab.put,aq,ab.mk.injEq,and_true]
   funext k
   have:=ht k;simp only[ab.aP,ab.put] at this;by_cases hk:k=d
   ·subst hk;simp at this ⊢;exact this
   ·have hk':¬ d=k:=fun e=>hk e.symm;simp only[bM,hk,if_false]
theorem X7{ρ:List (Nat×Nat)}{os0 os':List (Nat×ai)}{r:I}(hb:dh false ρ [] os0 r os'){n:Nat}{x:ai}(hx:aA os0 n=some x):aA (cO ρ os'++os0) n=some x:=by
 rw[qt];cases hp:pre ρ os' n with
 |none=>exact hx
 |some m =>
  obtain ⟨h1,h2⟩:=iJ hp;have:=(hb.oN m h1 (by simp[ao,aA])).1;rw[h2,hx] at this;cases this
theorem bQ.IN{A B:ab}{j:ay}{v:I}{f:FuncId}{args:List az}{dst:Option Nat}{rest:List ay}(hj:iz j.op=true)(hv:fI j A v)(hB:B=A.aP j.dst v)(hf:hs.contains f=false)(hag:dx A B (iS args))(hd:∀ d,j.dst=some d→dst≠some d)(hr:∀ d,dst=some d→d∉j.cv)
  (h:bQ P Y hs K (.call f (args.map (af B)) (bJ true B (args.map (af B))) (bJ false B (args.map (af B))) dst rest B)):bQ P Y hs K (.call f (args.map (af A)) (bJ true A (args.map (af A))) (bJ false A (args.map (af A))) dst (j::rest) A):=by
 have eo:B.o=A.o:=by rw[hB,gJ]
 have cz:dy B A:=fun n x hx=>by rwa [←eo]
 have up':dy A B:=fun n x hx=>by rwa [eo]
 have eav:args.map (af B)=args.map (af A):=ku hag;rw[eav] at h;have cont:∀ r:I,bQ P Y hs K (ar rest (B.aP dst r))→bQ P Y hs K (ar (j::rest) (A.aP dst r)):=fun r hw=>by
  have h1:fI j (A.aP dst r) v:=hv.cz (fun n x hx=>by rwa [gJ]) (lE hr);rw[h1.to hj,oV (fun d hd'=>fun e=>hd d e hd'),←hB];exact hw
 generalize e1:bJ true B (args.map (af A))=a1 at h;generalize e2:bJ false B (args.map (af A))=a2 at h;generalize hBm:B=B0 at h;cases h with
 |flat r hc hfl hw =>
  subst hBm;rw[kz cz e1];exact .flat r hc hfl (cont r hw)
 |lead r hc hw =>
  subst hBm;rw[kz cz e2];exact .lead r hc (cont r hw)
 |bB ρ cargs post hc hg ha hb hw =>
  rename_i ts os0;rw[hB] at hBm;obtain ⟨ts2,hA,hts⟩:=WL hBm;have hA':=hA;clear cont;subst hA;refine .bB ρ cargs post hc hg (yA (A:=aq ts os0) (A':=aq ts2 os0) (fun n x hx=>hx) ha) hb fun r os' hp =>?_;have h1:fI j ((aq ts2 (cO ρ os'++os0)).aP dst (r.aO (bh ρ))) v:=hv.cz (fun n x hx=>by
   rw[gJ];exact X7 (hb r os' hp) hx) (fun k hk=>by
    have:=lE (A:=aq ts2 (cO ρ os'++os0)) (v:=r.aO (bh ρ)) hr k hk;rw[this];rfl)
  rw[h1.to hj,oV (fun d hd'=>fun e=>hd d e hd'),hts];exact hw r os' hp
 |wi aI ρ os cargs post hfs =>
  rw[hf] at hfs;cases hfs
theorem bQ.qZ{au:ec}{A:ab}{j g:ay}{rest:List ay}(hinv:dL au A)(hi:mU hs au j g=true)(hw:bQ P Y hs K (ar (j::g::rest) A)):bQ P Y hs K (ar (g::j::rest) A):=by
 obtain ⟨hj,hl,i1,i2,i3⟩:=BG hi;obtain ⟨v,hv,hw⟩:=bQ.xl hj hw;have ag:dx (A.aP j.dst v) A g.cv:=(lE i1).symm;have ag':dx A (A.aP j.dst v) g.cv:=lE i1;have cz:dy (A.aP j.dst v) A:=fun n x hx=>by rwa [gJ] at hx
 have up':∀ (d:Option Nat) (u:I),dy A (A.aP d u):=fun d u n x hx=>by rwa [gJ]
 by_cases hsg:iz g.op=true
 ·obtain ⟨u,hu,hw⟩:=bQ.xl hsg hw;rw[(hu.cz cz ag).to hsg,(hv.cz (up' _ _) (lE i3)).to hj,←oV i2];exact hw
 ·-- the guard
  have guard:(fR (A.aP j.dst v) g∧ar (g::rest) (A.aP j.dst v)=ar rest ((A.aP j.dst v).aP g.dst .undef))∨(pass (A.aP j.dst v) g∧ar (g::rest) (A.aP j.dst v)=aW (A.aP j.dst v) g.dst g.op rest (ar rest))∨ar (g::rest) (A.aP j.dst v)=.fail:=by
   cases hg:g.guard with
   |none=>exact .inr (.inl ⟨by simp only[pass,hg],by simp only[ar,hg]⟩)
   |some tb =>
    obtain ⟨t,b⟩:=tb;cases ht:(A.aP j.dst v).t t with
    |bool b' =>
     by_cases hbb:b'=b
     ·subst hbb;have hp:pass (A.aP j.dst v) g:=by simp only[pass,hg,ht]
      exact .inr (.inl ⟨hp,mN hp⟩)
     ·have hn:fR (A.aP j.dst v) g:=by simp only[fR,hg];exact .inl (by rw[ht,uF hbb])
      exact .inl ⟨hn,rE hn⟩
    |undef =>
     have hn:fR (A.aP j.dst v) g:=by simp only[fR,hg];exact .inr ht
     exact .inl ⟨hn,rE hn⟩
    |_=>exact .inr (.inr (by simp only[ar,hg,ht]))
  rcases guard with ⟨hn,he⟩ | ⟨hp,he⟩ | he
  ·rw[he] at hw;rw[rE (oQ ag hn),(hv.cz (up' _ _) (lE i3)).to hj,←oV i2];exact hw
  ·rw[he] at hw;rw[mN (mr ag hp)];obtain ⟨dst,op,gd⟩:=g;simp only at hw hsg i2 i3 ⊢;cases op with
   |alloc z =>
    cases dst with
    |none=>simp only[aW] at hw;cases hw
    |some d =>
    simp only[aW] at hw ⊢;split at hw
    case h_2=>cases hw
    rename_i ho;rw[gJ] at ho;simp only[ho];have h1:fI j ((A.aQ d (.box z)).put d (.ptr d [])) v:=hv.cz (fun n y hy=>by
     have:n≠d:=fun he=>by rw[he,ho] at hy;cases hy
     simp only[ab.put,ab.aQ,this,if_false];exact hy) (fun k hk=>by
     have:k≠d:=fun he=>i3 d rfl (he▸hk);simp only[ab.put,ab.aQ,this,if_false])
    rw[h1.to hj];have e:((A.aP j.dst v).aQ d (.box z)).put d (.ptr d [])=((A.aQ d (.box z)).put d (.ptr d [])).aP j.dst v:=by
     cases hgd:j.dst with
     |none=>rfl
     |some e =>
      have hne:e≠d:=fun he=>i2 e hgd (by rw[he]);simp only[ab.aP,ab.put,ab.aQ,ab.mk.injEq,and_true]
      funext k
      by_cases h1:k=e <;>by_cases h2:k=d <;>simp_all
    rw[←e];exact hw
   |box x =>
    have ex:af (A.aP j.dst v) x=af A x:=cE (ay.jc ag');cases dst with
    |none=>simp only[aW] at hw;cases hw
    |some d =>
    simp only[aW] at hw ⊢;split at hw
    case h_2=>cases hw
    rename_i ho;rw[gJ] at ho;simp only[ho];rw[ex] at hw;split at hw
    case isFalse=>cases hw
    rename_i hval;rw[if_pos hval];have h1:fI j ((A.aQ d (.box (af A x))).put d (.ptr d [])) v:=hv.cz (fun n y hy=>by
     have:n≠d:=fun he=>by rw[he,ho] at hy;cases hy
     simp only[ab.put,ab.aQ,this,if_false];exact hy) (fun k hk=>by
     have:k≠d:=fun he=>i3 d rfl (he▸hk);simp only[ab.put,ab.aQ,this,if_false])
    rw[h1.to hj];have e:((A.aP j.dst v).aQ d (.box (af A x))).put d (.ptr d [])=((A.aQ d (.box (af A x))).put d (.ptr d [])).aP j.dst v:=by
     cases hgd:j.dst with
     |none=>rfl
     |some e =>
      have hne:e≠d:=fun he=>i2 e hgd (by rw[he]);simp only[ab.aP,ab.put,ab.aQ,ab.mk.injEq,and_true]
      funext k
      by_cases h1:k=e <;>by_cases h2:k=d <;>simp_all
    rw[←e];exact hw
   |eM x =>
    have ex:af (A.aP j.dst v) x=af A x:=cE (ay.jc ag');simp only[aW] at hw ⊢;rw[ex] at hw;cases hse:lK (af A x) with
    |none=>rw[hse] at hw;simp only[iv] at hw;cases hw
    |some ys =>
    rw[hse] at hw;cases dst with
    |none=>simp only[iv] at hw;cases hw
    |some d =>
    simp only[iv] at hw ⊢;rw[gJ] at hw;split at hw
    case h_2=>cases hw
    rename_i ho;refine .any fun m hm =>?_;have hw:=hw.rD m hm;generalize hbx:ai.box (.agg (ys++List.replicate m (.int .u8 0)))=aI at hw ⊢;generalize hvw:I.view d [] 1 0 ys.length=vw at hw ⊢;have h1:fI j ((A.aQ d aI).aP (some d) vw) v:=hv.cz (fun n y hy=>by
     have:n≠d:=fun he=>by rw[he,ho] at hy;cases hy
     simp only[ab.aP,ab.put,ab.aQ,this,if_false];exact hy) (fun k hk=>by
     have:k≠d:=fun he=>i3 d rfl (he▸hk);simp only[ab.aP,ab.put,ab.aQ,this,if_false])
    rw[h1.to hj];have e:((A.aP j.dst v).aQ d aI).aP (some d) vw=((A.aQ d aI).aP (some d) vw).aP j.dst v:=by
     cases hgd:j.dst with
     |none=>rfl
     |some e =>
      have hne:e≠d:=fun he=>i2 e hgd (by rw[he]);simp only[ab.aP,ab.put,ab.aQ,ab.mk.injEq,and_true]
      funext k
      by_cases h1:k=e <;>by_cases h2:k=d <;>simp_all
    rw[←e];exact hw
   |call f args =>
    simp only[aW] at hw ⊢;refine bQ.IN hj hv rfl (by simpa[nm,oL] using hl) (ay.jc ag') i2 i3 hw
   |aT s y u =>
    cases dst with
    |some d=>simp only[aW] at hw;cases hw
    |none =>
    have ey:af (A.aP j.dst v) y=af A y:=cE (ay.jc ag').l;have eu:af (A.aP j.dst v) u=af A u:=cE (ay.jc ag').r;simp only[aW] at hw ⊢;rw[ey,eu,gJ] at hw;cases hx:af A y <;>simp only[hx] at hw ⊢ <;>try (cases hw;done)
    rename_i n q;cases ho:A.o n with
    |none=>rw[ho] at hw;cases hw
    |some ob =>
    rw[ho] at hw;cases ob <;>simp only at hw ⊢ <;>try (cases hw;done)
    rename_i b;cases hb:b.at q with
    |none=>rw[hb] at hw;cases hw
    |some old =>
    rw[hb] at hw;simp only at hw ⊢;split at hw
    case isFalse=>cases hw
    rename_i hok;rw[if_pos hok];have h1:fI j (A.aQ n (.box (b.du q (af A u)))) v:=by
     have none0:mi j.op=some []→fI j (A.aQ n (.box (b.du q (af A u)))) v:=fun hm=>hv.vW (p:=fun _=>false) hm (fun _ _=>rfl) (fun s hs'=>by cases hs') (fun m hm=>by cases hm);cases y with
     |c y =>
      simp only[nm,oL,iz,Bool.false_or] at hl;split at hl
      ·rename_i hm;exact none0 hm
      ·cases hl
     |t y =>
      simp only[nm,oL,iz,Bool.false_or] at hl;split at hl
      ·rename_i hm;exact none0 hm
      ·split at hl
       case h_2=>cases hl
       rename_i ms hms;obtain ⟨xs,hm,hx2⟩:=yq hinv hl;refine hv.vW hm (fun _ _=>rfl) hx2 fun m hm2 =>?_;have hn:=hinv y ms hms;simp only[af] at hx;rw[hx] at hn;have:m≠n:=fun e=>by subst e;simp[I.only] at hn hm2;exact hm2 hn
       simp only[ab.aQ,if_neg this]
    rw[h1.to hj];have e:(A.aP j.dst v).aQ n (.box (b.du q (af A u)))=(A.aQ n (.box (b.du q (af A u)))).aP j.dst v:=by cases j.dst <;>rfl
    rw[←e];exact hw
   |dM e esz bytes z s x =>
    have hag:dx A (A.aP j.dst v) (s.sl++x.sl):=ay.jc ag';have he2:aW (A.aP j.dst v) dst (.dM e esz bytes z s x) rest (ar rest)=aW A dst (.dM e esz bytes z s x) (j::rest) fun B=>ar rest (B.aP j.dst v):=by
     cases hjd:j.dst with
     |none=>rfl
     |some d =>
      rw[hjd] at hag;exact GV (fun e=>i2 d hjd e) hag rest (j::rest) (ar rest)
    rw[he2] at hw;have jR:∀ B,rr A dst (af A s) B→ar (j::rest) B=ar rest (B.aP j.dst v):=fun B hB=>by
     have hagB:dx A B j.cv:=fun k hk=>hB.1 k fun e=>i3 k e hk;have:fI j B v:=by
      simp only[nm,oL,iz,Bool.false_or,Bool.or_eq_true] at hl;rcases hl with hl | hl
      ·obtain ⟨xs,hm,hx2⟩:=yq hinv hl;exact hv.vW hm hagB hx2 fun m hm2=>by cases hm2
      ·have:=nP hinv hl;exact hv.cz (hB.2 (by simpa using this)) hagB
     rw[this.to hj]
    rcases yw A dst e esz bytes z s x (j::rest) with h1 | ⟨B,h1,h2⟩ | ⟨p,bm,h1,h2⟩
    ·rw[h1] at hw;cases hw
    ·rw[h1] at hw ⊢;rw[jR B h2];exact hw
    ·rw[h1] at hw ⊢;exact .any fun m hm=>by rw[jR _ (h2 m)];exact hw.rD m hm
   |_=>first | exact absurd rfl hsg | (simp[nm,oL,iz] at hl)
  ·rw[he] at hw;cases hw
theorem bQ.pO{au:ec}{g:ay} : ∀ {l:List ay} {r:List ay} {A:ab},dL au A→(∀ j∈l,mU hs au j g=true∧im au j=true)→bQ P Y hs K (ar (l++g::r) A)→bQ P Y hs K (ar (g::(l++r)) A)
 | [],r,A,_,_,h=>h
 |j::l,r,A,hinv,hi,h=>by
  have hj:=(BG (hi j (by simp)).1).1;obtain ⟨v,hv,h2⟩:=bQ.xl (g:=j) (rest:=l++g::r) hj h;have h3:=bQ.pO (l:=l) (r:=r) (hv.sj hinv (hi j (by simp)).2) (fun k hk=>hi k (by simp[hk])) h2;refine bQ.qZ hinv (hi j (by simp)).1 ?_;rw[hv.to hj];exact h3
end
def sR:List Nat→Bool
 | []=>true
 |a::l => !l.contains a&&sR l
def rA(hs:List FuncId)(au:ec)(gs:List ay)(cl:List Nat):List Nat→List Nat→Bool
 |_,[]=>true
 |before,i::σ=>(before.all fun j=>(cl.getD i 0).testBit j||mU hs au (gs.getD j default) (gs.getD i default))&&rA hs au gs cl (i::before) σ
def ta(hs:List FuncId)(au:ec)(on:List (List Nat))(gs:List ay)(cl:List Nat)(σ:List Nat):Bool :=
 (Nat.beq σ.length gs.length&&(sR σ&&(σ.all (fun i=>decide (i<gs.length))&&((List.range gs.length).all (fun i=>σ.contains i)&&gs.all fun g=>sZ g.op&&im au g))))&&(rA hs au gs cl [] σ&&(List.range gs.length).all fun i=>(on.getD i []).all (fun k=>decide (k<i))&&Nat.beq (cl.getD i 0) (nQ cl (on.getD i [])))
theorem Cl:∀ {l:List Nat},sR l=true→l.Nodup
 | [],_=>List.nodup_nil
 |a::l,h=>by
  simp only[sR,Z0,Bool.not_eq_true',List.contains_eq_mem,decide_eq_false_iff_not] at h;exact List.nodup_cons.2 ⟨h.1,Cl h.2⟩
theorem yn{hs:List FuncId}{au:ec}{gs:List ay}{cl:List Nat} : ∀ {σ before:List Nat},rA hs au gs cl before σ=true→∀ s1 i s2,σ=s1++i::s2→∀ j,j∈before∨j∈s1→(cl.getD i 0).testBit j=true∨mU hs au (gs.getD j default) (gs.getD i default)=true
 | [],_,_,s1,i,s2,e,_,_=>by cases s1 <;>cases e
 |a::σ,before,h,s1,i,s2,e,j,hj=>by
  simp only[rA,Z0,zy5,Bool.or_eq_true] at h;cases s1 with
  |nil =>
   simp only[zz3,zy1] at e;obtain ⟨rfl,rfl⟩:=e;rcases hj with hj | hj
   ·exact h.1 j hj
   ·cases hj
  |cons b s1 =>
   simp only[Z8,zy1] at e;obtain ⟨rfl,rfl⟩:=e;refine yn h.2 s1 i s2 rfl j ?_;rcases hj with hj | hj
   ·exact .inl (List.mem_cons_of_mem _ hj)
   ·rcases zy8.1 hj with hj | hj
    ·exact .inl (by rw[hj];exact List.mem_cons_self)
    ·exact .inr hj
def iu(σ:List Nat)(listed:Array Bool):List Nat:=σ.filter fun i => !listed.getD i true
def nr(gs:List ay)(σ:List Nat)(listed:Array Bool):List ay:=(iu σ listed).map fun i=>gs.getD i default
theorem YC{σ:List Nat}{listed:Array Bool}{i:Nat}(hn:σ.Nodup)(hi:i∈σ)(hl:i<listed.size)(hu:listed.getD i true=false):∃ s1 s2,σ=s1++i::s2∧iu σ listed=(s1.filter fun j => !listed.getD j true)++i::(s2.filter fun j => !listed.getD j true) ∧
  iu σ (listed.setIfInBounds i true)=(s1.filter fun j => !listed.getD j true)++(s2.filter fun j => !listed.getD j true):=by
 obtain ⟨s1,s2,rfl⟩:=List.append_of_mem hi;have same:∀ j,j≠i→(listed.setIfInBounds i true).getD j true=listed.getD j true:=fun j hj=>getD_set_ne true (Ne.symm hj);have jS:(listed.setIfInBounds i true).getD i true=true:=by simp[hl]
 have hnd:=List.nodup_append.1 hn;have h1:∀ j∈s1,j≠i:=fun j hj=>hnd.2.2 j hj i List.mem_cons_self;have h2:∀ j∈s2,j≠i:=fun j hj e=>(List.nodup_cons.1 hnd.2.1).1 (e▸hj);refine ⟨s1,s2,rfl,?_,?_⟩
 ·simp only[iu,List.filter_append,List.filter_cons,hu,Bool.not_false,if_true]
 ·simp only[iu,List.filter_append,List.filter_cons,jS,Bool.not_true,Z6,if_false]
  congr 1
  ·exact List.filter_congr fun j hj=>by rw[same j (h1 j hj)]
  ·exact List.filter_congr fun j hj=>by rw[same j (h2 j hj)]
structure yi (hs:List FuncId) (au:ec) (l:List Oper) (gs:List ay) (σ:List Nat):Prop where
 WX:σ.Nodup
 lt:∀ i∈σ,i<gs.length
 all:∀ i,i<gs.length→i∈σ
 ok:∀ g∈gs,sZ g.op=true∧im au g=true
 len:σ.length=gs.length
 ln:∀ i o,l[i]?=some o→∀ k∈dP o,k<i
 vG:∀ (S:Nat→Prop),(∀ i o,l[i]?=some o→S i→∀ k∈dP o,S k)→∀ s1 i s2 o,σ=s1++i::s2→l[i]?=some o→(∀ k∈dP o,S k)→∀ j∈s1,¬ S j→mU hs au (gs.getD j default) (gs.getD i default)=true
theorem X3{hs:List FuncId}{au:ec}{l:List Oper}{gs:List ay}{cl σ:List Nat}(hlen:gs.length=l.length)(h:ta hs au (l.map dP) gs cl σ=true):yi hs au l gs σ:=by
 simp only[ta,Z0,zy5,decide_eq_true_eq,List.mem_range,List.contains_eq_mem] at h;obtain ⟨⟨h1,h2,h3,h4,h5⟩,h6,h7⟩:=h;have bf:∀ i o,l[i]?=some o→(∀ k∈dP o,k<i)∧(∀ j,(cl.getD i 0).testBit j=true→j∈dP o∨∃ k∈dP o,(cl.getD k 0).testBit j=true):=by
  intro i o ho;have hi:i<l.length:=(Z7.1 ho).1;have h8:=h7 i (by omega);have hon:(l.map dP).getD i []=dP o:=by simp[zz5,ho]
  rw[hon] at h8;have hb:=Nat.eq_of_beq_eq_true h8.2;exact ⟨h8.1,fun j hj=>xH (by rw[←hb];exact hj)⟩
 refine ⟨Cl h2,h3,h4,h5,Nat.eq_of_beq_eq_true h1,fun i o ho=>(bf i o ho).1,?_⟩;intro S hS s1 i s2 o e ho hon j hj hnj;have key:∀ n i o,i≤n→l[i]?=some o→(∀ k∈dP o,S k)→∀ j,(cl.getD i 0).testBit j=true→S j:=by
  intro n
  induction n with
  |zero =>
   intro i o hi ho hon j hj;obtain ⟨h8,h9⟩:=bf i o ho;rcases h9 j hj with h | ⟨k,hk,_⟩
   ·exact hon j h
   ·have:=h8 k hk;omega
  |succ n ih =>
   intro i o hi ho hon j hj;obtain ⟨h8,h9⟩:=bf i o ho;rcases h9 j hj with h | ⟨k,hk,hjk⟩
   ·exact hon j h
   ·have hki:=h8 k hk;have hkl:k<l.length:=Nat.lt_trans hki (Z7.1 ho).1;obtain ⟨ok,hok⟩:∃ ok,l[k]?=some ok:=⟨l[k],zz2 hkl⟩
    exact ih k ok (by omega) hok (hS k ok hok (hon k hk)) j hjk
 rcases yn h6 s1 i s2 e j (.inr hj) with h | h
 ·exact absurd (key i i o (Z4 _) ho hon j h) hnj
 ·exact h
section
variable {c:ct}
theorem Ux{K:ab→Prop}{hs:List FuncId}{au:ec}{bl:Array Oper}{Q:Exit→Act→World→Prop}{o:Oper}{g:ay}{rest:List ay}{A:ab}{a:Act}{w:World}{Kw:Act→World→Prop}(hg:lr c.P c.n bl o=some g)(hi:dL au A)(ho:sZ g.op=true∧im au g=true)(hwp:bQ c.P c.Y hs K (ar (g::rest) A))(hs':bD c A a w)
  (hK:∀ B a' w',bQ c.P c.Y hs K (ar rest B)→dL au B→bD c B a' w'→Kw a' w'):if Region.wanted o (yielded bl a.tmps) then o.wpIn c.bm 9 c.P a w Kw Q else (∀ f,o.about c.P w a.eval=some f→c.bm.fn f)∧Kw (a.put o.dst undef) w:=by
 obtain ⟨h1,h2,h3,h4⟩:=oc hg;have step:bQ c.P c.Y hs K (aW A g.dst g.op rest (ar rest))→o.wpIn c.bm 9 c.P a w Kw Q:=fun h =>
  r8 h1 h2.symm (by rw[h2];exact h3) (bQ.one (Y:=c.Y) hi ho.1 ho.2 h) hs' (fun B a' w' hw hs2=>by
   cases hw with
   |done hk=>exact hK B a' w' hk.1 hk.2 hs2)
 simp only[ar] at hwp;rcases h4 with ⟨h5,h6⟩ | ⟨j,b,t,h5,h6,h7⟩
 ·rw[h6] at hwp;have hw:Region.wanted o (yielded bl a.tmps)=true:=by simp[Region.wanted,h5]
  rw[hw,if_pos rfl];exact step hwp
 ·rw[h7] at hwp;simp only at hwp;split at hwp
  ·rename_i b' hb';rw[sf hs' h5 h6 hb'];split at hwp
   ·rename_i hbb;subst hbb;simp only[BEq.rfl,if_true];exact step hwp
   ·rename_i hbb;have:(b'==b)=false:=by simpa using hbb
    rw[this];simp only[Z6,if_false];exact ⟨fun f _=>lz c f,hK _ _ _ hwp (hi.put (fun _=>rfl) fun _ _ _ _=>rfl) (by rw[h2];exact hs'.mw h3)⟩
  ·rename_i hb';rw[sg hs' h5 h6 hb'];simp only[Z6,if_false];exact ⟨fun f _=>lz c f,hK _ _ _ hwp (hi.put (fun _=>rfl) fun _ _ _ _=>rfl) (by rw[h2];exact hs'.mw h3)⟩
  ·cases hwp
theorem GJ{K:ab→Prop}{fs:List FuncId}{au:ec}{bl:Array Oper}{gs:List ay}{σ:List Nat}{Q:Exit→Act→World→Prop}(hQ:∀ B a w,K B→bD c B a w→Q .normal a w)(hgs:fJ c.P c.n bl bl.toList=some gs)(hd:yi fs au bl.toList gs σ) :
  ∀ (fuel:Nat) (listed:Array Bool) (A:ab) (a:Act) (w:World),listed.size=bl.size→(∀ i o,bl.toList[i]?=some o→listed.getD i false=true→∀ k∈dP o,listed.getD k false=true)→(iu σ listed).length≤fuel →
   dL au A→bQ c.P c.Y fs K (ar (nr gs σ listed) A)→bD c A a w→wpAnyIn c.bm 9 c.P .any bl Q fuel listed a w:=by
 obtain ⟨hlen,hat⟩:=l8 hgs;have onOf_mem:∀ (o:Oper) (e:Edge),e∈o.after→Region.binds .any e=true→e.on∈dP o:=fun o e he hb=>by
  simp only[dP,zy3,List.mem_filter];exact ⟨e,⟨by simpa using he,hb⟩,rfl⟩
 have of_onOf:∀ (o:Oper) (k:Nat),k∈dP o→∃ e∈o.after,Region.binds .any e=true∧e.on=k:=fun o k hk=>by
  simp only[dP,zy3,List.mem_filter] at hk;obtain ⟨e,⟨h1,h2⟩,h3⟩:=hk;exact ⟨e,by simpa using h1,h2,h3⟩
 have hgl:gs.length=bl.size:=by rw[hlen,zy4]
 have last:∀ (listed:Array Bool) (A:ab) (a:Act) (w:World),listed.size=bl.size→Region.ready .any bl listed=[]→bQ c.P c.Y fs K (ar (nr gs σ listed) A)→bD c A a w→Q .normal a w:=by
  intro listed A a w hsz hr hwp hs;have hnone:iu σ listed=[]:=by
   have all:∀ n,∀ i,i<n→i<bl.size→listed.getD i true=true:=by
    intro n
    induction n with
    |zero=>intro i hi;omega
    |succ n ih =>
     intro i hi his;cases hb:listed.getD i true with
     |true=>rfl
     |false =>
      exfalso
      have ho:bl[i]?=some bl[i]:=zx7 his;have:i∈Region.ready .any bl listed:=mem_ready.2 ⟨hb,bl[i],ho,fun e he hbd=>by
       have hlt:=hd.ln i bl[i] (by simp) e.on (onOf_mem _ e he hbd);have h1:=ih e.on (by omega) (by omega);have h2:e.on<listed.size:=by omega
       simpa[Array.getD_eq_getD_getElem?,h2] using h1⟩
      rw[hr] at this;cases this
   simp only[iu];refine List.filter_eq_nil_iff.2 fun i hi =>?_;have:=all (i+1) i (by omega) (by rw[←hgl];exact hd.lt i hi);simp only[this,Bool.not_true,Z6,not_false_eq_true]
  simp only[nr,hnone,zz6,ar] at hwp;cases hwp with
  |done hk=>exact hQ A a w hk hs
 intro fuel
 induction fuel with
 |zero =>
  intro listed A a w hsz hcl hcnt hinv hwp hs;have hnone:iu σ listed=[]:=List.length_eq_zero_iff.1 (by omega);have hr:Region.ready .any bl listed=[]:=by
   refine List.eq_nil_iff_forall_not_mem.2 fun i hi =>?_;obtain ⟨h1,o,ho,_⟩:=mem_ready.1 hi;have:i∈iu σ listed:=by
    simp only[iu,List.mem_filter,h1,Bool.not_false,and_true];exact hd.all i (by rw[hgl];exact (zz4.1 ho).1)
   rw[hnone] at this;cases this
  exact ⟨hr,last listed A a w hsz hr hwp hs⟩
 |succ fuel ih =>
  intro listed A a w hsz hcl hcnt hinv hwp hs;refine ⟨fun hr=>last listed A a w hsz hr hwp hs,fun i hi =>?_⟩;obtain ⟨hun,o,ho,hall⟩:=mem_ready.1 hi;have hin:i<bl.size:=(zz4.1 ho).1;obtain ⟨s1,s2,hσ,e1,e2⟩:=YC hd.WX (hd.all i (by omega)) (by omega) hun;have hol:bl.toList[i]?=some o:=by simpa using ho
  obtain ⟨g,hgi,hcg⟩:=hat i o hol;have hon:∀ k∈dP o,listed.getD k false=true:=fun k hk=>by
   obtain ⟨e,h1,h2,h3⟩:=of_onOf o k hk;exact h3▸hall e h1 h2
  have hgd:gs.getD i default=g:=by simp[zz5,hgi]
  have hwp':bQ c.P c.Y fs K (ar (g::nr gs σ (listed.setIfInBounds i true)) A):=by
   simp only[nr,e1,zy7,Z3,hgd] at hwp;simp only[nr,e2,zy7];refine bQ.pO hinv (fun j hj =>?_) hwp;obtain ⟨k,hk,rfl⟩:=zy3.1 hj;obtain ⟨hk1,hk2⟩:=List.mem_filter.1 hk;have:=hd.vG (fun k=>listed.getD k false=true) hcl s1 i s2 o hσ hol hon k hk1 (by
    have hks:k<listed.size:=by
     have:=hd.lt k (by rw[hσ];exact List.mem_append_left _ hk1);omega
    simp[Array.getD_eq_getD_getElem?,hks] at hk2 ⊢;exact hk2)
   rw[hgd] at this;refine ⟨this,(hd.ok _ ?_).2⟩;have hkl:=hd.lt k (by rw[hσ];exact List.mem_append_left _ hk1);rw[zz5,zz2 hkl];exact zw0 _
  unfold wpOpIn;rw[ho];refine Ux hcg hinv (hd.ok g (List.mem_of_getElem? hgi)) hwp' hs fun B a' w' hw hiB hs'=>ih _ B a' w' (by simpa using hsz) ?_ ?_ hiB hw hs'
  ·intro m om hom hm k hk;by_cases hmi:m=i
   ·subst hmi;rw[hol,v6] at hom;subst hom;exact getD_set_true (hon k hk)
   ·rw[getD_set_ne false (Ne.symm hmi)] at hm;exact getD_set_true (hcl m om hom hm k hk)
  ·have:(iu σ listed).length=(iu σ (listed.setIfInBounds i true)).length+1:=by
    rw[e1,e2];simp;omega
   omega
def kK(σ:List Nat)(gs:List ay):List ay:=σ.map fun i=>gs.getD i default
theorem U.Yz{Q:Exit→ab→Prop}{A:ab}{on:List (List Nat)}{gs:List ay}(hs:List FuncId)(au:ec)(cl σ:List Nat)(hd:ta hs au on gs cl σ=true)(hi:dL au A)(h:∀ K:ab→Prop,(∀ B,Q .normal B→K B)→bQ c.P c.Y hs K (ar (kK σ gs) A)):U c (.b7 (some on) gs) Q A:=by
 intro code hc a w hs';cases code <;>simp only[dR] at hc <;>try (first | (cases hc;done) | ((repeat' split at hc) <;>cases hc;done))
 rename_i id bl draw;split at hc
 ·rename_i gs' hgs;split at hc
  case isFalse=>cases hc
  rename_i hok;simp only[v6,bj.b7.injEq] at hc;obtain ⟨he,rfl⟩:=hc;cases draw with
  |false=>cases he
  |true =>
   simp only[cond_true,v6] at he;subst he;simp only[Bool.not_true,Bool.false_or] at hok;have hp:=X3 (l8 hgs).1 hd;refine wpIn_region_any hok (GJ (K:=Q .normal) (fun B a w hk hs=>⟨B,hk,hs⟩) hgs hp bl.size (Array.replicate bl.size false) A a _ (by simp) ?_ ?_ hi ?_ ?_)
   ·intro i o _ h
    exfalso
    simp only[Array.getD_eq_getD_getElem?,Array.getElem?_replicate] at h;split at h <;>simp at h
   ·refine Nat.le_trans (List.length_filter_le _ _) ?_;rw[hp.len,(l8 hgs).1,zy4];exact Z4 _
   ·have hall:iu σ (Array.replicate bl.size false)=σ:=by
     simp only[iu];refine List.filter_eq_self.2 fun i hi =>?_;have h1:=hp.lt i hi;rw[(l8 hgs).1,zy4] at h1;simp[h1]
    simp only[nr,hall];exact h _ fun _ hb=>hb
   ·obtain ⟨D,E,hs'⟩:=hs';exact ⟨D,E,hs'.grow (w' := { w with drawn:=w.drawn+1 }) ⟨rfl,rfl,rfl,Z4 _,fun _ _=>rfl⟩ (fun _ _ h=>h) (fun _ _ h _=>h) (fun b o h=>hs'.cN b o h)⟩
 ·cases hc
def jT(ts:List (Nat×I)):ec→Prop
 | []=>True
 |(s,ns)::au=>(bM ts s).only (fun n=>ns.contains n)=true∧jT ts au
theorem dL.of{ts:List (Nat×I)}{os:List (Nat×ai)}{au:ec}(h:jT ts au):dL au (aq ts os):=by
 intro s ns hn;simp only[aq]
 induction au with
 |nil=>cases hn
 |cons q au ih =>
  obtain ⟨s',ns'⟩:=q;simp only[jT] at h;simp only[gV,List.find?_cons] at hn;split at hn
  ·rename_i e;simp only[zz0,v6] at hn;simp only[beq_iff_eq] at e;subst e hn;exact h.1
  ·exact ih h.2 hn
end
end Go.Abs
namespace Go.Abs
open Go Go.RowKit
open Enc (enc)
theorem Y0{P:Program}(w:World)(tS tR e:TypeId)(ht:P.underlying tS=some (.slice e))(size:Nat)(hz:∀ w,(Go.sizeOf e).run P w=.ok size w)
  (a b:Addr) (la ca lb cb:Nat) (hne:a.block≠b.block) (tA tB:TypeId) (kA kB:Nat) (hsa:w.shape? a.block=some (tA,kA+1)) (hsb:w.shape? b.block=some (tB,kB+1)) (hfb:w.frozen? b=false) (hfe:w.frozen? { block:=b.block,off:=kB+1 } = false) :
  (Extern.SlicesOverlaps.overlaps #[tS,tS] #[tR] #[.slice (some a) la ca,.slice (some b) lb cb]).run P w=.ok (.bool false) w:=by
 have hnb:(a.block != b.block)=true:=by simpa using hne
 have hnb':(a.block==b.block)=false:=by simpa using hne
 change Sem.run P (α:=Value) (do
  let some t := (#[tS, tS] : Array TypeId)[0]? | stuck "slices.overlaps: no parameter types"
  let .slice elem ← underlying t | stuck "slices.overlaps: slice type expected"
  let size ←sizeOf elem
  match (some a:Option Addr),(some b:Option Addr) with
  |some a,some b =>
   if la=0∨lb=0∨size=0 then pure (Value.bool false)
   else if a.block != b.block&&(←frozen a)&&(←frozen b) then unsupported .addressObserved
   else do
    if a.block != b.block then do
     noView a;noView b
     if ← mayBeOne a b then return Value.bool ((← choose (.extern "sameAddr.stringBytes" 2)) == 1)
    pure (Value.bool (a.block==b.block&&a.off<b.off+lb*size&&b.off<a.off+la*size))
  |_,_=>pure (Value.bool false)) w=_
 by_cases h0:la=0∨lb=0∨size=0
 ·simp[run_underlying ht,hz,h0]
 ·cases hfa:w.frozen? a <;>cases hfk:w.frozen? { block:=a.block,off:=kA+1 } <;>
   simp[run_underlying ht,hz,h0,hnb,hnb',frozen,noView,viewAt,mayBeOne,stringish,shape,Sem.run,hsa,hsb,hfa,hfb,hfe,hfk]
theorem ED{P:Program}(w:World)(tS tR e:TypeId)(ht:P.underlying tS=some (.slice e))(size:Nat)(hz:∀ w,(Go.sizeOf e).run P w=.ok size w)(a:Option Addr)(b:Addr)(ca lb cb:Nat) :
  (Extern.SlicesOverlaps.overlaps #[tS,tS] #[tR] #[.slice a 0 ca,.slice (some b) lb cb]).run P w=.ok (.bool false) w:=by
 cases a with
 |none =>
  change Sem.run P (α:=Value) (do
   let some t := (#[tS, tS] : Array TypeId)[0]? | stuck "slices.overlaps: no parameter types"
   let .slice elem ← underlying t | stuck "slices.overlaps: slice type expected"
   let size ←sizeOf elem
   pure (Value.bool false)) w=_
  simp[run_underlying ht,hz]
 |some a =>
  change Sem.run P (α:=Value) (do
   let some t := (#[tS, tS] : Array TypeId)[0]? | stuck "slices.overlaps: no parameter types"
   let .slice elem ← underlying t | stuck "slices.overlaps: slice type expected"
   let size ←sizeOf elem
   if (0:Nat)=0∨lb=0∨size=0 then pure (Value.bool false)
   else if a.block != b.block&&(←frozen a)&&(←frozen b) then unsupported .addressObserved
   else do
    if a.block != b.block then do
     noView a;noView b
     if ← mayBeOne a b then return Value.bool ((← choose (.extern "sameAddr.stringBytes" 2)) == 1)
    pure (Value.bool (a.block==b.block&&a.off<b.off+lb*size&&b.off<a.off+0*size))) w=_
  simp[run_underlying ht,hz]
theorem Za{w:World}{b o:Nat}{v:Value}(h:w.cell? ⟨b,o,none⟩=some v):∃ t k,w.shape? b=some (t,k+1):=by
 simp only[World.cell?] at h;cases hb:w.heap[b]? with
 |none=>rw[hb] at h;cases h
 |some ob =>
  rw[hb] at h;cases ob with
  |cells cs T fr =>
   simp only at h;have hlt:o<cs.size:=(zz4.1 (by simpa using h)).1;exact ⟨T,cs.size-1,by simp only[World.shape?,hb];congr 2;omega⟩
  |_=>cases h
theorem A5{α:Type}[Enc α]{xs:List α}(h:xs≠[])(hs:(Enc.aL α).BN=false):(I.agg (xs.map Enc.enc)).aL.flat=false:=by
 cases xs with
 |nil=>exact absurd rfl h
 |cons x xs=>simp only[Z3,I.aL,I.cK,bR.flat,List.all_cons,Enc.iP,hs,Bool.false_and]
theorem ZM {P : Program} {f : FuncId} {fn : Func} {tS tR e : TypeId} (hf : P.funcs[f]? = some fn) (hname : (fn.name == "runtime.NumGoroutine") = false) (hb : fn.body.isNone = true) (hn : Extern.findNext fn = none) (he : Extern.find fn = some (Extern.SlicesOverlaps.overlaps #[tS, tS] #[tR]))
  (ht:P.underlying tS=some (.slice e)) (hi:(P.info? e).isSome=true) {A:ab} {n sz sz' lo k:Nat} {p:List Nat} {y:I} {es fs:List I} (hA:A.o n=some (.box y)) (hat:y.at p=some (.agg fs)) (hy:y.size≠0) (hsz:sz'≠0) (hfl:y.aL.flat=false):yl P A f [.slice sz' es,.view n p sz lo k] (.bool false):=by
 intro c a w D E vs hP hs hargs;subst hP;obtain ⟨i,hi⟩:=zz8.1 hi;have hz:∀ w,(Go.sizeOf e).run c.P w=.ok i.size w:=fun w=>by simp[sizeOf,typeInfo,hi]
 cases hargs with
 |cons h1 hrest =>
  cases hrest with
  |cons h2 hnil =>
   cases hnil;rename_i v1 v2;refine ⟨.bool false,?_,kF false⟩;rw[run_callFunc_extern hf hname hb hn he];obtain ⟨ad,cap,rfl,c1,c2,c3,c4⟩:=kR h1;obtain ⟨y',b,cs,T,off,d1,d2,d3,q1,q2,q3,q4,q5,q6,q7,q8,q9,q10,q11,q12,rfl⟩:=hs.view (fs:=fs) h2 (by simp only[bW,hA,hat]);rw[hA] at q1;simp only[v6,ai.box.injEq] at q1;subst q1;rcases c3 with rfl | ⟨b1,off1,cs1,rfl,r1,iL⟩
   ·rw[zy9,ED w tS tR e ht i.size hz];rfl
   ·cases es with
    |nil=>rw[zy9,ED w tS tR e ht i.size hz];rfl
    |cons e0 es =>
     have hl:=aC.length _ _ iL;have he0:=c4 e0 (by simp);have hpos:0<cs1.length:=by rw[hl];simp only[I.sizes];omega
     have hc:=r1 0 cs1[0] (zz2 hpos);obtain ⟨tA,kA,hsa⟩:=Za hc.1;have ho:=hs.bB n;rw[hA] at ho;obtain ⟨b',cs',T',k1,k2,k3,k4,k5⟩:=ho;rw[q2] at k1;simp only[v6,bx.aI.injEq,and_true] at k1;subst k1;have hne:b1≠b:=fun e1=>k5 _ (e1▸hc.2);have hcs:cs.size≠0:=by
      have:=ae.length _ _ q9;rw[zy4] at this;omega
     replace q3:=q3.plain hfl
     obtain ⟨kB,hkB⟩:∃ kB,cs.size=kB+1:=⟨cs.size-1,by omega⟩
     rw[Y0 w tS tR e ht i.size hz ⟨b1,off1,none⟩ ⟨b,off+lo*sz,none⟩ _ _ _ _ hne tA T kA kB hsa (by simp only[World.shape?,q3,hkB]) (by simp[World.frozen?,q3]) (by simp[World.frozen?,q3])];rfl
noncomputable def uv(A:ab)(d:Option Nat)(esz bytes:Nat)(z s:I)(rest:List ay):I→cg
 | .int _ m=>pJ A d esz bytes z m.toNat s (cW A esz s) (ar rest)
 |_=>.fail
theorem W7(A:ab)(d:Option Nat)(rest:List ay)(e esz bytes:Nat)(z:I)(s n:az):bo A d (.jI e esz bytes z s n) rest=uv A d esz bytes z (af A s) rest (af A n):=by
 simp only[bo,aW];cases af A n <;>rfl
theorem XI(A:ab)(d:Option Nat)(rest:List ay)(f:FuncId)(args:List az):bo A d (.gM f args) rest=.gM f (args.map (af A)) d rest A:=rfl
def rL(A:ab):I→Option I
 | .nils _ | .c0 _=>some (.int .i64 ((0:Nat):Int))
 | .view n p _ lo _=>match ev (dF p (A.o n)) with
  |some fs=>some (.int .i64 ((fs.length-lo:Nat):Int))
  |none=>none
 |_=>none
theorem Xe(A:ab)(d:Option Nat)(rest:List ay)(x:az):bo A d (.cap x) rest=cq (rL A (af A x)) (cF d rest A):=by
 simp only[bo,aW,aV];cases af A x <;>try rfl
 rename_i n p sz l0 k;simp only[rL,jN,fO];cases dF p (A.o n) with
 |none=>rfl
 |some c=>cases c <;>rfl
theorem ml(A:ab)(d:Option Nat)(rest:List ay)(esz:Nat)(x y:az):bo A d (.gp esz x y) rest=kp A d esz (ar rest) (af A x) (kc A esz (af A y)):=rfl
section
variable {α:Type} [Enc α] {P:Program} {Y:Value→List I→List (Nat×ai)→cj→Prop} {K:ab→Prop} {A:ab} {rest:List ay} {esz bytes:Nat}
theorem IV{n lo k sz:Nat}{xs:List α}(ho:A.o n=some (.box (.agg (xs.map enc)))):rL A (.view n [] sz lo k)=some (.int .i64 ((xs.length-lo:Nat):Int)):=by
 have h2:(I.agg (xs.map (enc (α:=α)))).at []=some (.agg (xs.map enc)):=rfl;simp only[rL,dF,ho,h2,ev,I.dc,Z2]
theorem nJ{n lo k:Nat}{xs:List α}(ho:A.o n=some (.box (.agg (xs.map enc))))(h:lo+k≤xs.length):cW A esz (.view n [] esz lo k)=some (((xs.drop lo).take k).map enc):=by
 have h1:bW A (.ptr n [])=some (.agg (xs.map enc)):=by simp only[bW,ho];rfl
 simp only[cW,h1,Z2];rw[if_pos ⟨h,trivial⟩,List.map_take,List.map_drop]
theorem xh{xs ys:List α}(h:xs.length=ys.length):I.cK (xs.map enc)=I.cK (ys.map enc):=by
 rw[xi,xi,h]
theorem og{d:Option Nat}{n lo l c:Nat}{xs ys:List α}(ho:A.o n=some (.box (.agg (xs.map enc))))(hl:lo+l≤xs.length)(hc:min ys.length l=c) :
  kp A d esz (ar rest) (.view n [] esz lo l) (some (ys.map enc))=ar rest ((A.aQ n (.box (.agg ((xs.take lo++(ys.take c++xs.drop (lo+c))).map enc)))).aP d (.int .i64 (c:Nat))):=by
 have h2:(I.agg (xs.map (enc (α:=α)))).at []=some (.agg (xs.map enc)):=rfl;have h1:I.cK ((ys.map (enc (α:=α))).take c)=I.cK (((xs.map (enc (α:=α))).drop lo).take c):=by
  rw[←List.map_take,←List.map_drop,←List.map_take];exact xh (by rw[zz1,zz1,List.length_drop];omega)
 have hc':min (ys.map (enc (α:=α))).length l=c:=by rw[Z2];exact hc
 simp only[kp,ho,h2,hc'];rw[if_pos ⟨rfl,by rw[hc'];exact h1⟩];have h3:((ys.map (enc (α:=α))).take c).length=c:=by rw[zz1,Z2];omega
 simp only[iw,fM,h3,zy7,List.map_take,List.map_drop]
theorem aY.GX{d:Nat}(z:α)(hs:Enc.sz α=esz){n l m:Nat}{xs:List α}(ho:A.o n=some (.box (.agg (xs.map enc))))(hl:l≤xs.length)(hm:0<m)(hr:xs.length<l+m)(hf:A.o d=none)(hb:(l+m)*bytes≤140737488355328)(hml:l+m≤maxLen)
  (h:∀ q,aY P Y false K (ar rest ((A.aQ d (.box (.agg ((xs.take l++(List.replicate m z++List.replicate q z)).map enc)))).aP (some d) (.view d [] esz 0 (l+m))))):aY P Y false K (uv A (some d) esz bytes (enc z) (.view n [] esz 0 l) rest (.int .i64 (m:Nat))):=by
 have h1:=nJ (A:=A) (esz:=esz) (lo:=0) (k:=l) ho (by omega);have h2:(I.agg (xs.map (enc (α:=α)))).at []=some (.agg (xs.map enc)):=rfl;have h4:(xs.take l).length=l:=by rw[zz1];omega
 simp only[uv,h1,List.drop_zero,pJ,ho,h2,Z2,Int.toNat_natCast];rw[if_pos ⟨hm,by omega⟩];simp only[fh,hf,Z2,h4,List.length_replicate];rw[if_pos ⟨hb,hml⟩];refine .any rfl fun q _ =>?_;have:=h q;simp only[zy7,List.map_replicate] at this;exact this
theorem yu{d:Option Nat}{e:Nat}(z:I)(hs:Enc.sz α=esz){n l:Nat}{xs ys:List α}(hy:ys≠[])(ho:A.o n=some (.box (.agg (xs.map enc))))(hr:l+ys.length≤xs.length) :
  eY A d e esz bytes z (enc ys) rest (.view n [] esz 0 l)=ar rest ((A.aQ n (.box (.agg ((xs.take l++(ys++xs.drop (l+ys.length))).map enc)))).aP d (.view n [] esz 0 (l+ys.length))):=by
 have h1:=nJ (A:=A) (esz:=esz) (lo:=0) (k:=l) ho (by omega);have h2:(I.agg (xs.map (enc (α:=α)))).at []=some (.agg (xs.map enc)):=rfl;have h3:I.cK (ys.map (enc (α:=α)))=I.cK (((xs.map (enc (α:=α))).drop l).take ys.length):=by
  rw[←List.map_drop,←List.map_take];exact xh (by rw[zz1,List.length_drop];omega)
 simp only[eY,h1,kT A esz ys hs,ed];rw[if_neg (by simpa using hy)];simp only[ho,h2,Z2,Z5];rw[if_pos hr,if_pos ⟨rfl,by rw[Z2,Z5];exact h3⟩];simp only[iw,fM,Z2,zy7,List.map_take,List.map_drop]
theorem aY.GN{d e:Nat}(z:α)(hs:Enc.sz α=esz){n l:Nat}{xs ys:List α}(hy:ys≠[])(ho:A.o n=some (.box (.agg (xs.map enc))))(hl:l≤xs.length)(hr:xs.length<l+ys.length)(hf:A.o d=none)(hb:(l+ys.length)*bytes≤140737488355328)(hml:l+ys.length≤maxLen)
  (h:∀ q,aY P Y false K (ar rest ((A.aQ d (.box (.agg ((xs.take l++(ys++List.replicate q z)).map enc)))).aP (some d) (.view d [] esz 0 (l+ys.length))))):aY P Y false K (eY A (some d) e esz bytes (enc z) (enc ys) rest (.view n [] esz 0 l)):=by
 have h1:=nJ (A:=A) (esz:=esz) (lo:=0) (k:=l) ho (by omega);have h2:(I.agg (xs.map (enc (α:=α)))).at []=some (.agg (xs.map enc)):=rfl;have h4:(xs.take l).length=l:=by rw[zz1];omega
 simp only[eY,h1,List.drop_zero,kT A esz ys hs,ed];rw[if_neg (by simpa using hy)];simp only[ho,h2,Z2,Z5];rw[if_neg (by omega)];simp only[fh,hf,Z2,h4];rw[if_pos ⟨hb,hml⟩];refine .any rfl fun q _ =>?_;have:=h q;simp only[zy7,List.map_replicate] at this;exact this
theorem aY.GO{d e q0:Nat}(z:α){l:List α}(hs:Enc.sz α=esz)(hl:l≠[])(hf:A.o d=none)(hb:l.length*bytes≤140737488355328)(hml:l.length≤maxLen)
  (h:∀ m,aY P Y false K (ar rest ((A.aQ d (.box (.agg ((l++List.replicate m z).map enc)))).aP (some d) (.view d [] esz 0 l.length)))):aY P Y false K (eY A (some d) e esz bytes (enc z) (enc l) rest (.nils q0)):=by
 have hne:l.map (enc (α:=α))≠[]:=by simpa using hl
 have h1:cW A esz (.nils q0)=some []:=rfl;simp only[eY,h1,kT A esz l hs,ed,if_neg hne,fh,hf,zy9,Z5,Z2,if_pos (y6 hb hml),zz3];refine .any rfl fun m _ =>?_;have:=h m;simp only[zy7,List.map_replicate] at this;exact this
end
theorem Zd{n:Nat}{p:List Nat}{sz k total i:Nat}(h:i≤k)(hk:k≤total):∃ y,iR n p sz 0 k total (some (.int .i64 i)) none none=some y:=by
 simp only[iR,hG];rw[if_pos ⟨by omega,by omega,by omega⟩];split <;>exact ⟨_,rfl⟩
theorem Cc(k:Nat):bM [] k=.cY:=rfl
def gv(au:List Nat):List (Nat×I)→List (Nat×I)
 | []=>[]
 |(s,v)::ts=>if au.contains s=true then (s,v)::gv au ts else gv au ts
theorem V6(au:List Nat):gv au []=[]:=rfl
theorem V5(au:List Nat)(s:Nat)(v:I)(ts:List (Nat×I)):gv au ((s,v)::ts)=if au.contains s=true then (s,v)::gv au ts else gv au ts:=rfl
theorem Cb(au:List Nat)(t:Nat):∀ ts,bM (gv au ts) t=.cY∨bM (gv au ts) t=bM ts t
 | []=>.inl rfl
 |(s,v)::ts=>by
  simp only[gv];have ih:=Cb au t ts;by_cases hs:au.contains s=true
  ·rw[if_pos hs];simp only[bM];split
   ·exact .inr rfl
   ·exact ih
  ·rw[if_neg hs];simp only[bM];split
   ·rename_i e;subst e
    left
    have:∀ ts,bM (gv au ts) t=.cY:=by
     intro ts
     induction ts with
     |nil=>rfl
     |cons q ts ih2 =>
      obtain ⟨s',v'⟩:=q;simp only[gv];split
      ·rename_i h';simp only[bM];have:t≠s':=fun e=>hs (e▸h');rw[if_neg this];exact ih2
      ·exact ih2
    exact this ts
   ·exact ih
theorem U.qj(au:List Nat){c:ct}{x:bj}{Q:Exit→ab→Prop}{ts:List (Nat×I)}{os:List (Nat×ai)}(h:U c x Q (aq (gv au ts) os)):U c x Q (aq ts os):=by
 refine U.sub ?_ h;rintro cc a w ⟨D,E,hs⟩;refine ⟨D,E,hs.sz,hs.dT,fun t =>?_,hs.db,hs.cH,hs.cN,hs.bB,hs.cw,hs.dp,hs.ee,hs.cz,hs.eF,hs.fe⟩;simp only[aq];rcases Cb au t ts with e | e
 ·rw[e];simp[aR]
 ·rw[e];exact hs.dv t
theorem BP:(∀ au,gv au []=[])∧(∀ au s v ts,gv au ((s,v)::ts)=if au.contains s=true then (s,v)::gv au ts else gv au ts)∧(∀ (a:Nat) l b,(a::l).contains b=(b==a||l.contains b))∧(∀ b:Nat,([]:List Nat).contains b=false)∧(∀ b,(false||b)=b)∧(∀ b,(true||b)=true)∧(∀ b,(b||true)=true)∧(∀ b,(b||false)=b)∧((false=true)=False) :=
 ⟨V6,V5,fun _ _ _=>List.contains_cons,fun _=>rfl,fun _=>rfl,fun _=>rfl,fun b=>by cases b <;>rfl,fun b=>by cases b <;>rfl,by simp⟩
end Go.Abs
namespace Go.Abs
open Go Go.RowKit
open Enc (enc)
def vX:Option ai→Option (List I×List I)
 |some (.cm ks vs)=>some (ks,vs)
 |_=>none
noncomputable def we(A:ab)(n:Nat)(rest:List ay):Option (List I×List I)→cg
 |some (ks,vs)=>ar rest (A.aQ n (.cm ks vs))
 |none=>.fail
noncomputable def wc(A:ab)(n:Nat)(ty:cn)(k v:I)(rest:List ay):Option ai→cg
 |some (.cm ks vs)=>we A n rest (qv ty k v ks vs)
 |_=>.fail
noncomputable def wb(A:ab)(ty:cn)(k v:I)(rest:List ay):I→cg
 | .mref n=>wc A n ty k v rest (A.o n)
 |_=>.fail
noncomputable def wa(A:ab)(d:Nat)(rest:List ay):Option ai→cg
 |none=>ar rest ((A.aQ d (.cm [] [])).put d (.mref d))
 |some _=>.fail
open Classical in
noncomputable def sO(A:ab)(d bytes:Nat)(z:I)(rest:List ay):I→cg
 | .int _ n=>if 0≤n∧n.toNat*bytes≤281474976710656∧n.toNat≤maxLen then ar rest ((A.aQ d (.box (.agg (List.replicate n.toNat z)))).put d (.view d [] 1 0 n.toNat)) else .fail
 |_=>.fail
noncomputable def sN(A:ab)(d bytes:Nat)(z n:I)(rest:List ay):Option ai→cg
 |none=>sO A d bytes z rest n
 |some _=>.fail
noncomputable def wW(A:ab)(d:Nat)(rest:List ay):I→cg
 | .c6 ks vs=>ar rest ((A.aQ d (.it ks vs (List.range ks.length) none)).put d (.cX d))
 |_=>.fail
noncomputable def tu(A:ab)(d:Nat)(x:I)(rest:List ay):Option ai→cg
 |none=>wW A d rest x
 |some _=>.fail
def u6:Option ai→Option I
 |some (.it ks vs _ cur)=>rV ks vs cur
 |_=>none
def u5(A:ab):I→Option I
 | .cX n=>u6 (A.o n)
 |_=>none
open Classical in
noncomputable def Cn(A:ab)(d:Option Nat)(n:Nat)(rest:List ay):Option ai→cg
 |some (.it ks vs left _)=>if left=[] then ar rest (A.aP d (.tuple [.bool false])) else
   .any (fun i=>i∈left) fun i=>match ks[i]?,vs[i]? with
    |some kk,some x=>ar rest ((A.aQ n (.it ks vs (left.filter (· != i)) (some i))).aP d (.tuple [.bool true,kk,x]))
    |_,_=>.fail
 |_=>.fail
noncomputable def wh(A:ab)(d:Option Nat)(rest:List ay):I→cg
 | .cX n=>Cn A d n rest (A.o n)
 |_=>.fail
section
variable (d:Option Nat) (rest:List ay) (A:ab)
theorem Xy(x:az):bo A d (.nilC x) rest=cq (na (af A x)) (cF d rest A):=rfl
theorem XC(neg:Bool)(x y:az):bo A d (.ptrE neg x y) rest=cq (mu neg (ij (af A x)) (ij (af A y))) (cF d rest A):=rfl
theorem Xs(ty:cn)(z:I)(ok:Bool)(m k:az):bo A d (.lk ty z ok m k) rest=cq (qm ty z ok (af A k) (gb A (af A m))) (cF d rest A):=rfl
theorem WG(n:Nat):gb A (.mref n)=vX (A.o n):=by
 simp only[gb];cases A.o n with
 |none=>rfl
 |some y=>cases y <;>rfl
theorem Xw(ty:cn)(m k v:az):bo A none (.jY ty m k v) rest=wb A ty (af A k) (af A v) rest (af A m):=by
 simp only[bo,aW];cases af A m <;>rfl
theorem Xu(d:Nat):bo A (some d) .kG rest=wa A d rest (A.o d):=by
 simp only[bo,aW];cases A.o d <;>rfl
theorem Xv(d e bytes:Nat)(z:I)(n:az):bo A (some d) (.jz e bytes z n) rest=sN A d bytes z (af A n) rest (A.o d):=by
 simp only[bo,aW];cases A.o d with
 |some _=>rfl
 |none=>simp only[sN];cases af A n <;>rfl
theorem XD(d:Nat)(x:az):bo A (some d) (.ka x) rest=tu A d (af A x) rest (A.o d):=by
 simp only[bo,aW];cases A.o d with
 |some _=>rfl
 |none=>simp only[tu];cases af A x <;>rfl
theorem Xh(x:az):bo A d (.ent x) rest=cq (u5 A (af A x)) (cF d rest A):=by
 simp only[bo,aW,aV];cases af A x <;>rfl
theorem XA(x:az):bo A d (.jZ x) rest=wh A d rest (af A x):=by
 simp only[bo,aW];cases af A x <;>rfl
end
theorem sH :
  (∀ d rest A x,bo A d (.nilC x) rest=cq (na (af A x)) (cF d rest A))∧(∀ n p,na (.ptr n p)=some (.ptr n p))∧(∀ x,na (.ref x)=some (.ref x)) ∧
  (∀ d rest A neg x y,bo A d (.ptrE neg x y) rest=cq (mu neg (ij (af A x)) (ij (af A y))) (cF d rest A))∧(ij .nilp=some true)∧(∀ n p,ij (.ptr n p)=some false)∧(∀ x,ij (.ref x)=some false) ∧
  (mu false (some true) (some true)=some (.bool true))∧(mu false (some false) (some true)=some (.bool false))∧(mu true (some true) (some true)=some (.bool false))∧(mu true (some false) (some true)=some (.bool true)) ∧
  (∀ d rest A ty z ok m k,bo A d (.lk ty z ok m k) rest=cq (qm ty z ok (af A k) (gb A (af A m))) (cF d rest A))∧(∀ A n,gb A (.mref n)=vX (A.o n))∧(∀ A ks vs,gb A (.c6 ks vs)=some (ks,vs))∧(∀ ks vs,vX (some (.cm ks vs))=some (ks,vs)) ∧
  (∀ ty z ok k ks vs,qm ty z ok k (some (ks,vs))=qn ok (qo ty z k ks vs))∧(∀ v b,qn false (some (v,b))=some v)∧(∀ v b,qn true (some (v,b))=some (.tuple [v,.bool b])) ∧
  (∀ rest A ty m k v,bo A none (.jY ty m k v) rest=wb A ty (af A k) (af A v) rest (af A m))∧(∀ A ty k v rest n,wb A ty k v rest (.mref n)=wc A n ty k v rest (A.o n))∧(∀ A n ty k v rest ks vs,wc A n ty k v rest (some (.cm ks vs))=we A n rest (qv ty k v ks vs)) ∧
  (∀ A n rest ks vs,we A n rest (some (ks,vs))=ar rest (A.aQ n (.cm ks vs))) ∧
  (∀ rest A d,bo A (some d) .kG rest=wa A d rest (A.o d))∧(∀ A d rest,wa A d rest none=ar rest ((A.aQ d (.cm [] [])).put d (.mref d))) ∧
  (∀ rest A d e bytes z n,bo A (some d) (.jz e bytes z n) rest=sN A d bytes z (af A n) rest (A.o d))∧(∀ A d bytes z n rest,sN A d bytes z n rest none=sO A d bytes z rest n) ∧
  (∀ rest A d x,bo A (some d) (.ka x) rest=tu A d (af A x) rest (A.o d))∧(∀ A d x rest,tu A d x rest none=wW A d rest x)∧(∀ A d rest ks vs,wW A d rest (.c6 ks vs)=ar rest ((A.aQ d (.it ks vs (List.range ks.length) none)).put d (.cX d))) ∧
  (∀ d rest A x,bo A d (.ent x) rest=cq (u5 A (af A x)) (cF d rest A))∧(∀ A n,u5 A (.cX n)=u6 (A.o n))∧(∀ ks vs l cur,u6 (some (.it ks vs l cur))=rV ks vs cur) ∧
  (∀ d rest A x,bo A d (.jZ x) rest=wh A d rest (af A x))∧(∀ A d rest n,wh A d rest (.cX n)=Cn A d n rest (A.o n)) :=
 ⟨Xy,fun _ _=>rfl,fun _=>rfl,XC,rfl,fun _ _=>rfl,fun _=>rfl,rfl,rfl,rfl,rfl,Xs,WG,fun _ _ _=>rfl,fun _ _=>rfl,fun _ _ _ _ _ _=>rfl,fun _ _=>rfl,fun _ _=>rfl,
  fun rest A ty m k v=>Xw rest A ty m k v,fun _ _ _ _ _ _=>rfl,fun _ _ _ _ _ _ _ _=>rfl,fun _ _ _ _ _=>rfl,fun rest A d=>Xu rest A d,fun _ _ _=>rfl,fun rest A d e bytes z n=>Xv rest A d e bytes z n,fun _ _ _ _ _ _=>rfl,
  fun rest A d x=>XD rest A d x,fun _ _ _ _=>rfl,fun _ _ _ _ _=>rfl,Xh,fun _ _=>rfl,fun _ _ _ _=>rfl,XA,fun _ _ _ _=>rfl⟩
theorem sP{A:ab}{d bytes:Nat}{z:I}{rest:List ay}{n:Nat}(h1:n*bytes≤281474976710656)(h2:n≤maxLen):sO A d bytes z rest (.int .i64 n)=ar rest ((A.aQ d (.box (.agg (List.replicate n z)))).put d (.view d [] 1 0 n)):=by
 simp only[sO,Int.toNat_natCast];rw[if_pos ⟨Int.natCast_nonneg n,h1,h2⟩]
section
variable {α:Type} [Enc α]
theorem Zn{A:ab}{n i:Nat}{xs:List α}(v u:α){rest:List ay}(hA:Enc.gS α=false)(h:i<xs.length):dW A none n [i] (.agg (xs.map enc)) (enc v) rest (some (enc u))=ar rest (A.aQ n (.box (.agg ((xs.set i v).map enc)))):=by
 rw[eV (eQ v) (by rw[Mf,hA];rfl) ((eJ v).trans (eJ u).symm)];have h2:(xs.map (enc (α:=α)))[i]?=some (enc (xs[i])):=by simp[h]
 simp only[I.du,h2,List.map_set]
end
theorem VV{m sz lo l i:Nat}{fs:List I}(h:i<l):mV m [] sz lo l sz (i:Int) (some fs)=some (.ptr m [lo+i]):=by rw[VU h];rfl
theorem Ad:(∀ {α:Type} [Enc α] (x:α),(enc x).bC=true)∧(∀ n p z lo k,(I.view n p z lo k).bC=false)∧(∀ n,(I.mref n).bC=false)∧(∀ n p,(I.ptr n p).bC=false)∧(∀ n k,(I.own n k).bC=false) :=
 ⟨@kr,fun _ _ _ _ _=>rfl,fun _=>rfl,fun _ _=>rfl,fun _ _=>rfl⟩
end Go.Abs
namespace Go.Abs
open Go Go.RowKit
def rM(on:List (List Nat)):List Nat:=on.foldl (fun acc ks=>acc++[nQ acc ks]) []
def u1(d:Option (List (List Nat)))(gs:List ay):Bool:=match d with
 |none=>true
 |some on=>rT on gs (rM on)
section
variable {c:ct} {Q:Exit→ab→Prop} {A:ab} {d:Option (List (List Nat))} {on:List (List Nat)} {gs:List ay}
theorem U.iq(hd:u1 d gs=true)(h:∀ K:ab→Prop,(∀ B,Q .normal B→K B)→aY c.P c.Y d.isSome K (ar gs A)):U c (.b7 d gs) Q A:=by
 cases d with
 |none=>exact U.b7 (cl:=[]) rfl h
 |some on=>exact U.b7 (cl:=rM on) hd h
theorem U.dI{y:bj}(hd:u1 d gs=true)(h:∀ K:ab→Prop,(∀ B,U c y Q B→K B)→aY c.P c.Y d.isSome K (ar gs A)):U c (.seq (.b7 d gs) y) Q A :=
 U.seq (U.iq hd h)
theorem U.my(hs:List FuncId)(au:ec)(σ:List Nat)(hd:ta hs au on gs (rM on) σ=true)(hi:dL au A)(h:∀ K:ab→Prop,(∀ B,Q .normal B→K B)→bQ c.P c.Y hs K (ar (kK σ gs) A)):U c (.b7 (some on) gs) Q A :=
 U.Yz hs au (rM on) σ hd hi h
def fX(c:ct):bj→(Exit→ab→Prop)→ab→Prop
 | .seq x y,Q,A=>fX c x (cQ (fun B=>U c y Q B) Q) A
 | .block id x,Q,A=>fX c x (lq id Q) A
 | .skip,Q,A=>Q .normal A
 | .exit id,Q,A=>Q (.exit id) A
 | .ret,Q,A=>Q .ret A
 | .cond b x y,Q,A=>aw (af A b) (U c x Q A) (U c y Q A)
 |x,Q,A=>U c x Q A
def VS:bj→Bool
 | .seq _ _ | .block _ _ | .skip | .exit _ | .ret | .cond _ _ _=>true
 |_=>false
theorem fX.uy:∀ (x:bj) {Q:Exit→ab→Prop} {A:ab},fX c x Q A→U c x Q A
 | .seq x y,_,_,h=>U.seq (fX.uy x h)
 | .block id x,_,_,h=>U.block (fX.uy x h)
 | .skip,_,_,h=>U.skip h
 | .exit _,_,_,h=>U.exit h
 | .ret,_,_,h=>U.ret h
 | .cond _ _ _,_,_,h=>U.gT h
 | .b7 _ _,_,_,h | .loop _,_,_,h | .scope _,_,_,h | .label,_,_,h | .pM,_,_,h | .nA _ _ _ _,_,_,h=>h
theorem U.of{x:bj}(_:VS x=true)(h:fX c x Q A):U c x Q A:=fX.uy x h
theorem aH :
  (∀ c x y Q A,fX c (.seq x y) Q A=fX c x (cQ (fun B=>U c y Q B) Q) A)∧(∀ c id x Q A,fX c (.block id x) Q A=fX c x (lq id Q) A)∧(∀ c Q A,fX c .skip Q A=Q .normal A)∧(∀ c id Q A,fX c (.exit id) Q A=Q (.exit id) A)∧(∀ c Q A,fX c .ret Q A=Q .ret A) ∧
  (∀ c b x y Q A,fX c (.cond b x y) Q A=aw (af A b) (U c x Q A) (U c y Q A))∧(∀ c d gs Q A,fX c (.b7 d gs) Q A=U c (.b7 d gs) Q A)∧(∀ c x Q A,fX c (.loop x) Q A=U c (.loop x) Q A)∧(∀ c f ps x y Q A,fX c (.nA f ps x y) Q A=U c (.nA f ps x y) Q A) ∧
  (∀ k Q A,cQ k Q .normal A=k A)∧(∀ k Q A,cQ k Q .ret A=Q .ret A)∧(∀ k Q A i,cQ k Q (.exit i) A=Q (.exit i) A)∧(∀ i Q A,lq i Q .normal A=Q .normal A)∧(∀ i Q A,lq i Q .ret A=Q .ret A)∧(∀ i Q A j,lq i Q (.exit j) A=if j=i then Q .normal A else Q (.exit j) A) ∧
  (∀ p q,aw (.bool true) p q=p)∧(∀ p q,aw (.bool false) p q=q)∧(type_of% @BP) :=
 ⟨fun _ _ _ _ _=>rfl,fun _ _ _ _ _=>rfl,fun _ _ _=>rfl,fun _ _ _ _=>rfl,fun _ _ _=>rfl,fun _ _ _ _ _ _=>rfl,fun _ _ _ _ _=>rfl,fun _ _ _ _=>rfl,fun _ _ _ _ _ _ _=>rfl,fun _ _ _=>rfl,fun _ _ _=>rfl,fun _ _ _ _=>rfl,fun _ _ _=>rfl,fun _ _ _=>rfl,fun _ _ _ _=>rfl,
  fun p q=>by simp[aw],fun p q=>by simp[aw],BP⟩
theorem aw.aF{t:Bool}{p q:Prop}(h1:t=true→p)(h2:t=false→q):aw (.bool t) p q:=⟨h1,h2⟩
theorem U.aG{g:ay}{r:List ay}(hd:u1 d gs=true)(e:gs=g::r)(h:∀ K:ab→Prop,(∀ B,Q .normal B→K B)→aY c.P c.Y d.isSome K (ar (g::r) A)):U c (.b7 d gs) Q A :=
 U.iq hd (e▸h)
theorem aY.aE(au:List Nat){P:Program}{Y:Value→List I→List (Nat×ai)→cj→Prop}{dr:Bool}{x:bj}{K:ab→Prop}{ts:List (Nat×I)}{os:List (Nat×ai)}(hK:∀ B,U c x Q B→K B)(h:U c x Q (aq (gv au ts) os)):aY P Y dr K (.done (aq ts os)) :=
 .done (hK _ (U.qj au h))
theorem bQ.aE(au:List Nat){P:Program}{Y:Value→List I→List (Nat×ai)→cj→Prop}{hs:List FuncId}{x:bj}{K:ab→Prop}{ts:List (Nat×I)}{os:List (Nat×ai)}(hK:∀ B,U c x Q B→K B)(h:U c x Q (aq (gv au ts) os)):bQ P Y hs K (.done (aq ts os)) :=
 .done (hK _ (U.qj au h))
end
section
variable {c:ct} {A:ab} {o:Oper}
theorem zS{P:Program}{m:Nat}{bl:Array Oper}{l:List Oper}{gs:List ay}(h:fJ P m bl (o::l)=some gs):∃ g gs',gs=g::gs'∧lr P m bl o=some g∧fJ P m bl l=some gs':=by
 simp only[fJ] at h;split at h
 ·rename_i g gs' h1 h2;simp only[v6] at h;exact ⟨g,gs',h.symm,h1,h2⟩
 ·cases h
end
def tw(P:Program)(f:FuncId)(ch:List PanicEntry)(vs:Array Value)(w:World)(R:Ending→World→Prop):Prop :=
 Calls P f vs w fun e w'=>e=.panicked ch∧R (.returned (.tuple #[])) w'
theorem tw.mono{P:Program}{f:FuncId}{ch:List PanicEntry}{vs:Array Value}{w:World}{R R':Ending→World→Prop}(h:tw P f ch vs w R)(hr:∀ e w',R e w'→R' e w'):tw P f ch vs w R' :=
 Calls.mono h fun _ _ q=>⟨q.1,hr _ _ q.2⟩
def oU(post:List (Nat×ai)→Prop):cj:=fun r os'=>r=.tuple []∧post os'
def pz(P:Program)(f:FuncId)(ch:List PanicEntry)(args:List I)(os:List (Nat×ai))(post:List (Nat×ai)→Prop):Prop :=
 dS P f=true∧mI (tw P f ch) (fun w _ E=>eG P w (bX E)) args os (oU post)
def wD(ch:List PanicEntry)(post:List (Nat×ai)→Prop):Exit→ab→Prop
 | .panic ch',A=>ch'=ch∧iV [] (oU post) A
 |_,_=>False
theorem B3{P:Program}{n:Nat}{w:World}{D:aK}{E:aN}{Y:Value→List I→List (Nat×ai)→cj→Prop}{post:List (Nat×ai)→Prop}{fn:Func}{A:ab}{D':aK}{E':aN}{ch:List PanicEntry}(h:iV [] (oU post) A){R:World→Prop}(hR:∀ v w',kZ w D E (oU post) v w'→R w') :
  ∀ (ds:List Deferred) (a:Act) (w':World),a.defers=ds→aM ⟨P,w,D,n,bX E,E,Y,none,none⟩ A a w' D' E'→LeavesInM Fence.wide 9 P fn a.tmps (fun e w'=>e=.panicked ch∧R w') ds (.panicking ch) w'
 | [],a,w',_,hs=>by
  obtain ⟨v,h1,h2⟩:=hs.sx (fn := { fn with results := #[] }) (rs:=[]) rfl h;exact ⟨rfl,hR v w' h2⟩
 |d::ds,a,w',hd,hs=>by
  obtain ⟨Bs,h1,_⟩:=hs.dT;rw[hd] at h1;cases Bs with
  |nil=>cases h1
  |cons B Bs =>
   simp only[Z3,zy1] at h1;obtain ⟨rfl,rfl⟩:=h1;obtain ⟨k1,k2⟩:=hs.Ae rfl hd;exact ⟨by simp,.inl ⟨B,_,rfl,run_takeDeferred k1,B3 h hR _ { a with defers:=Bs.map _ } _ rfl k2⟩⟩
theorem Wt{w:World}{D:aK}{E:aN}{post:List (Nat×ai)→Prop}{v:Value}{w':World}(h:kZ w D E (oU post) v w'):∃ v' D' E' r os',Ending.returned (.tuple #[])=.returned v'∧oU post r os'∧aR w' D' E' r v'∧jl (fun b=>w.heap.size≤b∨bX E b) w' D' E' (aA os') ∧
   eC (fun b=>w.heap.size≤b∨bX E b) w w'∧(∀ b o,D b o→D' b o)∧(∀ b o,D' b o→b<w'.heap.size)∧(∀ b o,D' b o→b<w.heap.size→¬ bX E b→D b o) ∧
   (∀ n e,E n=some e→ao os' n=true→∃ e',E' n=some e'∧e.fC e')∧gj w D w':=by
 obtain ⟨D',E',r,os',h1,h2,h3⟩:=h;refine ⟨_,D',E',r,os',rfl,h1,?_,h3⟩;obtain ⟨rfl,_⟩:=h1;simp only[aR];exact ⟨[],by simp,by simp[al]⟩
theorem pz.mk{P:Program}{f:FuncId}{fn:Func}{x:bj}{ch:List PanicEntry}{args:List I}{os:List (Nat×ai)}{post:List (Nat×ai)→Prop}(hf:P.funcs[f]?=some fn)(hcall:dS P f=true)(hc:(fn.body.bind (dR P fn.ntmps))=some x)
  (hn:args.length≤fn.ntmps) (hn2:fn.ntmps≤1000000) (hos:∀ m,ao os m=true→1000000≤m) (h:I.gL args→∀ (w:World) (D:aK) (E:aN),U ⟨P,w,D,fn.ntmps,bX E,E,fQ,none,none⟩ x (wD ch post) (aq (bF 0 args) os)):pz P f ch args os post:=by
 obtain ⟨body,hb,hc'⟩:=zx6.1 hc;refine ⟨hcall,fun w D E vs hl hD ho hv =>?_⟩;have hlen:=qQ hv;have hsim:=xu (P:=P) (n:=fn.ntmps) (Y:=fQ) hD ho hv (by omega) (fun m hm=>⟨Nat.le_trans hn2 (hos m hm),hos m hm⟩) (px hl);refine (callsIn_wide (n:=9)).1 (callsIn_of_wp_marks hf hb trivial ?_);refine wpIn_mono (((h (o9 _ _ hv) w D E).sub (tK args os)) body hc' _ w ⟨D,E,hsim⟩) ?_;rintro e a w' ⟨A,hq,D',E',hs⟩;cases e <;>simp only[wD] at hq
 obtain ⟨rfl,hq⟩:=hq;exact B3 hq (fun v w' h=>Wt h) a.defers a w' rfl hs
section
variable {c:ct} {A:ab} {Q:Exit→ab→Prop}
theorem sc{dr:Bool}{K:ab→Prop}{bl:Array Oper}{Q:Exit→Act→World→Prop}{l2:List Oper}(hQ:∀ B a w,K B→bD c B a w→wpListIn c.bm 9 c.P bl Q l2 a w):∀ (l:List Oper) (gs:List ay) (A:ab) (a:Act) (w:World),fJ c.P c.n bl l=some gs→aY c.P c.Y dr K (ar gs A) →
  bD c A a w→wpListIn c.bm 9 c.P bl Q (l++l2) a w
 | [],gs,A,a,w,hc,hwp,hs=>by
  simp only[fJ,v6] at hc;subst hc;simp only[ar] at hwp;cases hwp with
  |done hk=>exact hQ A a w hk hs
 |o::l,gs,A,a,w,hc,hwp,hs=>by
  simp only[fJ] at hc;split at hc
  case h_2=>cases hc
  rename_i g gs' hg hgs;simp only[v6] at hc;subst hc;obtain ⟨h1,h2,h3,h4⟩:=oc hg;have step:aY c.P c.Y dr K (aW A g.dst g.op gs' (ar gs'))→o.wpIn c.bm 9 c.P a w (wpListIn c.bm 9 c.P bl Q (l++l2)) Q:=fun h =>
   r8 h1 h2.symm (by rw[h2];exact h3) h hs (fun B a' w' hw hs'=>sc hQ l gs' B a' w' hgs hw hs')
  simp only[Z8,wpListIn];simp only[ar] at hwp;rcases h4 with ⟨h5,h6⟩ | ⟨j,b,t,h5,h6,h7⟩
  ·rw[h6] at hwp;have hw:Region.wanted o (yielded bl a.tmps)=true:=by simp[Region.wanted,h5]
   rw[hw,if_pos rfl];exact step hwp
  ·rw[h7] at hwp;simp only at hwp;split at hwp
   ·rename_i b' hb';rw[sf hs h5 h6 hb'];split at hwp
    ·rename_i hbb;subst hbb;simp only[BEq.rfl,if_true];exact step hwp
    ·rename_i hbb;have:(b'==b)=false:=by simpa using hbb
     rw[this];simp only[Z6,if_false];exact ⟨fun f _=>lz c f,sc hQ l gs' _ _ w hgs hwp (by rw[h2];exact hs.mw h3)⟩
   ·rename_i hb';rw[sg hs h5 h6 hb'];simp only[Z6,if_false];exact ⟨fun f _=>lz c f,sc hQ l gs' _ _ w hgs hwp (by rw[h2];exact hs.mw h3)⟩
   ·cases hwp
theorem zR{P:Program}{m:Nat}{bl:Array Oper}{g:ay}{gs2:List ay} : ∀ {l:List Oper} {gs1:List ay},fJ P m bl l=some (gs1++g::gs2)→∃ l1 o l2,l=l1++o::l2∧fJ P m bl l1=some gs1∧lr P m bl o=some g
 | [],gs1,h=>by simp[fJ] at h
 |o::l,[],h=>by
  obtain ⟨g',gs',e,h1,h2⟩:=zS h;simp only[zz3,zy1] at e;obtain ⟨rfl,rfl⟩:=e;exact ⟨[],o,l,rfl,rfl,h1⟩
 |o::l,k::gs1,h=>by
  obtain ⟨g',gs',e,h1,h2⟩:=zS h;simp only[Z8,zy1] at e;obtain ⟨rfl,rfl⟩:=e;obtain ⟨l1,o',l2,rfl,q1,q2⟩:=zR h2;exact ⟨o::l1,o',l2,rfl,by simp only[fJ,h1,q1],q2⟩
inductive pE (P:Program) (Q:Exit→ab→Prop) (f:FuncId) (avs:List I):ab→Prop where
 |mk {ts:List (Nat×I)} {os0:List (Nat×ai)} (aI:Bool) (ρ:List (Nat×Nat)) (os:List (Nat×ai)) (cargs:List I) (ch:List PanicEntry) (post:List (Nat×ai)→Prop):pz P f ch cargs os post→eP ρ os os0→gl aI (aq ts (dD (iI ρ os) os0)) ρ os avs cargs →
  (∀ os',post os'→dh aI ρ os os0 (.tuple []) os')→(∀ os',post os'→Q (.panic ch) (aq ts (cO ρ os'++os0)))→pE P Q f avs (aq ts os0)
inductive lX (P:Program) (Q:Exit→ab→Prop):bw→ab→Prop where
 |call {f:FuncId} {args:List az} {A:ab} : pE P Q f (args.map (af A)) A→lX P Q (.call f args) A
 |fA {x:az} {args:List az} {f:Nat} {caps:List I} {A:ab} : af A x=.func f caps→pE P Q (kv f) (gR f (args.map (af A)) caps) A→lX P Q (.fA x args) A
 |kJ {x:az} {t:TypeId} {A:ab} : af A x=.iface t (.agg [])→Q (.panic [{ v:=.iface t (.agg #[]),recovered:=false }]) A→lX P Q (.prim .kJ [x]) A
theorem wE{o:Oper}{g:bw}{f:FuncId}{avs:List I}{vs:List Value}{a:Act}{w:World}{D:aK}{E:aN}{Kw:Act→World→Prop}(hop0:cD c.P o=some g)(h:pE c.P Q f avs A)(hs:aM c A a w D E)(hall:ea (aR w D E) avs vs)
  (hrun:dS c.P f=true→(execOp a.eval o).run c.P w=.ok (.enter f vs.toArray) w):o.wpIn c.bm 9 c.P a w Kw (sA c Q):=by
 cases h with
 |mk aI ρ os cargs ch post hspec hgv ha hb hrest =>
  have hu:=hspec.2.use hs aI (fun h=>h.mono) ⟨fun _ _=>hs.oJ,fun _=>hs.oJ⟩ hgv ha (fun r os' hp=>by obtain ⟨rfl,hp⟩:=hp;exact hb os' hp) hall;refine ⟨jn,?_⟩;rw[jE hop0,hrun hspec.1,Oper.uponIn_enter];refine ⟨uX c,z7 (Calls.mono hu ?_)⟩;rintro e w' ⟨rfl,v,r,os',D2,E2,he,⟨rfl,hp⟩,hs',hv,_⟩;exact ⟨_,hrest os' hp,D2,E2,hs'⟩
theorem X1{o:Oper}{g:bw}{a:Act}{w:World}{Kw:Act→World→Prop}(hop:cD c.P o=some g)(h:lX c.P Q g A)(hsim:bD c A a w):o.wpIn c.bm 9 c.P a w Kw (sA c Q):=by
 have hop0:=hop;obtain ⟨D,E,hs⟩:=hsim;cases h with
 |call h =>
  unfold cD at hop;split at hop <;>try (first | (simp at hop;done) | ((repeat' split at hop) <;>simp at hop;done))
  rename_i f' xs ts ho;split at hop
  case isFalse=>simp at hop
  simp only[t7,bw.call.injEq] at hop;obtain ⟨ys,hys,rfl,rfl⟩:=hop;have e:xs.map a.eval=(xs.toList.map a.eval).toArray:=by apply Array.ext';simp
  refine wE (vs:=xs.toList.map a.eval) hop0 h hs (ki hs xs.toList ts.toList ys hys) fun hc =>?_;simp only[execOp,ho,resolve,Act.eval,Deferred.ofValue,Sem.run_bind,Sem.run_pure,Result.andThen_ok,invoke,Array.append_empty,Array.empty_append,mz hc];rw[←e]
 |fA hx h =>
  rename_i x args f caps;unfold cD at hop;split at hop <;>try (first | (simp at hop;done) | ((repeat' split at hop) <;>simp at hop;done))
  rename_i y xs ts _ ho;split at hop
  case h_2=>cases hop
  rename_i y' ys h1 h2;simp only[v6,bw.fA.injEq] at hop;obtain ⟨rfl,rfl⟩:=hop;have hv:=bp hs h1;rw[hx] at hv;obtain ⟨cs,q1,q2⟩:=hv;simp only[ae] at q2;obtain ⟨vs,q3,q4⟩:=q2;have hval:a.eval y=iZ f vs:=by simpa[aZ,I.isAgg,q3] using q1.symm
  have e:xs.map a.eval=(xs.toList.map a.eval).toArray:=by apply Array.ext';simp
  have hargs:=ki hs xs.toList ts.toList ys h2;rcases Nat.lt_or_ge f 1000000 with hf | hf
  ·rw[vg hf,vf hf] at h;rw[mc hf] at hval;refine wE (vs:=xs.toList.map a.eval++vs) hop0 h hs (hargs.append (o7 q4)) fun hc =>?_;simp only[execOp,ho,resolve,hval,Deferred.ofValue,Sem.run_bind,Sem.run_pure,Result.andThen_ok,invoke,Array.empty_append,mz hc];rw[e];simp
  ·obtain ⟨g,rfl⟩:∃ g:Nat,f=g+1000000:=⟨Nat.sub f 1000000,(Nat.sub_add_cancel hf).symm⟩
   rw[AR,AQ] at h;rw[p8] at hval;refine wE (vs:=vs++xs.toList.map a.eval) hop0 h hs ((o7 q4).append hargs) fun hc =>?_;simp only[execOp,ho,resolve,hval,Deferred.ofValue,Sem.run_bind,Sem.run_pure,Result.andThen_ok,invoke,Array.append_empty,mz hc];rw[e];simp

 |kJ hx hq =>
  rename_i x t;unfold cD at hop;split at hop <;>try (first | (simp at hop;done) | ((repeat' split at hop) <;>simp at hop;done))
  rename_i x0 ho;simp only[t7,bw.prim.injEq,zy1,and_true,true_and] at hop;obtain ⟨y,hy,rfl⟩:=hop;have hv:=bp hs hy;rw[hx] at hv;obtain ⟨cs,q1,q2⟩:=hv;simp only[ae] at q2;obtain ⟨u,cs',q3,q4,q5⟩:=q2;simp only[aC] at q5;subst q5;have hu:u=.agg #[]:=by simpa[aZ,I.isAgg] using q4
  have hval:a.eval x0=.iface t (.agg #[]):=by simpa[aZ,I.isAgg,q3,hu] using q1.symm
  have hrun:(execOp a.eval o).run c.P w=.halt (.panic (.iface t (.agg #[]))) w:=by simp[execOp,ho,hval,Instr.panic,goPanic]
  refine ⟨jn,?_⟩;rw[jE hop0,hrun,Oper.uponIn_panic];exact ⟨A,hq,D,E,hs⟩
theorem U.Yy{gs:List ay}(k:Nat){g:bw}{dst:Option Nat}(hk:gs=gs.take k++⟨dst,g,none⟩::gs.drop (k+1))(h:∀ K:ab→Prop,(∀ B,lX c.P Q g B→K B)→aY c.P c.Y false K (ar (gs.take k) A)):U c (.b7 none gs) Q A:=by
 intro code hc a w hs;cases code <;>simp only[dR] at hc <;>try (first | (cases hc;done) | ((repeat' split at hc) <;>cases hc;done))
 rename_i id bl draw;split at hc
 case h_2=>cases hc
 rename_i gs' hgs;split at hc
 case isFalse=>cases hc
 simp only[v6,bj.b7.injEq] at hc;obtain ⟨hdr,rfl⟩:=hc;cases draw with
 |true=>simp at hdr
 |false =>
  refine wpIn_region_list ?_;rw[hk] at hgs;obtain ⟨l1,o,l2,hl,h1,h2⟩:=zR hgs;rw[hl];refine sc (K:=lX c.P Q g) (fun B a' w' hp hs' =>?_) l1 _ A a w h1 (h _ fun _ hb=>hb) hs;obtain ⟨q1,q2,q3,q4⟩:=oc h2;have wn:Region.wanted o (yielded bl a'.tmps)=true:=by
   rcases q4 with ⟨a5,_⟩ | ⟨_,_,_,_,_,a5⟩
   ·simp[Region.wanted,a5]
   ·simp at a5
  simp only[wpListIn,wn,if_true];exact X1 q1 hp hs'
theorem U.lG{gs gs1 gs2:List ay}{g:bw}{dst:Option Nat}(e:gs=gs1++⟨dst,g,none⟩::gs2)(h:∀ K:ab→Prop,(∀ B,lX c.P Q g B→K B)→aY c.P c.Y false K (ar gs1 A)):U c (.b7 none gs) Q A:=by
 subst e;refine U.Yy gs1.length (g:=g) (dst:=dst) ?_ fun K hK =>?_
 ·simp
 ·simpa using h K hK
end
section
variable {P:Program} {n:Nat} {w:World} {D:aK} {E:aN} {rs:List bz} {post:cj} {fn:Func} {ch:List PanicEntry} {f:FuncId} {N b:Nat}
theorem oK{bm:Fence}{m:Nat}{tmps:Array Value}{R R':Ending→World→Prop}(hr:∀ e w,R e w→R' e w):∀ (ds:List Deferred) (u:FrameMode) (w:World),LeavesInM bm m P fn tmps R ds u w→LeavesInM bm m P fn tmps R' ds u w
 | [],u,w,h=>by
  cases u with
  |run=>exact h
  |returning=>obtain ⟨v,h1,h2⟩:=h;exact ⟨v,h1,hr _ _ h2⟩
  |panicking c=>exact hr _ _ h
 |d::ds,u,w,h=>by
  obtain ⟨h1,h2⟩:=h;refine ⟨h1,?_⟩;rcases h2 with ⟨r,w',k1,k2,k3⟩ | ⟨k1,fv,cap,g,args,k2,k3,k4,k5⟩
  ·exact .inl ⟨r,w',k1,k2,oK hr ds u w' k3⟩
  ·refine .inr ⟨k1,fv,cap,g,args,k2,k3,k4,k5.mono fun e u' w' h =>?_⟩;cases e with
   |returned v=>exact oK hr ds _ w' h
   |panicked c=>exact oK hr ds _ w' h
   |outgrown=>exact hr _ _ h
def qP(P:Program)(fn:Func)(rest:Code)(slots:List Nat)(a:Act)(vs:Array Value)(w:World)(R:Ending→World→Prop):Prop :=
 vs.toList=slots.map (fun t=>a.tmps.getD t undef)→rest.wpIn Fence.wide 9 P (bodyPostM Fence.wide 9 P fn R) a w
theorem qP.mono{rest:Code}{slots:List Nat}{a:Act}{vs:Array Value}{w:World}{R R':Ending→World→Prop}(h:qP P fn rest slots a vs w R)(hr:∀ e w,R e w→R' e w):qP P fn rest slots a vs w R':=fun hv=>by
 refine wpIn_mono (h hv) fun e a' w' q =>?_;cases e <;>simp only[bodyPostM] at q ⊢ <;>first
  |exact oK hr _ _ _ q
  |exact hr _ _ q
  |exact q
theorem Fv{w:World}{D:aK}{E:aN}(g:Nat→Value):∀ (slots:List Nat) (args:List I),al w D E args (slots.map g)→∀ t,aR w D E (bM (slots.zip args) t) (g t)
 | [],args,h,t=>by simp[bM,aR]
 |s::slots,[],h,t=>by simp[bM,aR]
 |s::slots,x::args,h,t=>by
  simp only[al,Z3] at h;obtain ⟨v,rest,cs,e,h1,h2,h3⟩:=h;simp only[zy1] at e;obtain ⟨rfl,rfl⟩:=e;simp only[List.zip_cons_cons,bM];split
  ·rename_i hk;subst hk;exact fK h1 h2
  ·exact Fv g slots args h3 t
end
abbrev rP(P:Program)(w:World)(D:aK)(n:Nat)(E:aN)(b:Option (List Deferred)):ct:=⟨P,w,D,n,bX E,E,fQ,none,b⟩
theorem aM.Wr{P:Program}{n:Nat}{w:World}{D:aK}{E:aN}{dN:Option (List Deferred)}{post:cj}{A:ab}{a:Act}{w':World}{D':aK}{E':aN}{r:I}{v:Value}{os:List (Nat×ai)}
  (hs:aM (rP P w D n E dN) A a w' D' E') (h1:∀ m z,aA os m=some z→A.o m=some z∧z.only (ao os)=true∧z.er=true) (hf:r.flat=true) (hv:aR w' D' E' r v) (hp:post r os):kZ w D E post v w':=by
 obtain ⟨D2,E2,hw,e2,e2n,q1,q2,q3,q4,q5,q6⟩:=hs.vU h1;exact ⟨D2,E2,r,os,hp,aR.flat hf hv,q1,q2,q3,q4,q5,q6⟩
def j7(b:Nat):Value:=.pointer (some ⟨b,0,none⟩)
def ru(P:Program)(f:FuncId)(k:Nat):Prop:=dS P f=true∧∀ (bs:List Nat) (w:World),bs.length=k →
 CallsDIn Fence.wide 8 P f (bs.map j7).toArray .returning w fun e u' w'=>(∃ v,e=.returned v)∧u'=.returning∧w'=w
def nF(A:ab):List Nat→List I→ab
 |N::Ns,z::zs=>nF (A.aQ N (.box z)) Ns zs
 |_,_=>A
def kX(E:aN):List Nat→List Nat→List I→Prop
 | [],[],[]=>True
 |N::Ns,b::bs,z::zs=>E N=some (.aI b z.aL)∧kX E Ns bs zs
 |_,_,_=>False
def nU(A:ab):List Nat→List I→Prop
 | [],[]=>True
 |N::Ns,z::zs=>(∃ x,A.o N=some (.box x)∧x.aL=z.aL)∧nU A Ns zs
 |_,_=>False
def rl(P:Program)(f:FuncId)(ch:List PanicEntry)(zs:List I):Prop:=dS P f=true∧∀ (c:ct) (A:ab) (a:Act) (w:World) (D:aK) (E:aN) (Ns bs:List Nat),c.P=P→aM c A a w D E→kX E Ns bs zs→nU A Ns zs →
 CallsDIn Fence.wide 8 P f (bs.map j7).toArray (.panicking ch) w fun e u' w'=>(∃ v,e=.returned v)∧settle u'=.returning∧aM c (nF A Ns zs) a w' D E
def jM(f:FuncId)(vs:List Value):Deferred := { target:=.fn (.func f) vs.toArray,args := #[] }
def qK(rs:List bz)(post:cj)(ch:List PanicEntry)(Ns:List Nat)(zs:List I):Exit→ab→Prop
 | .ret,A=>nU A Ns zs∧iV rs post A
 | .panic ch',A=>ch'=ch∧nU A Ns zs∧iV rs post (nF A Ns zs)
 |_,_=>False
theorem kX.len{E:aN} : ∀ {Ns bs:List Nat} {zs:List I},kX E Ns bs zs→bs.length=zs.length∧Ns.length=zs.length
 | [],[],[],_=>⟨rfl,rfl⟩
 |_::Ns,_::bs,_::zs,h=>by
  have:=kX.len h.2;simp[this.1,this.2]
 | [],_::_,_,h=>h.elim
 | [],[],_::_,h=>h.elim
 |_::_,[],_,h=>h.elim
 |_::_,_::_,[],h=>h.elim
section
variable {P:Program} {n:Nat} {w:World} {D:aK} {E:aN} {rs:List bz} {post:cj} {fn:Func} {ch:List PanicEntry} {f:FuncId} {Ns bs:List Nat} {zs:List I}
theorem yM{A:ab}{a:Act}{w':World}{D':aK}{E':aN}{dN:Option (List Deferred)}(hs:aM ⟨P,w,D,n,bX E,E,fQ,none,dN⟩ A a w' D' E'):∀ {Ns bs:List Nat} {zs:List I},kX E Ns bs zs→nU A Ns zs→kX E' Ns bs zs
 | [],[],[],_,_=>trivial
 |N::Ns,b::bs,z::zs,h,hx=>by
  refine ⟨?_,yM hs h.2 hx.2⟩;obtain ⟨x,hx,_⟩:=hx.1;have hob:cJ _ w' D' E' N (some (.box x)):=hx▸hs.bB N;rcases hs.vp (n:=N) (e:=.aI b z.aL) h.1 rfl with k | k
  ·exact absurd k (qz hob)
  ·exact k
 | [],_::_,_,h,_=>h.elim
 | [],[],_::_,h,_=>h.elim
 |_::_,[],_,h,_=>h.elim
 |_::_,_::_,[],h,_=>h.elim
theorem B4(hrs:gn P fn.results.toList=some rs)(hEN:kX E Ns bs zs){A:ab}{D':aK}{E':aN}{u:FrameMode}(hx:nU A Ns zs)
  (hcase:(u=.returning∧iV rs post A∧ru P f zs.length)∨(u=.panicking ch∧iV rs post (nF A Ns zs)∧rl P f ch zs)) :
  ∀ (ds:List Deferred) (a:Act) (w':World),a.defers=ds→aM ⟨P,w,D,n,bX E,E,fQ,none,some [jM f (bs.map j7)]⟩ A a w' D' E'→LeavesInM Fence.wide 9 P fn a.tmps (fun e w'=>∃ v,e=.returned v∧kZ w D E post v w') ds u w'
 | [],a,w',hd,hs=>by
  have h1:a.defers=[jM f (bs.map j7)]:=hs.dT;rw[hd] at h1;cases h1
 |d::ds,a,w',hd,hs=>by
  have h1:a.defers=[jM f (bs.map j7)]:=hs.dT;rw[hd] at h1;simp only[zy1] at h1;obtain ⟨rfl,rfl⟩:=h1;refine ⟨by rcases hcase with ⟨rfl,_⟩ | ⟨rfl,_⟩ <;>simp,.inr ⟨fun _=>by decide,.func f,(bs.map j7).toArray,f,(bs.map j7).toArray,rfl,?_,fun _ _=>trivial,?_⟩⟩
  ·have hcb:dS P f=true:=by rcases hcase with ⟨_,_,h⟩ | ⟨_,_,h⟩ <;>exact h.1
   simp only[jM,invoke,mz hcb,Array.empty_append]
  ·rcases hcase with ⟨rfl,hr,hi⟩ | ⟨rfl,hr,hc⟩
   ·refine (hi.2 bs w' hEN.len.1).mono ?_;rintro e u' w'' ⟨⟨v,rfl⟩,rfl,rfl⟩;obtain ⟨v,h1,h2⟩:=hs.sx hrs hr;exact ⟨v,h1,v,rfl,h2⟩
   ·refine (hc.2 _ A a w' D' E' Ns bs rfl hs (yM hs hEN hx) hx).mono ?_;rintro e u' w'' ⟨⟨v,rfl⟩,hu,hs2⟩;obtain ⟨v,h1,h2⟩:=hs2.sx hrs hr;simp only[hu];exact ⟨v,h1,v,rfl,h2⟩
theorem CR{w:World}{D:aK}{E:aN} : ∀ {Ns:List Nat} {zs:List I} {vs:List Value},ea (aR w D E) (Ns.map fun N=>.ptr N []) vs→(∀ q∈Ns.zip zs,∃ b,E q.1=some (.aI b q.2.aL))→Ns.length=zs.length→∃ bs,vs=bs.map j7∧kX E Ns bs zs
 | [],[],_,.nil,_,_=>⟨[],rfl,trivial⟩
 |N::Ns,z::zs,_,.cons h hs,hb,hl=>by
  obtain ⟨bs,rfl,h2⟩:=CR (zs:=zs) hs (fun q hq=>hb q (by simp[hq])) (by simpa using hl);obtain ⟨b,ak⟩:=hb (N,z) (by simp);obtain ⟨b',aL,off,p1,p2,rfl⟩:=kQ h;simp only at ak;rw[ak] at p1;simp only[v6,bx.aI.injEq] at p1;obtain ⟨rfl,rfl⟩:=p1;have hoff:off=0:=by
   cases hz:z.aL <;>rw[hz] at p2 <;>simpa[bR.off] using p2.symm
  subst hoff;exact ⟨b::bs,rfl,ak,h2⟩
 | [],_::_,_,_,_,hl=>by simp at hl
 |_::_,[],_,_,_,hl=>by simp at hl
theorem rB{α:Type}{R:I→Value→Prop}{f:α→I}{g:α→Value}(h:∀ x,R (f x) (g x)):∀ l:List α,ea R (l.map f) (l.map g)
 | []=>.nil
 |x::l=>.cons (h x) (rB h l)
theorem YL{rest:Code}{x:bj}{slots:List Nat}{a:Act}{args:List I}{os:List (Nat×ai)}{tss:List Nat}(hrs:gn P fn.results.toList=some rs)(hx:dR P n rest=some x)(hsz:a.tmps.size=n)(hd:a.defers=[jM f (tss.map fun t=>a.tmps.getD t undef)])(hos:∀ m,ao os m=true→n≤m∧1000000≤m)
  (hts:tss.map (bM (slots.zip args))=Ns.map fun N=>.ptr N []) (hl:Ns.length=zs.length) (hN:∀ q∈Ns.zip zs,∃ y,aA os q.1=some (.box y)∧y.aL=q.2.aL) (hi:ru P f zs.length) (hc:rl P f ch zs)
  (hAW:∀ (w:World) (D:aK) (E:aN) (d:Deferred),U ⟨P,w,D,n,bX E,E,fQ,none,some [d]⟩ x (qK rs post ch Ns zs) (aq (slots.zip args) os)):mI (qP P fn rest slots a) (fun w _ E=>eG P w (bX E)) args os post:=by
 intro w D E vs hl0 hD ho hv hvs;have hvs':vs=slots.map (fun t=>a.tmps.getD t undef):=by simpa using hvs
 subst hvs';have htm:=Fv (fun t=>a.tmps.getD t undef) slots args hv;have hp:=rB htm tss;rw[hts] at hp;obtain ⟨bs,hbs,hat⟩:=CR (zs:=zs) hp (fun q hq=>by
  obtain ⟨y,h1,h2⟩:=hN q hq;have hob:cJ _ w D E q.1 (some (.box y)):=h1▸ho.bB q.1;obtain ⟨b',cs,T,e1,_⟩:=hob;exact ⟨b',by rw[e1,h2]⟩) hl
 rw[hbs] at hd;have hsim:aM ⟨P,w,D,n,bX E,E,fQ,none,some [jM f (bs.map j7)]⟩ (aq (slots.zip args) os) a w D E:=by
  refine ⟨hsz,hd,htm,eC.refl _ _,fun _ _ h _=>h,hD,fun m =>?_,ho.cw,fun m e h=>.inr ⟨e,h,.refl e⟩,fun m hm =>?_,fun _ _ h=>h,px hl0,.refl _ _⟩
  ·have h:=ho.bB m;simp only[aq];cases hx:aA os m with
   |none=>rw[hx] at h;exact h
   |some x=>rw[hx] at h;exact cJ.jx h fun e b he hb=>.inr ⟨m,e,he,hb⟩
  ·refine hos m ?_;cases hx:aA os m with
   |none=>have h:=ho.bB m;rw[hx] at h;exact absurd h hm
   |some x=>simp[ao,hx]
 refine wpIn_mono ((hAW w D E _) rest hx a w ⟨D,E,hsim⟩) ?_;rintro e a' w' ⟨A,hq,D',E',hs⟩;have bd:∀ e w',(∃ v,e=Ending.returned v∧kZ w D E post v w')→∃ v D' E' r os',e=.returned v∧post r os'∧aR w' D' E' r v∧jl (fun b=>w.heap.size≤b∨bX E b) w' D' E' (aA os') ∧
   eC (fun b=>w.heap.size≤b∨bX E b) w w'∧(∀ b o,D b o→D' b o)∧(∀ b o,D' b o→b<w'.heap.size)∧(∀ b o,D' b o→b<w.heap.size→¬ bX E b→D b o) ∧
   (∀ n e,E n=some e→ao os' n=true→∃ e',E' n=some e'∧e.fC e')∧gj w D w':=fun e w' ⟨v,h1,D',E',r,os',h2⟩=>⟨v,D',E',r,os',h1,h2⟩
 cases e <;>simp only[qK] at hq
 ·obtain ⟨h1,h2⟩:=hq;exact oK bd _ _ _ (B4 (ch:=ch) hrs hat h1 (.inl ⟨rfl,h2,hi⟩) a'.defers a' w' rfl hs)
 ·obtain ⟨rfl,h1,h2⟩:=hq;exact oK bd _ _ _ (B4 hrs hat h1 (.inr ⟨rfl,h2,hc⟩) a'.defers a' w' rfl hs)
end
def pk:List az→Option (List Nat)
 | []=>some []
 | .t n::l=>(pk l).map (n :: ·)
 |_=>none
theorem Fw:∀ {l:List az} {ts:List Nat},pk l=some ts→l=ts.map .t
 | [],ts,h=>by simp only[pk,v6] at h;subst h;rfl
 | .t n::l,ts,h=>by
  simp only[pk,t7] at h;obtain ⟨r,h1,rfl⟩:=h;rw[Fw h1];rfl
 | .c _::_,_,h=>by simp[pk] at h
def uW(P:Program)(n:Nat):Code→Option (bj×FuncId×List Nat×Nat×bj)
 | .seq iK (.seq (.region _ bl false) rest)=>match bl.toList with
  | [o1,o2]=>match lr P n bl o1,o2.op with
   |some ⟨some t5,.mk g caps,none⟩,.defer { callee:=.value (.tmp t),args,.. } =>if t=t5∧args = #[]∧o2.guard=none∧o2.dst=none then (match dR P n iK,dR P n rest,pk caps with
     |some x0,some x,some tss=>some (x0,g,tss,t5,x)
     |_,_,_=>none)
    else none
   |_,_=>none
  |_=>none
 |_=>none
structure Gq (P:Program) (n:Nat) (x:bj) (rs:List bz) (post:cj) (ch:List PanicEntry) (g:FuncId) (tss:List Nat) (t5:Nat) (tsl:List (Nat×I)) (os0:List (Nat×ai)) (ρ:List (Nat×Nat)) (os1:List (Nat×ai)) (slots:List Nat) (cargs:List I) (Ns:List Nat) (zs:List I) (post1:cj):Prop where
 bf:tss.map (bM tsl)=Ns.map fun N=>.ptr (bh ρ N) []
 BA:eP ρ os1 os0
 arg:gl false (aq ((t5,.func g (Ns.map fun N=>.ptr (bh ρ N) []))::tsl) (dD (iI ρ os1) os0)) ρ os1 (slots.map (bM ((t5,.func g (Ns.map fun N=>.ptr (bh ρ N) []))::tsl))) cargs
 yD:∀ r os',post1 r os'→dh false ρ os1 os0 r os'
 E5:tss.map (bM (slots.zip cargs))=Ns.map fun N=>.ptr N []
 len:Ns.length=zs.length
 box:∀ q∈Ns.zip zs,∃ y,aA os1 q.1=some (.box y)∧y.aL=q.2.aL
 me:∀ m,ao os1 m=true→n≤m∧1000000≤m
 rest:∀ (w:World) (D:aK) (E:aN) (d:Deferred),U ⟨P,w,D,n,bX E,E,fQ,none,some [d]⟩ x (qK rs post1 ch Ns zs) (aq (slots.zip cargs) os1)
 ln:∀ r os',post1 r os'→∃ osF,r.flat=true∧r.aO (bh ρ)=r∧(∀ m z,aA osF m=some z→aA (cO ρ os'++os0) m=some z∧z.only (ao osF)=true∧z.er=true)∧post r osF
theorem CS{w:World}{D:aK}{E:aN}{ρ:List (Nat×Nat)} : ∀ {Ns:List Nat} {vs vs':List Value},ea (aR w D E) (Ns.map fun N=>.ptr (bh ρ N) []) vs→ea (aR w D E) (Ns.map fun N=>.ptr (bh ρ N) []) vs'→vs=vs'
 | [],_,_,.nil,.nil=>rfl
 |N::Ns,_,_,.cons h hs,.cons h' hs'=>by
  obtain ⟨b1,sh1,off1,p1,p2,rfl⟩:=kQ h;obtain ⟨b2,sh2,off2,q1,q2,rfl⟩:=kQ h';rw[p1] at q1;simp only[v6,bx.aI.injEq] at q1;obtain ⟨rfl,rfl⟩:=q1;rw[p2] at q2;simp only[v6] at q2;subst q2;rw[CS hs hs']
theorem eW.XJ{P:Program}{f:FuncId}{fn:Func}{x0 x:bj}{g:FuncId}{tss:List Nat}{t5:Nat}{rs:List bz}{args:List I}{os:List (Nat×ai)}{post:cj}{ch:List PanicEntry}{zs:List I}(hf:P.funcs[f]?=some fn)(hcall:dS P f=true)(hc:(fn.body.bind (uW P fn.ntmps))=some (x0,g,tss,t5,x))
  (hrs:gn P fn.results.toList=some rs) (hn:args.length≤fn.ntmps) (hn2:fn.ntmps≤1000000) (hos:∀ m,ao os m=true→1000000≤m) (hi:ru P g zs.length) (hca:rl P g ch zs) (hts:tss.contains t5=false)
  (h:I.gL args→∀ (w:World) (D:aK) (E:aN),U ⟨P,w,D,fn.ntmps,bX E,E,fQ,none,some []⟩ x0 (cQ (fun B=>∃ tsl os0 ρ os1 slots cargs Ns post1,B=aq tsl os0∧Gq P fn.ntmps x rs post ch g tss t5 tsl os0 ρ os1 slots cargs Ns zs post1) (fun _ _=>False)) (aq (bF 0 args) os)):eW P f args os post:=by
 obtain ⟨body,hb,hc⟩:=zx6.1 hc;refine ⟨hcall,fun w D E vs hl hD ho hv =>?_⟩;have hlen:=qQ hv;have s0:=xu (P:=P) (n:=fn.ntmps) (Y:=fQ) hD ho hv (by omega) (fun m hm=>⟨Nat.le_trans hn2 (hos m hm),hos m hm⟩) (px hl);have hsim:aM (rP P w D fn.ntmps E (some [])) (nO args os) { tmps:=vs.toArray++Array.replicate (fn.ntmps-vs.toArray.size) undef,defers:=[] } w D E :=
  ⟨s0.sz,rfl,s0.dv,s0.db,s0.cH,s0.cN,s0.bB,s0.cw,s0.dp,s0.ee,s0.cz,px hl,s0.fe⟩
 obtain ⟨RR,hRR⟩:∃ RR:Ending→World→Prop,RR=fun e w'=>∃ v,e=.returned v∧kZ w D E post v w':=⟨_,rfl⟩
 refine Calls.mono (R:=RR) ?_ (fun e w' q=>by rw[hRR] at q;obtain ⟨v,he,D',E',r,os',k⟩:=q;exact ⟨v,D',E',r,os',he,k⟩);refine (callsIn_wide (n:=9)).1 (callsIn_of_wp_marks hf hb trivial ?_);unfold uW at hc;split at hc
 case h_2=>cases hc
 rename_i iK id bl rest;split at hc
 case h_2=>cases hc
 rename_i o1 o2 hops;split at hc
 case h_2=>cases hc
 rename_i t5' g' caps t dargs _ hg1 ho2;split at hc
 case isFalse=>cases hc
 rename_i hok;obtain ⟨ht,hda,hgd,hdst⟩:=hok;split at hc
 case h_2=>cases hc
 rename_i y0 y tss' hx0 hx htt;simp only[v6,Prod.mk.injEq] at hc;obtain ⟨e1,e2,e3,e4,e5⟩:=hc;subst e4 ht hda e1 e2 e3 e5;have hcaps:=Fw htt;subst hcaps;refine wpIn_seq ?_;have hw0:=((h (o9 _ _ hv) w D E).sub (tK args os)) iK hx0 _ w ⟨D,E,hsim⟩;refine wpIn_mono hw0 ?_;rintro e a1 w1 ⟨B,hq,D1,E1,hs1⟩;cases e <;>simp only[cQ] at hq
 obtain ⟨tsl,os0,ρ,os1,slots,cargs,Ns,post1,rfl,R⟩:=hq;simp only[Exit.then];refine wpIn_seq (wpIn_region_list ?_);rw[hops];obtain ⟨q1,q2,q3,q4⟩:=oc hg1;simp only at q1 q2;have wn1:∀ a:Act,Region.wanted o1 (yielded bl a.tmps)=true:=fun a=>by
  rcases q4 with ⟨a5,_⟩ | ⟨_,_,_,_,_,a5⟩
  ·simp[Region.wanted,a5]
  ·simp at a5
 have wn2:∀ a:Act,Region.wanted o2 (yielded bl a.tmps)=true:=fun a=>by simp[Region.wanted,hgd]
 simp only[wpListIn,wn1,if_true];have hmk:aV (aq tsl os0) (.mk g' (tss'.map .t))=some (.func g' (Ns.map fun N=>.ptr (bh ρ N) [])):=by
  have e:(tss'.map az.t).map (af (aq tsl os0))=Ns.map fun N=>.ptr (bh ρ N) []:=by
   rw[←R.bf,List.map_map];rfl
  simp only[aV,e];rw[if_pos];simp[I.cC]
 have d1:=(CU (c:=rP P w D fn.ntmps E (some [])) q1 hmk).does q3;rw[←q2] at d1;refine d1.wp q1 ⟨D1,E1,hs1⟩ fun a2 w2 hs2 =>?_;obtain ⟨D2,E2,hs2⟩:=hs2;simp only[wn2,if_true];rw[Ch] at hs2
 -- the deferred call
 have hglt:=z6 hi.1;have hfv:=hs2.dv t;simp only[aq,bM,if_true] at hfv;obtain ⟨fc,f1,f2⟩:=hfv;simp only[ae] at f2;obtain ⟨fvs,f3,f4⟩:=f2;have hval:a2.tmps.getD t undef=.func (.func g') #[] fvs.toArray:=by
  rw[←mc hglt];simpa[aZ,I.isAgg,f3] using f1.symm
 have htl:tss'.map (bM ((t,.func g' (Ns.map fun N=>.ptr (bh ρ N) []))::tsl))=Ns.map fun N=>.ptr (bh ρ N) []:=by
  rw[←R.bf];refine List.map_congr_left fun k hk =>?_;simp only[bM];rw[if_neg];intro e;have:tss'.contains k=true:=by simpa using hk
  rw[e,hts] at this;cases this
 have hfvs:fvs=tss'.map fun k=>a2.tmps.getD k undef:=by
  refine CS (w:=w2) (D:=D2) (E:=E2) (ρ:=ρ) (o7 f4) ?_;have:=rB (f:=bM ((t,.func g' (Ns.map fun N=>.ptr (bh ρ N) []))::tsl)) (g:=fun k=>a2.tmps.getD k undef) (fun k=>hs2.dv k) tss'
  rwa [htl] at this
 have hdf:a2.defers=[]:=hs2.dT;obtain ⟨a3,ha3⟩:∃ a3:Act,a3 = { a2 with defers:=[jM g' (tss'.map fun k=>a2.tmps.getD k undef)] } :=⟨_,rfl⟩
 have hrun:(o2.semAt Fence.wide.round a2.eval).run P w2=.ok (.defer (jM g' (tss'.map fun k=>a2.tmps.getD k undef))) w2:=by
  show (execOp a2.eval o2).run P w2=_
  have he:a2.eval (.tmp t)=.func (.func g') #[] fvs.toArray:=hval;simp[execOp,ho2,resolve,he,Deferred.ofValue,jM,hfvs]
 refine ⟨fun _ _=>trivial,?_⟩;rw[hrun,Oper.uponIn_defer,hdf,hdst];simp only[Exit.then];have hput:({ tmps:=a2.tmps,defers:=[jM g' (tss'.map fun k=>a2.tmps.getD k undef)] } : Act).put none undef=a3:=by rw[ha3];rfl
 rw[hput]
 -- the rest
 have hand:=YL (P:=P) (n:=fn.ntmps) (fn:=fn) (f:=g') (Ns:=Ns) (zs:=zs) (ch:=ch) (slots:=slots) (a:=a3) (args:=cargs) (os:=os1) (tss:=tss') hrs hx (by rw[ha3];exact hs2.sz) (by rw[ha3]) R.me R.E5 R.len R.box hi hca R.rest;have hs3:aM (rP P w D fn.ntmps E (some [jM g' (tss'.map fun k=>a2.tmps.getD k undef)])) (aq ((t,.func g' (Ns.map fun N=>.ptr (bh ρ N) []))::tsl) os0) a3 w2 D2 E2:=by
  rw[ha3];exact ⟨hs2.sz,rfl,hs2.dv,hs2.db,hs2.cH,hs2.cN,hs2.bB,hs2.cw,hs2.dp,hs2.ee,hs2.cz,px hl,hs2.fe⟩
 have hall:∀ l:List Nat,ea (aR w2 D2 E2) (l.map (bM ((t,.func g' (Ns.map fun N=>.ptr (bh ρ N) []))::tsl))) (l.map fun k=>a3.tmps.getD k undef):=fun l=>rB (fun k=>hs3.dv k) l;have hus:=hand.use hs3 false (fun h hr=>h.mono hr) ⟨(fun h=>by cases h),fun _=>hs3.oJ⟩ R.BA R.arg R.yD (hall slots);refine qP.mono hus ?_ (by simp);rintro e w' ⟨v,r,os',D4,E4,rfl,hp,hs4,hv4,_⟩;rw[hRR];obtain ⟨osF,g1,g2,g3,g4⟩:=R.ln r os' hp;rw[g2] at hv4;exact ⟨v,rfl,hs4.Wr g3 g1 hv4 g4⟩
end Go.Abs
