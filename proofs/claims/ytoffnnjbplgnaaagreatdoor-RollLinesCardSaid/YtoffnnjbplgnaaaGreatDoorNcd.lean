/-
  A part of the proof that the law RollLines returns true for every input; five variables of Go's library start as the text lays them (the card ties them); conditions: none beyond the statement's own. (part 4 of 6)
-/
import Derived.Lib.SplitLaws
import Derived.Lib.AtoiAll
import Derived.Lib.ItoaMem
import Derived.Shelf.Strings.Split
import Derived.Shelf.Small.Wraps
import Derived.Shelf.Strconv.ErrVarAll
import Derived.Lib.FieldsP
import Derived.Laws.RangeAny
import Derived.Shelf.Strconv.Itoa3
import Derived.Lib.ItoaLen
import Derived.Shelf.Strings.Prefix
import Derived.Shelf.Strings.Cut
import Derived.Shelf.Small.Strs
import Derived.Shelf.Strconv.Clone
import Derived.Shelf.Strings.FieldsFuncAny
import Derived.WalkKit
import Derived.Tactics
import Derived.Tactics2
import Derived.RecoverIn
import Derived.Deep.MidRow
import Derived.Shelf.Strings.BuilderK
import Derived.BigCall
import Derived.Deep.RegionWith
import Derived.Test.YtoffnnjbplgnaaaGreatDoorNcc
set_option linter.unusedSimpArgs false
set_option linter.unusedVariables false
set_option maxHeartbeats 16000000
set_option maxRecDepth 100000
namespace Go.Abs
open Go Go.RowKit
open Enc (enc)
structure ak where
 b:ByteArray
 deriving DecidableEq,Inhabited
instance:Enc ak where
 enc s:=.aj s.b
 sz:=1
 aF:=.one
 gf:=false
 done _:=rfl
 size _:=by simp[I.size]
 hG _:=by simp[I.aF]
 agg _:=rfl
instance:Enc UInt8 where
 enc b:=.int .u8 b.toNat
 sz:=1
 aF:=.one
 gf:=false
 done _:=rfl
 size _:=by simp[I.size]
 hG _:=by simp[I.aF]
 agg _:=rfl
def ak.l(s:ak):List UInt8:=s.b.data.toList
def ak.of(l:List UInt8):ak:=⟨⟨l.toArray⟩⟩
theorem ak.vu(s:ak):ak.of s.l=s:=by obtain ⟨⟨⟨l⟩⟩⟩:=s;rfl
theorem ak.dm(l:List UInt8):(ak.of l).l=l:=rfl
theorem ak.KO{s t:ak}(h:s.l=t.l):s=t:=by rw[←ak.vu s,←ak.vu t,h]
theorem ak.sh{s t:List UInt8} : ak.of s=ak.of t↔s=t:=⟨fun h=>by rw[←ak.dm s,h,ak.dm],fun h=>by rw[h]⟩
theorem ak.size(s:ak):s.b.size=s.l.length:=Lib.size_eq s.b
theorem wA(s t:ByteArray):(s.toList==t.toList)=decide ((⟨s⟩:ak)=⟨t⟩):=by
 obtain ⟨⟨l⟩⟩:=s;obtain ⟨⟨m⟩⟩:=t;simp;by_cases h:l=m <;>simp[h]
def Di(a b:ak):ak:=⟨a.b++b.b⟩
theorem sP(s:ak):enc s=I.aj s.b:=rfl
theorem Wr(a b:ak)(h:a.l.length+b.l.length≤9223372036854775807):bB .add (enc a) (enc b)=some (enc (Di a b)):=by
 rw[←ak.size,←ak.size] at h;simp only[sP,bB,if_pos h,Di]
theorem vZ(a b:ak):bB .eql (enc a) (enc b)=some (.bool (decide (a=b))):=by
 simp only[sP,bB,wA]
theorem v7(a b:ak):bB .neq (enc a) (enc b)=some (.bool (!decide (a=b))):=by
 simp only[sP,bB,wA]
theorem p7(a:ak):lF (enc a)=some (.int .i64 a.l.length):=by
 simp only[sP,lF,ak.size]
theorem Dp(a:ak){i:Nat}(h:i<a.l.length):dZ .di [enc a,.int .i64 (i:Int)]=some (.int .u8 (a.l[i].toNat:Int)):=by
 show (if 0≤(i:Int) then (a.b.data.toList[(i:Int).toNat]?).map fun b=>I.int .u8 b.toNat else none)=_
 rw[if_pos (by omega),Int.toNat_natCast,Y6 (show i<a.b.data.toList.length from h)];rfl
theorem uw(s:ByteArray)(i j:Nat):(⟨s.extract i j⟩:ak)=ak.of ((s.data.toList.drop i).take (j-i)):=ak.KO (Lib.extract_data s i j)
theorem Ws(a:ak){i j:Nat}(h:i≤j)(h2:j≤a.l.length):dZ (.ss true true) [enc a,.int .i64 (i:Int),.int .i64 (j:Int)]=some (enc (ak.of ((a.l.drop i).take (j-i)))):=by
 show (if 0≤(i:Int)∧(i:Int)≤j∧(j:Int)≤a.b.size then some (I.aj (a.b.extract (i:Int).toNat (j:Int).toNat)) else none)=_
 rw[if_pos ⟨by omega,by omega,by rw[ak.size];omega⟩,Int.toNat_natCast,Int.toNat_natCast];exact congrArg (fun s:ak=>some (enc s)) (uw a.b i j)
theorem wa(a:ak){i:Nat}(h2:i≤a.l.length):dZ (.ss true false) [enc a,.int .i64 (i:Int)]=some (enc (ak.of (a.l.drop i))):=by
 show (if 0≤(i:Int)∧(i:Int)≤a.b.size then some (I.aj (a.b.extract (i:Int).toNat a.b.size)) else none)=_
 rw[if_pos ⟨by omega,by rw[ak.size];omega⟩,Int.toNat_natCast];refine (congrArg (fun s:ak=>some (enc s)) (uw a.b i a.b.size)).trans ?_;rw[ak.size,List.take_of_length_le (by simp[ak.l])];rfl
theorem p8(a:ak){j:Nat}(h2:j≤a.l.length):dZ (.ss false true) [enc a,.int .i64 (j:Int)]=some (enc (ak.of (a.l.take j))):=by
 show (if 0≤(j:Int)∧(j:Int)≤a.b.size then some (I.aj (a.b.extract 0 (j:Int).toNat)) else none)=_
 rw[if_pos ⟨by omega,by rw[ak.size];omega⟩,Int.toNat_natCast];exact congrArg (fun s:ak=>some (enc s)) (uw a.b 0 j)
theorem Dl(n:Int):gK 1 (some [.int .u8 n])=some (.slice 1 [.int .u8 n]):=by
 simp[gK,I.size,I.b6,I.br]
theorem Dk(A:ab)(n:Int):ku (cM A 1 (.slice 1 [.int .u8 n]))=some (enc (ak.of [UInt8.ofNat n.toNat])):=rfl
theorem p9(b:UInt8):enc b=I.int .u8 (b.toNat:Int):=rfl
theorem Dn(s:ak):kZ (enc s)=some (s.l.map enc):=rfl
theorem Dg{A:ab}{d:Nat}{k:ab→bR}{l:List UInt8}(hd:A.o d=none) :
  ∃ p:Nat→Prop,gY A (some d) k (some (l.map enc))=.any p fun m=>k ((A.aP d (.box (.agg ((l++List.replicate m 0).map enc)))).aK (some d) (.view d [] 1 0 l.length)):=by
 refine ⟨fun m=>(l.map enc).length+m≤maxLen,?_⟩;have e:∀ m,(l++List.replicate m (0:UInt8)).map enc=l.map enc++List.replicate m (I.int .u8 0):=fun m=>by
  rw[X5,List.map_replicate];rfl
 simp only[gY,hd,e,Z2]
theorem aX.ez{P:Program}{Y:Value→List I→List (Nat×ah)→bV→Prop}{K:ab→Prop}{ts:List (Nat×I)}{os:List (Nat×ah)}{d:Nat}{rest:List ar}{l:List UInt8}(hd:aE os d=none)
  (h:∀ m,aX P Y false K (ao rest (aw ((d,.view d [] 1 0 l.length)::ts) ((d,.box (.agg ((l++List.replicate m 0).map enc)))::os)))):aX P Y false K (gY (aw ts os) (some d) (ao rest) (some (l.map enc))):=by
 obtain ⟨p,e⟩:=Dg (A:=aw ts os) (k:=ao rest) (l:=l) hd;rw[e];exact .any rfl fun m _=>h m
theorem zF{A:ab}{n:Nat}{l q:List UInt8}(h:A.o n=some (.box (.agg ((l++q).map enc)))):ba true A (.view n [] 1 0 l.length)=some (enc l):=by
 have h1:ba true A (.view n [] 1 0 l.length)=kK 1 0 l.length (some ((l++q).map enc)):=by
  rw[uF,h];rfl
 have e:kK 1 0 l.length (some ((l++q).map enc))=some (enc ((l++q).take l.length)):=ri rfl;rw[h1,e,List.take_left]
theorem bD.ez{P:Program}{Y:Value→List I→List (Nat×ah)→bV→Prop}{hs:List FuncId}{K:ab→Prop}{ts:List (Nat×I)}{os:List (Nat×ah)}{d:Nat}{rest:List ar}{l:List UInt8}(hd:aE os d=none)
  (h:∀ m,bD P Y hs K (ao rest (aw ((d,.view d [] 1 0 l.length)::ts) ((d,.box (.agg ((l++List.replicate m 0).map enc)))::os)))):bD P Y hs K (gY (aw ts os) (some d) (ao rest) (some (l.map enc))):=by
 obtain ⟨p,e⟩:=Dg (A:=aw ts os) (k:=ao rest) (l:=l) hd;rw[e];exact .any fun m _=>h m
theorem Dm(a:ak):bQ none (enc a)=true:=rfl
theorem bj :
  (∀ d rest A p xs,bn A d (.prim p xs) rest=bZ (dZ p (xs.map (af A))) (cw d rest A))∧(∀ d rest A x,bn A d (.b2s x) rest=bZ (ku (cM A 1 (af A x))) (cw d rest A)) ∧
  (∀ b,dZ (.mn b) [.cJ]=some (.bool (!b)))∧(∀ b t v,dZ (.mn b) [.iface t v]=some (.bool b))∧(type_of% @vZ)∧(type_of% @v7)∧(type_of% @p7)∧(type_of% @Dl)∧(type_of% @Dk)∧(type_of% @Dm)∧(∀ d rest A x,bn A d (.ez x) rest=gY A d (ao rest) (kZ (af A x)))∧(type_of% @Dn)∧(∀ a b,dZ .min2 [.int .i64 a,.int .i64 b]=some (.int .i64 (if b<a then b else a))) ∧
  (∀ a b,bB .eql (.int .u8 a) (.int .u8 b)=some (.bool (a==b)))∧(∀ a b,bB .neq (.int .u8 a) (.int .u8 b)=some (.bool (a != b)))∧(∀ a b,bB .lss (.int .u8 a) (.int .u8 b)=some (.bool (decide (a<b))))∧(∀ a b,bB .gtr (.int .u8 a) (.int .u8 b)=some (.bool (decide (a>b)))) ∧
  (∀ a b,bB .leq (.int .u8 a) (.int .u8 b)=some (.bool (decide (a≤b))))∧(∀ a b,bB .geq (.int .u8 a) (.int .u8 b)=some (.bool (decide (a≥b))))∧(∀ a b,bB .sub (.int .u8 a) (.int .u8 b)=some (.int .u8 (IntKind.u8.wrap (a-b)))) :=
 ⟨fun _ _ _ _ _=>rfl,fun _ _ _ _=>rfl,fun _=>rfl,fun _ _ _=>rfl,vZ,v7,p7,Dl,Dk,Dm,fun _ _ _ _=>rfl,Dn,fun _ _=>rfl,fun _ _=>rfl,fun _ _=>rfl,fun _ _=>rfl,fun _ _=>rfl,fun _ _=>rfl,fun _ _=>rfl,fun _ _=>rfl⟩
end Go.Abs
namespace Go.Abs
open Go
open Enc (enc)
def iT(c:UInt8)(gH:Bool):List UInt8→List (List UInt8)
 | []=>[[]]
 |b::l=>if b=c then (if gH then [b] else [])::iT c gH l else match iT c gH l with
  |h::t=>(b::h)::t
  | []=>[[b]]
theorem JC(c:UInt8)(gH:Bool)(l:List UInt8):iT c gH l≠[]:=by
 cases l with
 |nil=>simp[iT]
 |cons b l =>
  simp only[iT];split
  ·simp
  ·split <;>simp
theorem zb{c:UInt8}{gH:Bool} : ∀ {l:List UInt8},(∀ b∈l,b≠c)→iT c gH l=[l]
 | [],_=>rfl
 |b::l,h=>by
  simp only[iT,if_neg (h b (by simp)),zb (l:=l) fun x hx=>h x (by simp[hx])]
theorem za{c:UInt8}{gH:Bool} : ∀ {x:List UInt8} (y:List UInt8),(∀ b∈x,b≠c)→iT c gH (x++c::y)=(x++if gH then [c] else [])::iT c gH y
 | [],y,_=>by cases gH <;>simp[iT]
 |b::x,y,h=>by
  simp only[Y3,iT,if_neg (h b (by simp)),za (x:=x) y fun z hz=>h z (by simp[hz])]
def fL(b:UInt8):Bool:=decide (48≤b.toNat∧b.toNat≤57)
def dW(acc:Nat):List UInt8→Option Nat
 | []=>some acc
 |b::l=>if fL b then dW (acc*10+(b.toNat-48)) l else none
def sd(most:Nat)(w:List UInt8):Option Nat:=if w=[]∨most<w.length∨(w.head?=some 48∧1<w.length) then none else dW 0 w
theorem zd(x y:List UInt8):∀ acc,dW acc (x++y)=(dW acc x).bind fun n=>dW n y:=by
 induction x with
 |nil=>intro acc;rfl
 |cons b x ih =>
  intro acc;simp only[Y3,dW];split
  ·exact ih _
  ·rfl
theorem ze:∀ (l:List UInt8) (acc n:Nat),dW acc l=some n→n<(acc+1)*10^l.length
 | [],acc,n,h=>by simp only[dW,v6] at h;simp;omega
 |b::l,acc,n,h=>by
  simp only[dW] at h;split at h
  case isFalse=>cases h
  rename_i hd;simp only[fL,decide_eq_true_eq] at hd;have:=ze l _ n h;have h2:(acc*10+(b.toNat-48)+1)*10^l.length≤((acc+1)*10)*10^l.length:=Nat.mul_le_mul_right _ (by omega);rw[Y5,Nat.pow_succ]
  calc n<_:=this
   _≤_:=h2
   _=_:=by rw[Nat.mul_assoc,Nat.mul_comm 10 (10^l.length)]
theorem J4{l:List UInt8}{n k:Nat}(h:dW 0 l=some n)(hl:l.length≤k):n<10^k:=by
 have:=ze l 0 n h;have h2:10^l.length≤10^k:=Nat.pow_le_pow_right (by omega) hl;omega
theorem BE:∀ (l:List UInt8) (acc:Nat),(acc+1)*10^l.length≤1000000000000000000→Lib.parseUint10 acc l=match dW acc l with | some n=>.ok n | none=>Lib.parseUint10 0 [97]
 | [],acc,_=>rfl
 |b::l,acc,h=>by
  have hp:1≤10^l.length:=Nat.one_le_pow _ _ (by decide);rw[Y5,Nat.pow_succ] at h;have hacc:(acc+1)*10≤1000000000000000000:=by
   calc (acc+1)*10=(acc+1)*(1*10):=by omega
    _≤(acc+1)*(10^l.length*10):=Nat.mul_le_mul_left _ (Nat.mul_le_mul_right _ hp)
    _≤_:=h
  simp only[Lib.parseUint10,dW,fL,decide_eq_true_eq];split
  ·rename_i hd;rw[if_neg (by omega),if_neg (by omega)];refine BE l _ ?_
   calc (acc*10+(b.toNat-48)+1)*10^l.length≤((acc+1)*10)*10^l.length:=Nat.mul_le_mul_right _ (by omega)
    _=(acc+1)*(10^l.length*10):=by rw[Nat.mul_assoc,Nat.mul_comm 10 (10^l.length)]
    _≤_:=h
  ·rfl
theorem Al{x y:List UInt8}(h:x≠[]):(x++y).head?=x.head?:=by cases x with
 |nil=>exact absurd rfl h
 |cons _ _=>rfl
theorem zh(d:Nat)(h:d<10):(UInt8.ofNat (48+d)).toNat=48+d:=by simp;omega
theorem qW{u:Nat}(h:¬ u<10):Lib.decDigits u=Lib.decDigits (u / 10)++[UInt8.ofNat (48+u%10)]:=by
 rw[Lib.decDigits,dif_neg h]
theorem oT:∀ u:Nat,dW 0 (Lib.decDigits u)=some u∧Lib.decDigits u≠[]∧((Lib.decDigits u).head?=some 48→u=0)
 |u=>by
  by_cases h:u<10
  ·rw[Lib.decDigits_one h];have e:=zh u h;refine ⟨?_,by simp,fun h0 =>?_⟩
   ·have hd:fL (UInt8.ofNat (48+u))=true:=by simp only[fL,e,decide_eq_true_eq];omega
    simp only[dW,hd,if_true,e]
    congr 1;omega
   ·simp only[List.head?_cons,v6] at h0;have:=congrArg UInt8.toNat h0;rw[e] at this;simpa using this
  ·obtain ⟨h1,h2,h3⟩:=oT (u / 10);rw[qW h];have e:=zh (u%10) (by omega);refine ⟨?_,by simp,fun h0 =>?_⟩
   ·rw[zd,h1];have hd:fL (UInt8.ofNat (48+u%10))=true:=by simp only[fL,e,decide_eq_true_eq];omega
    simp only[zz0,dW,hd,if_true,e]
    congr 1;omega
   ·rw[Al h2] at h0;have:=h3 h0;omega
termination_by u=>u
decreasing_by omega
theorem zg:∀ (k:Nat) (w:List UInt8) (n:Nat),w.length≤k→w≠[]→¬ (w.head?=some 48∧1<w.length)→dW 0 w=some n→Lib.decDigits n=w
 |0,w,n,hk,hne,_,_=>absurd (X7 (by omega)) hne
 |k+1,w,n,hk,hne,hz,h=>by
  have hw:=List.dropLast_concat_getLast hne;generalize w.getLast hne=b at hw;generalize w.dropLast=x at hw;subst hw;rw[zd] at h;cases hx:dW 0 x with
  |none=>rw[hx] at h;cases h
  |some m =>
   rw[hx] at h;simp only[zz0,dW] at h;split at h
   case isFalse=>cases h
   rename_i hd;simp only[v6] at h;simp only[fL,decide_eq_true_eq] at hd;have hb:UInt8.ofNat (48+(b.toNat-48))=b:=by
    rw[show 48+(b.toNat-48)=b.toNat by omega];simp
   by_cases hx0:x=[]
   ·subst hx0;simp only[dW,v6] at hx;subst hx;have hn:n=b.toNat-48:=by omega
    rw[Lib.decDigits_one (show n<10 by omega),hn,hb];rfl
   ·have hl:x.length+1≤k+1:=by simpa using hk
    have hz':¬ (x.head?=some 48):=fun e=>hz ⟨by rw[Al hx0];exact e,by have:=List.length_pos_iff.2 hx0;simp;omega⟩;have ih:=zg k x m (by omega) hx0 (fun e=>hz' e.1) hx;have hm:m≠0:=fun e=>by
     subst e;rw[Lib.decDigits_one (by omega)] at ih;rw[←ih] at hz';exact hz' rfl
    rw[qW (show ¬ n<10 by omega),show n / 10=m by omega,ih,show n%10=b.toNat-48 by omega,hb]
theorem Um{most:Nat}(hm:most≤18){w:List UInt8}{n:Nat}(h:sd most w=some n):Lib.atoiAll w=.ok (n:Int)∧w.length≤most∧Lib.itoa (n:Int)=w∧n<10^most:=by
 simp only[sd] at h;split at h
 ·cases h
 rename_i hc;rw[not_or,not_or] at hc;obtain ⟨h1,h2,h3⟩:=hc;have hs:=J4 h (show w.length≤most by omega);have hb:n<9223372036854775808:=by
  have h5:10^most≤10^18:=Nat.pow_le_pow_right (by omega) hm;omega
 have hd:=zg w.length w n (Z5 _) h1 h3 h;refine ⟨?_,by omega,by rw[Lib.itoa_nonneg];exact hd,hs⟩;cases w with
 |nil=>exact absurd rfl h1
 |cons c r =>
  have hdc:fL c=true:=by
   simp only[dW] at h;split at h
   ·assumption
   ·cases h
  simp only[fL,decide_eq_true_eq] at hdc;have hp:=BE (c::r) 0 (by
   have:10^(c::r).length≤10^18:=Nat.pow_le_pow_right (by omega) (by omega);omega)
  rw[h] at hp;simp only[Lib.atoiAll];rw[if_neg (by omega),Lib.parseMag,if_neg (by simp),hp];simp only;rw[if_neg (by omega),if_neg (by omega),if_neg (by omega)]
theorem J7{n:Int}(h:0≤n){c:UInt8}(hc:c.toNat<48):∀ b∈Lib.itoa n,b≠c:=by
 obtain ⟨m,rfl⟩:=Y2 h;rw[Lib.itoa_nonneg];have key:∀ (l:List UInt8) (acc:Nat),dW acc l≠none→∀ b∈l,b≠c:=by
  intro l
  induction l with
  |nil=>intro _ _ b hb;cases hb
  |cons x l ih =>
   intro acc hne b hb;simp only[dW] at hne;split at hne
   case isFalse=>exact absurd rfl hne
   rename_i hd;simp only[fL,decide_eq_true_eq] at hd;rcases zz1.1 hb with rfl | hb
   ·intro e;rw[e] at hd;omega
   ·exact ih _ hne b hb
 exact key _ 0 (by rw[(oT m).1];simp)
theorem Dy{α:Type}[Enc α](A:ab){l:List α}{esz:Nat}{k:Nat}(hs:Enc.sz α=esz)(h:k≤l.length):jj A esz none (some (.int .i64 (k:Int))) none (enc l)=some (enc (l.take k)):=by
 simp only[jj,iV,hs,if_true,iw,gJ,Z2];rw[if_pos (by omega)];simp only[Option.isSome_none,Z4,false_and,if_false,Int.toNat_natCast,Int.toNat_zero,List.drop_zero];rw[List.map_take]
end Go.Abs
namespace Go.Abs
open Go Go.Shelf Go.Proofs
open Enc (enc)
theorem Fz{w:World}{D:aD}{x y:ak}{vs:List Value}(hv:al w D cd [enc x,enc y] vs):vs=[.string x.b,.string y.b]:=by
 have hv':al w D cd [.aj x.b,.aj y.b] vs:=hv;simp only[al] at hv';obtain ⟨v,rest,cs,rfl,h1,h2,v2,rest2,cs2,rfl,h3,h4,rfl⟩:=hv';rw[(fG (fb h1 h2)).1,(fG (fb h3 h4)).1]
theorem Jz{P:Program}{ρ:Ren}(au:Lays.n104 P ρ)(hc:dJ P (ρ.f 104)=true)(s p:ak):aR P (ρ.f 104) [enc s,enc p] (.tuple [enc (ak.of (Lib.trimSuffix s.l p.l)),enc (Lib.hasSuffix s.l p.l)]):=by
 refine ⟨hc,fun w D vs hl hD hv =>?_⟩;have hsz:s.b.size≤maxLen:=by
  have hv':al w D cd [.aj s.b,.aj p.b] vs:=hv;simp only[al] at hv';obtain ⟨v,rest,cs,rfl,h1,h2,_⟩:=hv';exact (fG (fb h1 h2)).2
 rw[Fz hv];refine (Any.strings_CutSuffix au s.b p.b w (by unfold maxLen at hsz;omega)).mono ?_;rintro e w' ⟨rfl,rfl⟩;refine ⟨_,D,rfl,⟨[_,_],rfl,?_⟩,Go.RowKit.Below.refl _ w',hD,fun _ _ h _=>h⟩;simp only[al];refine ⟨_,_,[_],rfl,by simp[aW,I.isAgg,enc];rfl,?_,_,_,[_],rfl,by simp[aW,I.isAgg,enc];rfl,?_,rfl⟩
 ·show ae _ _ _ (.aj _) _
  simp only[ae];refine ⟨rfl,?_⟩
  show (Lib.trimSuffix s.l p.l).toArray.size≤maxLen
  have h1:(Lib.trimSuffix s.l p.l).length≤s.l.length:=by unfold Lib.trimSuffix;split <;>simp
  rw[ak.size] at hsz;simp only[List.size_toArray];omega
 ·show ae _ _ _ (.bool _) _
  simp only[ae];rfl
def gw(T:TypeId)(l:List UInt8):I:=match Lib.atoiAll l with
 | .ok v=>.tuple [enc v,.cJ]
 | .range=>.tuple [enc (Lib.atoiSat l),.iface T .any]
 | _ =>.tuple [enc (0:Int),.iface T .any]
theorem Jx {P : Program} {ρ : Ren} (au : LaysC.n172 P ρ) (hc : dJ P (ρ.f 172) = true) (g1 : P.globalNamed "strconv.ErrSyntax" = some (ρ.g 15)) (g2 : P.globalNamed "strconv.ErrRange" = some (ρ.g 16)) {T : TypeId} (hT : ρ.t 168 = T) (s : ak) (hs : s.l.length ≤ 281474976710656) : aR P (ρ.f 172) [enc s] (gw T s.l) := by
 refine ⟨hc,fun w D vs hl hD hv =>?_⟩;subst hT;have hv':al w D cd [.aj s.b] vs:=hv;simp only[al] at hv';obtain ⟨v,rest,cs,rfl,h1,h2,rfl⟩:=hv';rw[(fG (fb h1 h2)).1];rw[←ak.size] at hs;obtain ⟨_, hv1, t1, p1, rfl⟩ := hl.rA (n := "strconv.ErrSyntax") (k := .ny) (by simp [mh]) g1
 obtain ⟨_, hv2, t2, p2, rfl⟩ := hl.rA (n := "strconv.ErrRange") (k := .ny) (by simp [mh]) g2
 have fail:∀ (n:Int) (w':World) (N:Nat),IntKind.i64.min≤n∧n≤IntKind.i64.max→Go.RowKit.Below w.heap.size w w' →
   ∃ v D',(Ending.returned (.tuple #[.int .i64 n,.iface (ρ.t 168) (.pointer (some ⟨N,0,none⟩))])=.returned v)∧aO w' D' cd (.tuple [enc n,.iface (ρ.t 168) .any]) v∧Go.RowKit.Below w.heap.size w w'∧(∀ b o,D' b o→b<w'.heap.size)∧∀ b o,D' b o→b<w.heap.size→D b o:=by
  intro n w' N hn hb;refine ⟨_,D,rfl,⟨[_,_],rfl,?_⟩,hb,fun b o hd=>Nat.lt_of_lt_of_le (hD b o hd) hb.size,fun _ _ h _=>h⟩;simp only[al];refine ⟨_,_,[_],rfl,by simp[aW,I.isAgg,enc];rfl,?_,_,_,[_],rfl,by simp[aW,I.isAgg];rfl,?_,rfl⟩
  ·show ae _ _ _ (.int .i64 n) _
   simp only[ae,true_and];exact hn
  ·simp only[ae];exact ⟨_,[_],rfl,by simp[aW,I.isAgg];rfl,_,rfl,rfl⟩
 have hmin:IntKind.i64.min=-9223372036854775808:=by decide
 have hmax:IntKind.i64.max=9223372036854775807:=by decide
 cases hr:Lib.atoiAll s.b.data.toList with
 |ok n =>
  refine (Any.strconv_Atoi_ok au s.b (by omega) n hr w).mono ?_;rintro e w' ⟨rfl,hw⟩;have hb:Go.RowKit.Below w.heap.size w w':=by
   rcases hw with rfl | ⟨t,rfl⟩
   ·exact Go.RowKit.Below.refl _ _
   ·exact Lib.bytesWorld_below _ _ _
  have hn:=Lib.atoiAll_bounds hr;have e0:gw (ρ.t 168) s.l=.tuple [enc n,.cJ]:=by
   show gw (ρ.t 168) s.b.data.toList=_
   simp only[gw,hr]
  rw[e0];refine ⟨_,D,rfl,⟨[_,_],rfl,?_⟩,hb,fun b o hd=>Nat.lt_of_lt_of_le (hD b o hd) hb.size,fun _ _ h _=>h⟩;simp only[al];refine ⟨_,_,[_],rfl,by simp[aW,I.isAgg,enc];rfl,?_,_,_,[_],rfl,by simp[aW,I.isAgg];rfl,?_,rfl⟩
  ·show ae _ _ _ (.int .i64 n) _
   simp only[ae,true_and];rw[hmin,hmax];omega
  ·simp only[ae]
 |range =>
  have e0:gw (ρ.t 168) s.l=.tuple [enc (Lib.atoiSat s.l),.iface (ρ.t 168) .any]:=by
   show gw (ρ.t 168) s.b.data.toList=_
   simp only[gw,hr];rfl
  rw[e0];refine (Any.strconv_Atoi_range_var au s.b hs hr t2 p2 w hv2).mono ?_;rintro e w' ⟨N,rfl,_,_,hb⟩;have hn:=Lib.atoiSat_bounds s.b.data.toList;exact fail _ w' N (by rw[hmin,hmax];exact hn) hb
 | _ =>
  have e0:gw (ρ.t 168) s.l=.tuple [enc (0:Int),.iface (ρ.t 168) .any]:=by
   show gw (ρ.t 168) s.b.data.toList=_
   simp only[gw,hr]
  rw[e0];refine (Any.strconv_Atoi_syntax_var au s.b hs hr t1 p1 w hv1).mono ?_;rintro e w' ⟨N,rfl,_,_,hb⟩;exact fail 0 w' N (by rw[hmin,hmax];omega) hb
end Go.Abs
namespace Go.Abs
open Go Go.Shelf Go.Proofs
open Enc (enc)
def u3(n:Int):ak:=ak.of (Lib.itoa n)
open Go.Sort Go.RowKit in
theorem tL(w:World)(k:Nat)(os:Array Obj):Go.RowKit.Below w.heap.size w (grow (w.drewN k) os) :=
 ⟨rfl,rfl,rfl,by simp,fun i hi=>by rw[heap_grow_old _ _ (by simpa using hi)];rfl⟩
theorem JB{P:Program}{ρ:Ren}(au:LaysM.n171 P ρ)(hc:dJ P (ρ.f 171)=true){g:Nat}(hg:P.globalNamed rM=some g)(n:Int):aR P (ρ.f 171) [enc n] (enc (u3 n)):=by
 refine ⟨hc,fun w D vs hl hD hv =>?_⟩;have hv':al w D cd [.int .i64 n] vs:=hv;simp only[al] at hv';obtain ⟨v,rest,cs,rfl,h1,h2,rfl⟩:=hv';obtain ⟨rfl,h3,h4⟩:=da (fb h1 h2);have h3':-9223372036854775808≤n:=h3;have h4':n≤9223372036854775807:=h4;obtain ⟨_,htab,rfl⟩:=hl.rA (n:=rM) (k:=.sw) (by simp[mh]) hg;refine (Any.strconv_Itoa au n h3' h4' w htab).mono ?_;rintro e w' ⟨rfl,k,os,rfl⟩;refine ⟨_,D,rfl,⟨[.string ⟨(Lib.itoa n).toArray⟩],by simp[aW,I.isAgg,enc],?_⟩,tL w k os,fun b o hd=>Nat.lt_of_lt_of_le (hD b o hd) (tL w k os).size,fun _ _ h _=>h⟩;have hlen:=Lib.itoa_length_le n h3' h4'
 show ae _ _ _ (.aj _) _
 simp only[ae];refine ⟨rfl,?_⟩
 show (Lib.itoa n).toArray.size≤maxLen
 simp only[List.size_toArray,maxLen];omega
theorem wz{w:World}{D:aD}{s:ak}{p:List I}{vs:List Value}(hv:al w D cd (enc s::p) vs):∃ rest,vs=.string s.b::rest∧s.b.size≤maxLen∧al w D cd p rest:=by
 have hv':al w D cd (.aj s.b::p) vs:=hv;simp only[al] at hv';obtain ⟨v,rest,cs,rfl,h1,h2,h3⟩:=hv';obtain ⟨rfl,h4⟩:=fG (fb h1 h2);exact ⟨rest,rfl,h4,h3⟩
theorem Db{w:World}{D:aD}{E:aN}{l:List UInt8}(h:l.length≤maxLen):aO w D E (enc (ak.of l)) (.string ⟨l.toArray⟩):=by
 refine ⟨[.string ⟨l.toArray⟩],by simp[aW,I.isAgg,enc,ak.of],?_⟩
 show ae _ _ _ (.aj _) _
 simp only[ae];exact ⟨rfl,by show l.toArray.size≤maxLen;simpa using h⟩
theorem JA{P:Program}{ρ:Ren}(au:Lays.n137 P ρ)(hc:dJ P (ρ.f 137)=true)(s:ak)(c:UInt8):aR P (ρ.f 137) [enc s,.int .u8 c.toNat] (enc (Lib.indexByte s.l c)):=by
 refine ⟨hc,fun w D vs hl hD hv =>?_⟩;obtain ⟨rest,rfl,hsz,hv2⟩:=wz hv;simp only[al] at hv2;obtain ⟨v,rest2,cs,rfl,h1,h2,rfl⟩:=hv2;obtain ⟨rfl,_⟩:=da (fb h1 h2);have key:=Any.strings_IndexByte au s.b (c.toNat:Int) w;have hcc:((c.toNat:Int)).toNat.toUInt8=c:=by simp
 rw[hcc] at key;refine Calls.mono key ?_;rintro e w' ⟨rfl,rfl⟩;refine ⟨_,D,rfl,⟨[_],by simp[aW,I.isAgg,enc];rfl,?_⟩,Go.RowKit.Below.refl _ w',hD,fun _ _ h _=>h⟩
 show ae _ _ _ (.int .i64 (Lib.indexByte s.l c)) _
 simp only[ae];refine ⟨rfl,?_⟩;have g1:=Lib.indexByte_ge s.l c;have g2:∀ l:List UInt8,Lib.indexByte l c≤l.length:=by
  intro l
  induction l with
  |nil=>simp[Lib.indexByte]
  |cons b l ih =>
   unfold Lib.indexByte
   (repeat' split) <;>simp only[Y5] <;>omega
 have g3:=g2 s.l;rw[ak.size] at hsz;have hmin:IntKind.i64.min=-9223372036854775808:=by decide
 have hmax:IntKind.i64.max=9223372036854775807:=by decide
 unfold maxLen at hsz;rw[hmin,hmax];omega
theorem Jy{P:Program}{ρ:Ren}(au:LaysM.n316 P ρ)(hc:dJ P (ρ.f 316)=true)(s:ak)(hs:s.l.length≤281474976710656):aR P (ρ.f 316) [enc s] (enc s):=by
 refine ⟨hc,fun w D vs hl hD hv =>?_⟩;obtain ⟨rest,rfl,hsz,hv2⟩:=wz hv;simp only[al] at hv2;subst hv2;refine (Any.stringslite_Clone au s.b w (by rw[ak.size];exact hs)).mono ?_;rintro e w' ⟨rfl,hb⟩;refine ⟨_,D,rfl,⟨[_],by simp[aW,I.isAgg,enc];rfl,?_⟩,hb,fun b o hd=>Nat.lt_of_lt_of_le (hD b o hd) hb.size,fun _ _ h _=>h⟩
 show ae _ _ _ (.aj s.b) _
 simp only[ae,true_and];exact hsz
end Go.Abs
namespace Go.Abs
open Go
theorem uc:∀ (k n:Nat),n<10^(k+1)→(Lib.decDigits n).length≤k+1
 |0,n,h=>by rw[Lib.decDigits_one (by omega)];simp
 |k+1,n,h=>by
  by_cases q:n<10
  ·rw[Lib.decDigits_one q];simp
  ·rw[qW q,Z1];have:=uc k (n / 10) (by rw[Nat.pow_succ] at h;omega);simp only[Y5,X9];omega
theorem Ul{k n:Nat}(h:n<10^(k+1)):sd (k+1) (Lib.itoa (n:Int))=some n:=by
 rw[Lib.itoa_nonneg];obtain ⟨h1,h2,h3⟩:=oT n;have hl:=uc k n h;simp only[sd];rw[if_neg,h1];rintro (h | h | ⟨h4,h5⟩)
 ·exact h2 h
 ·omega
 ·rw[h3 h4,Lib.decDigits_one (by omega)] at h5;simp at h5
theorem Tt{n:Int}(h:0≤n):Lib.itoa n≠[]:=by
 obtain ⟨m,rfl⟩:=Y2 h;rw[Lib.itoa_nonneg];exact (oT m).2.1
theorem pq{k:Nat}{n:Int}(h:0≤n∧n<((10^(k+1):Nat):Int)):(Lib.itoa n).length≤k+1:=by
 obtain ⟨m,rfl⟩:=Y2 h.1;rw[Lib.itoa_nonneg];exact uc k m (by omega)
end Go.Abs
namespace Go.Abs
open Go Go.RowKit
open Enc (enc)
def rL:Option Nat→Code
 |none=>.ret
 |some id=>.exit id
def uu:Option Nat→Exit
 |none=>.ret
 |some id=>.exit id
def ox(o:Obj)(A:ab)(os:List (Nat×ah)):Prop:=∀ n x,aE (bK o os) n=some x→A.o n=some x∧x.only (aC (bK o os))=true∧x.ed=true
def C4(o:Obj)(In:List (Nat×ah)→Prop)(Ix:Option Nat→List (Nat×ah)→Prop):Exit→ab→Prop
 | .normal,A=>∃ os,ox o A os∧In os
 | .ret,A=>∃ os,ox o A os∧Ix none os
 | .exit id,A=>∃ os,ox o A os∧Ix (some id) os
 |_,_=>False
section
variable {c:b8} {Q:Exit→ab→Prop}
theorem Tc{o:Obj}{A:ab}{os:List (Nat×ah)}(h:ox o A os)(o':Obj):∀ n x,aE (bK o' os) n=some x→(A.aP 1999999 (.cZ o')).o n=some x∧x.only (aC (bK o' os))=true∧x.ed=true:=fun n x hx=>by
 have e:aC (bK o' os)=aC (bK o os):=by funext m;rw[jy,jy]
 rw[e];by_cases hn:n=1999999
 ·subst hn;rw[nO,if_pos rfl,v6] at hx;subst hx;exact ⟨by simp[ab.aP],rfl,rfl⟩
 ·rw[nO,if_neg hn] at hx;obtain ⟨h1,h2⟩:=h n x (by rw[nO,if_neg hn];exact hx);exact ⟨by simp only[ab.aP,if_neg hn];exact h1,h2⟩
end
mutual
theorem mD{ρ:Nat→Nat}(h:∀ n,ρ n=n):∀ x:I,x.aQ ρ=x
 | .agg fs | .tuple fs=>by simp only[I.aQ];rw[kW h fs]
 | .slice _ es=>by simp only[I.aQ];rw[kW h es]
 | .ref x=>by simp only[I.aQ];rw[mD h x]
 | .func _ caps=>by simp only[I.aQ];rw[kW h caps]
 | .iface _ v=>by simp only[I.aQ];rw[mD h v]
 | .ptr _ _ | .own _ _ | .view _ _ _ _ _ | .mref _ | .cP _=>by simp only[I.aQ,h]
 | .cU ks vs=>by simp only[I.aQ];rw[kW h ks,kW h vs]
 | .bool _ | .int _ _ | .aj _ | .nilp | .cY | .cJ | .any | .raw _ | .nils _ | .c0 _ | .undef | .cS=>by simp only[I.aQ]
theorem kW{ρ:Nat→Nat}(h:∀ n,ρ n=n):∀ xs:List I,I.cR ρ xs=xs
 | []=>rfl
 |x::xs=>by simp only[I.cR];rw[mD h x,kW h xs]
end
theorem ah.mD{ρ:Nat→Nat}(h:∀ n,ρ n=n):∀ x:ah,x.aQ ρ=x
 | .box x=>by simp only[ah.aQ,Abs.mD h]
 | .bE _ _ es=>by simp only[ah.aQ,kW h]
 | .cZ _=>rfl
 | .dG _ _=>rfl
 | .bW _ _=>by simp only[ah.aQ,kW h]
 | .it _ _ _ _=>by simp only[ah.aQ,kW h]
theorem V3(os:List (Nat×ah)):cV [] os=os:=by
 simp only[cV];have:(fun q:Nat×ah=>(bp [] q.1,q.2.aQ (bp [])))=id:=by
  funext q
  rw[ah.mD (ρ:=bp []) (fun n=>rfl)];rfl
 rw[this,List.map_id]
theorem AT(a b:List (Nat×ah))(n:Nat):aE (a++b) n=match aE a n with
  |some x=>some x
  |none=>aE b n:=by
 induction a with
 |nil=>rfl
 |cons q a ih =>
  obtain ⟨k,v⟩:=q;simp only[Y3,aE];split
  ·rfl
  ·exact ih
theorem eV.none{os os':List (Nat×ah)}(h:eV os os'){n:Nat}(hn:n<1000000):aE os' n=none:=by
 cases hx:aE os' n with
 |none=>rfl
 |some x =>
  have h1:aC os' n=true:=by simp[aC,hx]
  rw[h.same] at h1;exact absurd (h.lD n h1) (by omega)
theorem bG.slots{ts ts':List (Nat×I)}{os os':List (Nat×ah)}(h1:cG ts ts')(h2:∀ n,aE os n=aE os' n):bG (aw ts os) (aw ts' os'):=by
 have e:aw ts os=aw ts os':=by
  simp only[aw];congr 1;funext n;exact h2 n
 rw[e];rintro c a w ⟨D,E,hs⟩;refine ⟨D,E,hs.sz,hs.eb,fun t =>?_,hs.db,hs.cC,hs.cI,hs.bx,hs.ct,hs.dp,hs.eD,hs.cj,hs.eF,hs.fi⟩;rcases wB h1 t with h | h
 ·simp only[aw];rw[h];simp[aO]
 ·have:=hs.dw t;simp only[aw] at *;rw[h];exact this
theorem xv{os osk os2 ow:List (Nat×ah)}{ts:List (Nat×I)}(h1:eV os osk)(h2:eV os os2)(how:∀ m,aC ow m=true→m<1000000):aw ts (cV [] os2++(ow++osk))=aw ts (ow++os2):=by
 simp only[aw,V3]
 congr 1
 funext n
 simp only[AT];cases hw:aE ow n with
 |none =>
  simp only;cases h3:aE os2 n with
  |some x=>rfl
  |none =>
   simp only;cases h4:aE osk n with
   |none=>rfl
   |some x =>
    have h5:aC osk n=true:=by simp[aC,h4]
    rw[h1.same,←h2.same] at h5;simp[aC,h3] at h5
 |some x =>
  simp only;rw[h2.none (how n (by simp[aC,hw]))]
theorem eH.jv{os osk ow:List (Nat×ah)}(h1:eV os osk)(how:∀ m,aC ow m=true→m<1000000):eH [] osk (ow++osk):=by
 refine ⟨fun m x hx =>?_,fun m m' _ _ h=>h⟩;have hm:aC osk m=true:=by simp[aC,hx]
 have hg:=h1.lD m (by rw[←h1.same];exact hm);obtain ⟨k1,k2⟩:=h1.ok m x hx;refine ⟨?_,k1,k2⟩;rw[ah.mD (ρ:=bp []) (fun n=>rfl)];simp only[bp,AT];cases hw:aE ow m with
 |none=>exact hx
 |some y=>have:=how m (by simp[aC,hw]);omega
theorem dx.jv{os osk os2 os0:List (Nat×ah)}{r:I}(h1:eV os osk)(h2:eV os os2)(hr:r.br=true):dx false [] osk os0 r os2:=by
 refine ⟨fun m x hx=>⟨(h2.ok m x hx).1,(h2.ok m x hx).2,fun h=>by cases h⟩,fun m m' _ _ h=>h,fun m hm=>by rw[h2.same,←h1.same];exact hm,fun m h3 h4 =>?_,lK _ r hr,fun h=>by cases h⟩;rw[h2.same,←h1.same,h4] at h3;cases h3
theorem aX.Xc{P:Program}{Y:Value→List I→List (Nat×ah)→bV→Prop}{K:ab→Prop}{v:Value}{vs:List I}{dst:Option Nat}{rest:List ar}{ts:List (Nat×I)}{os osk ow:List (Nat×ah)}{In Ix:List (Nat×ah)→Prop}
  (hY:Y v vs osk (fun r os2=>(r=.bool true∧In os2)∨(r=.bool false∧Ix os2))) (hk:eV os osk) (hi:∀ os',In os'→eV os os') (hx:∀ os',Ix os'→eV os os') (hcl:I.b6 vs=true) (how:∀ m,aC ow m=true→m<1000000)
  (h1:∀ os2,In os2→aX P Y false K (ao rest ((aw ts (ow++os2)).aK dst (.bool true)))) (h2:∀ os2,Ix os2→aX P Y false K (ao rest ((aw ts (ow++os2)).aK dst (.bool false)))) :
  aX P Y false K (.kE v vs dst rest (aw ts (ow++osk))):=by
 refine .td osk vs _ rfl hY (eH.jv hk how) (xp vs hcl) ?_ ?_
 ·rintro r os' (⟨rfl,h⟩ | ⟨rfl,h⟩)
  ·exact dx.jv hk (hi _ h) rfl
  ·exact dx.jv hk (hx _ h) rfl
 ·rintro r os' (⟨rfl,h⟩ | ⟨rfl,h⟩)
  ·rw[xv hk (hi _ h) how];exact h1 os' h
  ·rw[xv hk (hx _ h) how];exact h2 os' h
theorem Hi(A:ab)(d:Option Nat)(args:List I)(rest:List ar)(v:Value):oP A d args rest (.raw v)=.kE v args d rest A:=rfl
end Go.Abs
namespace Go.Proofs.YtoffnnjbplgnaaaGreatDoor
open Go Go.Abs
open Go.Abs.Enc (enc)
structure Item where
 bf:Int
 no:Int
 deriving DecidableEq,Inhabited
instance:Enc Item where
 enc x:=.agg [.int .i64 x.bf,.int .i64 x.no]
 sz:=2
 aF:=.eC [.one,.one]
 gf:=true
 done _:=rfl
 size _:=by simp[I.size,I.sizes]
 hG _:=by simp[I.aF,I.cB]
 agg _:=rfl
structure ai where
 bf:Int
 no:Int
 kind:Int
 dV:Int
 known:Int
 eS:Int
 fe:Int
 text:List UInt8
 deriving DecidableEq,Inhabited
def ai.bz(r:ai):Item:=⟨r.bf,r.no⟩
def ai.fS(r:ai):Item:=⟨r.eS,r.fe⟩
instance:Enc ai where
 enc r:=.agg [enc r.bz,.int .i64 r.kind,.int .i64 r.dV,.int .i64 r.known,enc r.fS,enc (ak.of r.text)]
 sz:=8
 aF:=.eC [.eC [.one,.one],.one,.one,.one,.eC [.one,.one],.one]
 gf:=true
 done e:=by simp only[I.done,I.ig,Enc.done,Bool.and_self]
 size e:=by simp only[I.size,I.sizes,kH];rfl
 hG e:=by simp only[I.aF,I.cB,eh];rfl
 agg _:=rfl
structure c8 where
 bH:List UInt8
 ef:List UInt8
 deriving DecidableEq,Inhabited
instance:Enc c8 where
 enc r:=.agg [enc (ak.of r.bH),enc (ak.of r.ef)]
 sz:=2
 aF:=.eC [.one,.one]
 gf:=true
 done e:=by simp only[I.done,I.ig,Enc.done,Bool.and_self]
 size e:=by simp only[I.size,I.sizes,kH];rfl
 hG e:=by simp only[I.aF,I.cB,eh];rfl
 agg _:=rfl
structure c7 where
 de:c8
 copy:c8
 deriving DecidableEq,Inhabited
instance:Enc c7 where
 enc r:=.agg [enc r.de,enc r.copy]
 sz:=4
 aF:=.eC [.eC [.one,.one],.eC [.one,.one]]
 gf:=true
 done e:=by simp only[I.done,I.ig,Enc.done,Bool.and_self]
 size e:=by simp only[I.size,I.sizes,kH];rfl
 hG e:=by simp only[I.aF,I.cB,eh];rfl
 agg _:=rfl
structure iL where
 l:List ai
 deriving DecidableEq,Inhabited
instance:Enc iL where
 enc b:=.agg [enc b.l]
 sz:=1
 aF:=.eC [.one]
 gf:=true
 done e:=by simp only[I.done,I.ig,Enc.done,Bool.and_self]
 size e:=by simp only[I.size,I.sizes,kH];rfl
 hG e:=by simp only[I.aF,I.cB,eh];rfl
 agg _:=rfl
theorem nT{fs:List I}{f off:Nat}{v:I}(h1:f<fs.length)(h:I.sizes (fs.take f)=off):fu fs f off v=some v:=by simp[fu,h,h1]
theorem KA:Enc.sz Item=2:=rfl
theorem KC:Enc.sz ak=1:=rfl
theorem KB:Enc.sz c8=2:=rfl
theorem Bm(x:I)(fs:List I)(v:I):fu (x::fs) 0 0 v=some v:=nT (by simp) (by simp[I.sizes])
theorem Bj(a b:Item)(n1 n2 n3:Int)(s:ak)(v:I) :
  (fu [enc a,.int .i64 n1,.int .i64 n2,.int .i64 n3,enc b,enc s] 1 2 v=some v)∧(fu [enc a,.int .i64 n1,.int .i64 n2,.int .i64 n3,enc b,enc s] 2 3 v=some v)∧(fu [enc a,.int .i64 n1,.int .i64 n2,.int .i64 n3,enc b,enc s] 3 4 v=some v) ∧
  (fu [enc a,.int .i64 n1,.int .i64 n2,.int .i64 n3,enc b,enc s] 4 5 v=some v)∧(fu [enc a,.int .i64 n1,.int .i64 n2,.int .i64 n3,enc b,enc s] 5 7 v=some v):=by
 refine ⟨?_,?_,?_,?_,?_⟩ <;>refine nT (t8 rfl) ?_ <;>simp[I.sizes,I.size,kH,KA]
theorem Bh(n1 n2:Int)(v:I):fu [.int .i64 n1,.int .i64 n2] 1 1 v=some v:=nT (t8 rfl) (by simp[I.sizes,I.size])
theorem Bl(a b:ak)(v:I):fu [enc a,enc b] 1 1 v=some v:=nT (t8 rfl) (by simp[I.sizes,kH,KC])
theorem Bk(a b:c8)(v:I):fu [enc a,enc b] 1 2 v=some v:=nT (t8 rfl) (by simp[I.sizes,kH,KB])
theorem DU :
  (∀ x:Item,(enc x).cX=some [.int .i64 x.bf,.int .i64 x.no])∧(∀ r:ai,(enc r).cX=some [enc r.bz,.int .i64 r.kind,.int .i64 r.dV,.int .i64 r.known,enc r.fS,enc (ak.of r.text)])∧(∀ r:c8,(enc r).cX=some [enc (ak.of r.bH),enc (ak.of r.ef)]) ∧
  (∀ r:c7,(enc r).cX=some [enc r.de,enc r.copy])∧(∀ b:iL,(enc b).cX=some [enc b.l])∧(type_of% @Bm)∧(type_of% @Bj)∧(type_of% @Bh)∧(type_of% @Bl)∧(type_of% @Bk) ∧
  (∀ x:Item,bQ (some 2) (enc x)=true)∧(∀ x:ai,bQ (some 8) (enc x)=true)∧(∀ x:c8,bQ (some 2) (enc x)=true)∧(∀ x:c7,bQ (some 4) (enc x)=true)∧(∀ x:iL,bQ (some 1) (enc x)=true)∧(∀ x:ak,bQ none (enc x)=true)∧(∀ x:List ai,bQ none (enc x)=true) ∧
  (∀ r:ai,r.bz.bf=r.bf)∧(∀ r:ai,r.bz.no=r.no)∧(∀ r:ai,r.fS.bf=r.eS)∧(∀ r:ai,r.fS.no=r.fe) ∧
  (∀ (fs:List I) x,(x::fs)[0]?=some x)∧(∀ (fs:List I) x n,(x::fs)[n+1]?=fs[n]?)∧(∀ (fs:List I) x,(x::fs)[1]?=fs[0]?)∧(∀ (fs:List I) x,(x::fs)[2]?=fs[1]?)∧(∀ (fs:List I) x,(x::fs)[3]?=fs[2]?)∧(∀ (fs:List I) x,(x::fs)[4]?=fs[3]?)∧(∀ (fs:List I) x,(x::fs)[5]?=fs[4]?) :=
 ⟨fun _=>rfl,fun _=>rfl,fun _=>rfl,fun _=>rfl,fun _=>rfl,Bm,Bj,Bh,Bl,Bk,fun _=>by rw[gM];rfl,fun _=>by rw[gM];rfl,fun _=>by rw[gM];rfl,fun _=>by rw[gM];rfl,fun _=>by rw[gM];rfl,fun _=>rfl,fun _=>rfl,
  fun _=>rfl,fun _=>rfl,fun _=>rfl,fun _=>rfl,fun _ _=>rfl,fun _ _ _=>rfl,fun _ _=>rfl,fun _ _=>rfl,fun _ _=>rfl,fun _ _=>rfl,fun _ _=>rfl⟩
theorem uo(x y:Item):bP (.aV [.i .i64,.i .i64]) (enc x) (enc y)=some (decide (x=y)):=by
 show bP (.aV [.i .i64,.i .i64]) (.agg [.int .i64 x.bf,.int .i64 x.no]) (.agg [.int .i64 y.bf,.int .i64 y.no])=_
 have:x=y↔x.bf=y.bf∧x.no=y.no:=by cases x;cases y;simp
 simp[bP,gb,ib,this];rfl
theorem zq(x y:ak):bP .s (enc x) (enc y)=some (decide (x=y)):=by
 show bP .s (.aj x.b) (.aj y.b)=_
 simp only[bP];exact congrArg some (wA _ _)
theorem zo(x y:ai):bP (.aV [.aV [.i .i64,.i .i64],.i .i64,.i .i64,.i .i64,.aV [.i .i64,.i .i64],.s]) (enc x) (enc y)=some (decide (x=y)):=by
 show bP (.aV [.aV [.i .i64,.i .i64],.i .i64,.i .i64,.i .i64,.aV [.i .i64,.i .i64],.s]) (.agg [enc x.bz,.int .i64 x.kind,.int .i64 x.dV,.int .i64 x.known,enc x.fS,enc (ak.of x.text)]) (.agg [enc y.bz,.int .i64 y.kind,.int .i64 y.dV,.int .i64 y.known,enc y.fS,enc (ak.of y.text)])=_
 have:x=y↔x.bz=y.bz∧x.kind=y.kind∧x.dV=y.dV∧x.known=y.known∧x.fS=y.fS∧x.text=y.text:=by cases x;cases y;simp[ai.bz,ai.fS,and_assoc]
 rw[bP];simp only[gb,uo,zq,ak.sh];simp[bP,ib,this];rfl
theorem uq(x y:c8):bP (.aV [.s,.s]) (enc x) (enc y)=some (decide (x=y)):=by
 show bP (.aV [.s,.s]) (.agg [enc (ak.of x.bH),enc (ak.of x.ef)]) (.agg [enc (ak.of y.bH),enc (ak.of y.ef)])=_
 have:x=y↔x.bH=y.bH∧x.ef=y.ef:=by cases x;cases y;simp
 rw[bP];simp only[gb,zq,ak.sh];simp[ib,this]
theorem zp(x y:c7):bP (.aV [.aV [.s,.s],.aV [.s,.s]]) (enc x) (enc y)=some (decide (x=y)):=by
 show bP (.aV [.aV [.s,.s],.aV [.s,.s]]) (.agg [enc x.de,enc x.copy]) (.agg [enc y.de,enc y.copy])=_
 have:x=y↔x.de=y.de∧x.copy=y.copy:=by cases x;cases y;simp
 rw[bP];simp only[gb,uq];simp[ib,this]
theorem BH:(∀ r:ai,(enc r).at [0,0]=some (.int .i64 r.bf))∧(∀ r:ai,(enc r).at [0,1]=some (.int .i64 r.no))∧(∀ r:ai,(enc r).at [4,0]=some (.int .i64 r.eS))∧(∀ r:ai,(enc r).at [4,1]=some (.int .i64 r.fe))∧(∀ zs,fA zs []=some zs) ∧
  (∀ (a b:Nat) (l:List Nat),[a]++(b::l)=a::b::l)∧(∀ (a b c:Nat) (l:List Nat),[a,b]++(c::l)=a::b::c::l) :=
 ⟨fun _=>rfl,fun _=>rfl,fun _=>rfl,fun _=>rfl,fun _=>rfl,fun _ _ _=>rfl,fun _ _ _ _=>rfl⟩
theorem aH:(type_of% @BH)∧(type_of% @DU)∧(∀ {α:Type} [Enc α] (aA:Bool) (A:ab) (x:α),ba aA A (enc x)=some (enc x))∧(∀ {α:Type} [Enc α] (x:α),(enc x).cq=true)∧(type_of% @uo)∧(type_of% @zo)∧(type_of% @uq)∧(type_of% @zp)∧(type_of% @yU)∧(type_of% @iK)∧(type_of% @aZ) :=
 ⟨BH,DU,@iU,@eY,uo,zo,uq,zp,yU,iK,aZ⟩
theorem gj{i n:Nat}(h:i<n):decide ((i:Int)<(n:Int))=true:=by simp;omega
theorem gO{i n:Nat}(h:¬ i<n):decide ((i:Int)<(n:Int))=false:=by simp;omega
theorem fj{i:Nat}(h:i<9223372036854775807):IntKind.i64.wrap ((i:Int)+1)=((i+1:Nat):Int):=by rw[dH _ (by omega) (by omega)];rfl
def dA(lo hi n:Int):Bool:=decide (lo≤n)&&decide (n≤hi)
theorem lT(n lo hi:Int):aR Tryz.prog 128 [enc n,enc lo,enc hi] (enc (dA lo hi n)):=by
 refine aR.bO Tryz.func128 Gf Hq IE (t8 rfl) (fun hwf W0 bF E1 =>?_);simp only[xK,BX,bC,Z8,Nat.reduceAdd];have R:=aH
 repeat' ((first |(with_reducible refine .guard (fun hb =>?_) (fun hb =>?_) <;>try simp only[hb])|refine U.aL (by decide +kernel) rfl fun K hK =>?_|(refine .aI [0,1,2,6] hK ?_;clear hK K)|(with_reducible refine .done (hK _ ?_);clear hK K)|refine U.of rfl ?_|(with_reducible refine aB.aJ (fun h =>?_) (fun h =>?_) <;>try simp only[h])) <;>try simp only[aM,R,simprocAttr])
 all_goals clear R
 all_goals (simp at *;simp_all[dA])
 all_goals omega
theorem kl(n lo hi:Int):aR Tryz.prog 82 [enc n,enc lo,enc hi] (enc (dA lo hi n)):=by
 refine aR.bO Tryz.func82 G1 H6 Jl (t8 rfl) (fun hwf W0 bF E1 =>?_);simp only[yw,CD,bC,Z8,Nat.reduceAdd];have R:=aH
 repeat' ((first |(with_reducible refine .guard (fun hb =>?_) (fun hb =>?_) <;>try simp only[hb])|refine U.aL (by decide +kernel) rfl fun K hK =>?_|(refine .aI [0,1,2,6] hK ?_;clear hK K)|(with_reducible refine .done (hK _ ?_);clear hK K)|refine U.of rfl ?_|(with_reducible refine aB.aJ (fun h =>?_) (fun h =>?_) <;>try simp only[h])) <;>try simp only[aM,R,simprocAttr])
 all_goals clear R
 all_goals (simp at *;simp_all[dA])
 all_goals omega
theorem wQ(n:Int):aR Tryz.prog 105 [enc n] (enc (dA 0 100000 n)):=by
 refine aR.bO Tryz.func105 Ga Hn IA (t8 rfl) (fun hwf W0 bF E1 =>?_);simp only[xH,BT,bC];have R:=aH
 repeat' ((first |refine U.aL (by decide +kernel) rfl fun K hK =>?_|refine .flat _ (lT n 0 100000) rfl ?_|(refine .aI [0,2] hK ?_;clear hK K)|(with_reducible refine .done (hK _ ?_);clear hK K)|refine U.of rfl ?_|(with_reducible refine aB.aJ (fun h =>?_) (fun h =>?_) <;>try simp only[h])) <;>try simp only[aM,R,simprocAttr])
 all_goals clear R
theorem xa(n:Int):aR Tryz.prog 79 [enc n] (enc (dA 0 1000002 n)):=by
 refine aR.bO Tryz.func79 GY H3 Ji (t8 rfl) (fun hwf W0 bF E1 =>?_);simp only[yr,CA,bC];have R:=aH
 repeat' ((first |refine U.aL (by decide +kernel) rfl fun K hK =>?_|refine .flat _ (lT n 0 1000002) rfl ?_|(refine .aI [0,2] hK ?_;clear hK K)|(with_reducible refine .done (hK _ ?_);clear hK K)|refine U.of rfl ?_|(with_reducible refine aB.aJ (fun h =>?_) (fun h =>?_) <;>try simp only[h])) <;>try simp only[aM,R,simprocAttr])
 all_goals clear R
def iq(x:Item):Bool:=dA 0 5 x.bf&&dA 0 9999 x.no
theorem wS(x:Item):aR Tryz.prog 129 [enc x] (enc (iq x)):=by
 refine aR.bO Tryz.func129 Gg Hr IF (t8 rfl) (fun hwf W0 bF E1 =>?_);simp only[xL,BY,bC];cases q:dA 0 5 x.bf
 ·simp only[iq,q,Bool.false_and];have R:=y6 @q aH
  repeat' ((first |(with_reducible refine .guard (fun hb =>?_) (fun hb =>?_) <;>try simp only[hb])|refine U.aL (by decide +kernel) rfl fun K hK =>?_|refine .flat _ (lT x.bf 0 5) rfl ?_|refine .flat _ (lT x.no 0 9999) rfl ?_|(refine .aI [0,1,2] hK ?_;clear hK K)|(with_reducible refine .done (hK _ ?_);clear hK K)|refine U.of rfl ?_|(with_reducible refine aB.aJ (fun h =>?_) (fun h =>?_) <;>try simp only[h])) <;>try simp only[aM,R,simprocAttr])
  all_goals clear R
 ·simp only[iq,q,Bool.true_and];have R:=y6 @q aH
  repeat' ((first |(with_reducible refine .guard (fun hb =>?_) (fun hb =>?_) <;>try simp only[hb])|refine U.aL (by decide +kernel) rfl fun K hK =>?_|refine .flat _ (lT x.bf 0 5) rfl ?_|refine .flat _ (lT x.no 0 9999) rfl ?_|(refine .aI [0,1,2] hK ?_;clear hK K)|(with_reducible refine .done (hK _ ?_);clear hK K)|refine U.of rfl ?_|(with_reducible refine aB.aJ (fun h =>?_) (fun h =>?_) <;>try simp only[h])) <;>try simp only[aM,R,simprocAttr])
  all_goals clear R
theorem xb(x:Item):aR Tryz.prog 85 [enc x] (enc (iq x)):=by
 refine aR.bO Tryz.func85 G4 H9 Jo (t8 rfl) (fun hwf W0 bF E1 =>?_);simp only[c85,CG,bC];cases q:dA 0 5 x.bf
 ·simp only[iq,q,Bool.false_and];have R:=y6 @q aH
  repeat' ((first |(with_reducible refine .guard (fun hb =>?_) (fun hb =>?_) <;>try simp only[hb])|refine U.aL (by decide +kernel) rfl fun K hK =>?_|refine .flat _ (kl x.bf 0 5) rfl ?_|refine .flat _ (kl x.no 0 9999) rfl ?_|(refine .aI [0,1,2] hK ?_;clear hK K)|(with_reducible refine .done (hK _ ?_);clear hK K)|refine U.of rfl ?_|(with_reducible refine aB.aJ (fun h =>?_) (fun h =>?_) <;>try simp only[h])) <;>try simp only[aM,R,simprocAttr])
  all_goals clear R
 ·simp only[iq,q,Bool.true_and];have R:=y6 @q aH
  repeat' ((first |(with_reducible refine .guard (fun hb =>?_) (fun hb =>?_) <;>try simp only[hb])|refine U.aL (by decide +kernel) rfl fun K hK =>?_|refine .flat _ (kl x.bf 0 5) rfl ?_|refine .flat _ (kl x.no 0 9999) rfl ?_|(refine .aI [0,1,2] hK ?_;clear hK K)|(with_reducible refine .done (hK _ ?_);clear hK K)|refine U.of rfl ?_|(with_reducible refine aB.aJ (fun h =>?_) (fun h =>?_) <;>try simp only[h])) <;>try simp only[aM,R,simprocAttr])
  all_goals clear R
end Go.Proofs.YtoffnnjbplgnaaaGreatDoor
namespace Go.Proofs.YtoffnnjbplgnaaaGreatDoor
open Go Go.Abs Go.Shelf
open Go.Abs.Enc (enc)
def TI:Go.Shelf.Ren:=⟨fun | 104=>125 | 211=>153 | 207=>169 | n=>n,fun | 9=>9 | 4=>4 | 24=>42 | 3=>3 | n=>n,fun | n=>n⟩
theorem TH:Go.Proofs.Lays.n104 Tryz.prog TI := {
 mixed:=by kernel_rfl
 f104:=Tryz.func125.trans (congrArg some (by kernel_rfl))
 f207:=Tryz.func169.trans (congrArg some (by kernel_rfl))
 f211:=Tryz.func153.trans (congrArg some (by kernel_rfl))
 t3:=Tryz.underlying3
 a3:=Tryz.isAgg3
 z3:=Tryz.sizeOf3
 v3:=Tryz.zeroValue3
 t4:=Tryz.underlying4
 a4:=Tryz.isAgg4
 z4:=Tryz.sizeOf4
 v4:=Tryz.zeroValue4
 t9:=Tryz.underlying9
 a9:=Tryz.isAgg9
 z9:=Tryz.sizeOf9
 v9:=Tryz.zeroValue9
 t24:=Tryz.underlying42
 a24:=Tryz.isAgg42
 z24:=Tryz.sizeOf42
 v24:=Tryz.zeroValue42 }
def AJ:Go.Shelf.Ren:=⟨fun | 137=>123 | 217=>152 | 266=>168 | n=>n,fun | 9=>9 | 5=>5 | 3=>3 | n=>n,fun | n=>n⟩
theorem AI:Go.Proofs.Lays.n137 Tryz.prog AJ := {
 mixed:=by kernel_rfl
 f137:=Tryz.func123.trans (congrArg some (by kernel_rfl))
 f217:=Tryz.func152.trans (congrArg some (by kernel_rfl))
 f266:=Tryz.func168.trans (congrArg some (by kernel_rfl))
 t3:=Tryz.underlying3
 a3:=Tryz.isAgg3
 z3:=Tryz.sizeOf3
 v3:=Tryz.zeroValue3
 t5:=Tryz.underlying5
 a5:=Tryz.isAgg5
 z5:=Tryz.sizeOf5
 v5:=Tryz.zeroValue5
 t9:=Tryz.underlying9
 a9:=Tryz.isAgg9
 z9:=Tryz.sizeOf9
 v9:=Tryz.zeroValue9 }
def TD:Go.Shelf.Ren:=⟨fun | 172=>155 | 244=>171 | 245=>172 | 247=>189 | 279=>190 | 280=>191 | 281=>192 | 282=>193 | 287=>207 | 316=>127 | 171=>132 | 205=>208 | 321=>215 | 322=>216 | 243=>158 | 246=>174 | 283=>195 | 284=>196 | 285=>197 | 286=>198 | 129=>185 | 317=>209 | 318=>210 | 319=>211 | 320=>212 | 337=>217 | 338=>218 | n=>n,fun | 9=>9 | 3=>3 | 75=>199 | 76=>200 | 4=>4 | 5=>5 | 167=>231 | 37=>45 | 0=>0 | 85=>232 | 2=>2 | 168=>234 | 53=>227 | 175=>250 | 46=>208 | 210=>253 | 127=>202 | 145=>266 | 143=>264 | 21=>21 | 171=>239 | 173=>241 | 212=>256 | 51=>225 | 20=>20 | 213=>257 | 232=>267 | 233=>268 | 80=>206 | n=>n,fun | 15=>1 | 16=>2 | 17=>3 | 18=>4 | 19=>5 | n=>n⟩
theorem TC:Go.Proofs.LaysC.n172 Tryz.prog TD := {
 mixed:=by kernel_rfl
 f129:=Tryz.func185.trans (congrArg some (by kernel_rfl))
 f171:=Tryz.func132.trans (congrArg some (by kernel_rfl))
 f172:=Tryz.func155.trans (congrArg some (by kernel_rfl))
 f205:=Tryz.func208.trans (congrArg some (by kernel_rfl))
 f243:=Tryz.func158.trans (congrArg some (by kernel_rfl))
 f244:=Tryz.func171.trans (congrArg some (by kernel_rfl))
 f245:=Tryz.func172.trans (congrArg some (by kernel_rfl))
 f246:=Tryz.func174.trans (congrArg some (by kernel_rfl))
 f247:=Tryz.func189.trans (congrArg some (by kernel_rfl))
 f279:=Tryz.func190.trans (congrArg some (by kernel_rfl))
 f280:=Tryz.func191.trans (congrArg some (by kernel_rfl))
 f281:=Tryz.func192.trans (congrArg some (by kernel_rfl))
 f282:=Tryz.func193.trans (congrArg some (by kernel_rfl))
 f283:=Tryz.func195.trans (congrArg some (by kernel_rfl))
 f284:=Tryz.func196.trans (congrArg some (by kernel_rfl))
 f285:=Tryz.func197.trans (congrArg some (by kernel_rfl))
 f286:=Tryz.func198.trans (congrArg some (by kernel_rfl))
 f287:=Tryz.func207.trans (congrArg some (by kernel_rfl))
 f316:=Tryz.func127.trans (congrArg some (by kernel_rfl))
 f317:=Tryz.func209.trans (congrArg some (by kernel_rfl))
 f318:=Tryz.func210.trans (congrArg some (by kernel_rfl))
 f319:=Tryz.func211.trans (congrArg some (by kernel_rfl))
 f320:=Tryz.func212.trans (congrArg some (by kernel_rfl))
 f321:=Tryz.func215.trans (congrArg some (by kernel_rfl))
 f322:=Tryz.func216.trans (congrArg some (by kernel_rfl))
 f337:=Tryz.func217.trans (congrArg some (by kernel_rfl))
 f338:=Tryz.func218.trans (congrArg some (by kernel_rfl))
 t0:=Tryz.underlying0
 a0:=Tryz.isAgg0
 z0:=Tryz.sizeOf0
 v0:=Tryz.zeroValue0
 t2:=Tryz.underlying2
 a2:=Tryz.isAgg2
 z2:=Tryz.sizeOf2
 v2:=Tryz.zeroValue2
 t3:=Tryz.underlying3
 a3:=Tryz.isAgg3
 z3:=Tryz.sizeOf3
 v3:=Tryz.zeroValue3
 t4:=Tryz.underlying4
 a4:=Tryz.isAgg4
 z4:=Tryz.sizeOf4
 v4:=Tryz.zeroValue4
 t5:=Tryz.underlying5
 a5:=Tryz.isAgg5
 z5:=Tryz.sizeOf5
 v5:=Tryz.zeroValue5
 t9:=Tryz.underlying9
 a9:=Tryz.isAgg9
 z9:=Tryz.sizeOf9
 v9:=Tryz.zeroValue9
 t20:=Tryz.underlying20
 a20:=Tryz.isAgg20
 z20:=Tryz.sizeOf20
 v20:=Tryz.zeroValue20
 t21:=Tryz.underlying21
 a21:=Tryz.isAgg21
 z21:=Tryz.sizeOf21
 v21:=Tryz.zeroValue21
 t37:=Tryz.underlying45
 a37:=Tryz.isAgg45
 z37:=Tryz.sizeOf45
 v37:=Tryz.zeroValue45
 t46:=Tryz.underlying208
 a46:=Tryz.isAgg208
 z46:=Tryz.sizeOf208
 v46:=Tryz.zeroValue208
 t51:=Tryz.underlying225
 a51:=Tryz.isAgg225
 z51:=Tryz.sizeOf225
 v51:=Tryz.zeroValue225
 t53:=Tryz.underlying227
 a53:=Tryz.isAgg227
 z53:=Tryz.sizeOf227
 v53:=Tryz.zeroValue227
 t75:=Tryz.underlying199
 a75:=Tryz.isAgg199
 z75:=Tryz.sizeOf199
 v75:=Tryz.zeroValue199
 t76:=Tryz.underlying200
 a76:=Tryz.isAgg200
 z76:=Tryz.sizeOf200
 v76:=Tryz.zeroValue200
 t85:=Tryz.underlying232
 a85:=Tryz.isAgg232
 z85:=Tryz.sizeOf232
 v85:=Tryz.zeroValue232
 t127:=Tryz.underlying202
 a127:=Tryz.isAgg202
 z127:=Tryz.sizeOf202
 v127:=Tryz.zeroValue202
 t143:=Tryz.underlying264
 a143:=Tryz.isAgg264
 z143:=Tryz.sizeOf264
 v143:=Tryz.zeroValue264
 t145:=Tryz.underlying266
 a145:=Tryz.isAgg266
 z145:=Tryz.sizeOf266
 v145:=Tryz.zeroValue266
 t167:=Tryz.underlying231
 a167:=Tryz.isAgg231
 z167:=Tryz.sizeOf231
 v167:=Tryz.zeroValue231
 t168:=Tryz.underlying234
 a168:=Tryz.isAgg234
 z168:=Tryz.sizeOf234
 v168:=Tryz.zeroValue234
 t171:=Tryz.underlying239
 a171:=Tryz.isAgg239
 z171:=Tryz.sizeOf239
 v171:=Tryz.zeroValue239
 t173:=Tryz.underlying241
 a173:=Tryz.isAgg241
 z173:=Tryz.sizeOf241
 v173:=Tryz.zeroValue241
 t175:=Tryz.underlying250
 a175:=Tryz.isAgg250
 z175:=Tryz.sizeOf250
 v175:=Tryz.zeroValue250
 t210:=Tryz.underlying253
 a210:=Tryz.isAgg253
 z210:=Tryz.sizeOf253
 v210:=Tryz.zeroValue253
 t212:=Tryz.underlying256
 a212:=Tryz.isAgg256
 z212:=Tryz.sizeOf256
 v212:=Tryz.zeroValue256
 t213:=Tryz.underlying257
 a213:=Tryz.isAgg257
 z213:=Tryz.sizeOf257
 t232:=Tryz.underlying267
 a232:=Tryz.isAgg267
 z232:=Tryz.sizeOf267
 v232:=Tryz.zeroValue267
 t233:=Tryz.underlying268
 a233:=Tryz.isAgg268
 z233:=Tryz.sizeOf268
 v233:=Tryz.zeroValue268
 g15:=by kernel_rfl
 g16:=by kernel_rfl
 g17:=by kernel_rfl
 g18:=by kernel_rfl
 g19:=by kernel_rfl
 t80:=Tryz.underlying206
 a80:=Tryz.isAgg206
 z80:=Tryz.sizeOf206
 v80:=Tryz.zeroValue206
 i0:=by kernel_rfl
 i2:=by kernel_rfl
 i3:=by kernel_rfl
 i4:=by kernel_rfl
 i5:=by kernel_rfl
 i9:=by kernel_rfl
 i20:=by kernel_rfl
 i21:=by kernel_rfl
 i37:=by kernel_rfl
 i46:=by kernel_rfl
 i51:=by kernel_rfl
 i53:=by kernel_rfl
 i75:=by kernel_rfl
 i76:=by kernel_rfl
 i80:=by kernel_rfl
 i85:=by kernel_rfl
 i127:=by kernel_rfl
 i143:=by kernel_rfl
 i145:=by kernel_rfl
 i167:=by kernel_rfl
 i168:=by kernel_rfl
 i171:=by kernel_rfl
 i173:=by kernel_rfl
 i175:=by kernel_rfl
 i210:=by kernel_rfl
 i212:=by kernel_rfl
 i232:=by kernel_rfl
 i233:=by kernel_rfl
 m15:=by kernel_rfl
 m16:=by kernel_rfl
 m17:=by kernel_rfl
 m18:=by kernel_rfl
 m19:=by kernel_rfl
 c0:=by kernel_rfl
 c2:=by kernel_rfl
 c3:=by kernel_rfl
 c4:=by kernel_rfl
 c5:=by kernel_rfl
 c9:=by kernel_rfl
 c20:=by kernel_rfl
 c21:=by kernel_rfl
 c37:=by kernel_rfl
 c46:=by kernel_rfl
 c51:=by kernel_rfl
 c53:=by kernel_rfl
 c75:=by kernel_rfl
 c76:=by kernel_rfl
 c80:=by kernel_rfl
 c85:=by kernel_rfl
 c127:=by kernel_rfl
 c143:=by kernel_rfl
 c145:=by kernel_rfl
 c167:=by kernel_rfl
 c168:=by kernel_rfl
 c171:=by kernel_rfl
 c173:=by kernel_rfl
 c175:=by kernel_rfl
 c210:=by kernel_rfl
 c212:=by kernel_rfl
 c213:=by kernel_rfl
 c232:=by kernel_rfl
 c233:=by kernel_rfl }
def TE:Go.Shelf.Ren:=⟨fun | 171=>132 | 243=>158 | 246=>174 | 283=>195 | 284=>196 | 285=>197 | 286=>198 | 129=>185 | 317=>209 | 318=>210 | 319=>211 | 320=>212 | 337=>217 | 338=>218 | n=>n,fun | 3=>3 | 9=>9 | 2=>2 | 4=>4 | 171=>239 | 0=>0 | 53=>227 | 37=>45 | 5=>5 | 173=>241 | 212=>256 | 51=>225 | 20=>20 | 213=>257 | 46=>208 | 232=>267 | 233=>268 | n=>n,fun | 17=>3 | 18=>4 | 19=>5 | n=>n⟩
theorem AH:Go.Proofs.LaysM.n171 Tryz.prog TE := {
 mixed:=by kernel_rfl
 f129:=Tryz.func185.trans (congrArg some (by kernel_rfl))
 f171:=Tryz.func132.trans (congrArg some (by kernel_rfl))
 f243:=Tryz.func158.trans (congrArg some (by kernel_rfl))
 f246:=Tryz.func174.trans (congrArg some (by kernel_rfl))
 f283:=Tryz.func195.trans (congrArg some (by kernel_rfl))
 f284:=Tryz.func196.trans (congrArg some (by kernel_rfl))
 f285:=Tryz.func197.trans (congrArg some (by kernel_rfl))
 f286:=Tryz.func198.trans (congrArg some (by kernel_rfl))
 f317:=Tryz.func209.trans (congrArg some (by kernel_rfl))
 f318:=Tryz.func210.trans (congrArg some (by kernel_rfl))
 f319:=Tryz.func211.trans (congrArg some (by kernel_rfl))
 f320:=Tryz.func212.trans (congrArg some (by kernel_rfl))
 f337:=Tryz.func217.trans (congrArg some (by kernel_rfl))
 f338:=Tryz.func218.trans (congrArg some (by kernel_rfl))
 t0:=Tryz.underlying0
 a0:=Tryz.isAgg0
 z0:=Tryz.sizeOf0
 v0:=Tryz.zeroValue0
 t2:=Tryz.underlying2
 a2:=Tryz.isAgg2
 z2:=Tryz.sizeOf2
 v2:=Tryz.zeroValue2
 t3:=Tryz.underlying3
 a3:=Tryz.isAgg3
 z3:=Tryz.sizeOf3
 v3:=Tryz.zeroValue3
 t4:=Tryz.underlying4
 a4:=Tryz.isAgg4
 z4:=Tryz.sizeOf4
 v4:=Tryz.zeroValue4
 t5:=Tryz.underlying5
 a5:=Tryz.isAgg5
 z5:=Tryz.sizeOf5
 v5:=Tryz.zeroValue5
 t9:=Tryz.underlying9
 a9:=Tryz.isAgg9
 z9:=Tryz.sizeOf9
 v9:=Tryz.zeroValue9
 t20:=Tryz.underlying20
 a20:=Tryz.isAgg20
 z20:=Tryz.sizeOf20
 v20:=Tryz.zeroValue20
 t37:=Tryz.underlying45
 a37:=Tryz.isAgg45
 z37:=Tryz.sizeOf45
 v37:=Tryz.zeroValue45
 t46:=Tryz.underlying208
 a46:=Tryz.isAgg208
 z46:=Tryz.sizeOf208
 v46:=Tryz.zeroValue208
 t51:=Tryz.underlying225
 a51:=Tryz.isAgg225
 z51:=Tryz.sizeOf225
 v51:=Tryz.zeroValue225
 t53:=Tryz.underlying227
 a53:=Tryz.isAgg227
 z53:=Tryz.sizeOf227
 v53:=Tryz.zeroValue227
 t171:=Tryz.underlying239
 a171:=Tryz.isAgg239
 z171:=Tryz.sizeOf239
 v171:=Tryz.zeroValue239
 t173:=Tryz.underlying241
 a173:=Tryz.isAgg241
 z173:=Tryz.sizeOf241
 v173:=Tryz.zeroValue241
 t212:=Tryz.underlying256
 a212:=Tryz.isAgg256
 z212:=Tryz.sizeOf256
 v212:=Tryz.zeroValue256
 t213:=Tryz.underlying257
 a213:=Tryz.isAgg257
 z213:=Tryz.sizeOf257
 t232:=Tryz.underlying267
 a232:=Tryz.isAgg267
 z232:=Tryz.sizeOf267
 v232:=Tryz.zeroValue267
 t233:=Tryz.underlying268
 a233:=Tryz.isAgg268
 z233:=Tryz.sizeOf268
 v233:=Tryz.zeroValue268
 g17:=by kernel_rfl
 g18:=by kernel_rfl
 g19:=by kernel_rfl
 i0:=by kernel_rfl
 i2:=by kernel_rfl
 i3:=by kernel_rfl
 i4:=by kernel_rfl
 i5:=by kernel_rfl
 i9:=by kernel_rfl
 i20:=by kernel_rfl
 i37:=by kernel_rfl
 i46:=by kernel_rfl
 i51:=by kernel_rfl
 i53:=by kernel_rfl
 i171:=by kernel_rfl
 i173:=by kernel_rfl
 i212:=by kernel_rfl
 i232:=by kernel_rfl
 i233:=by kernel_rfl
 m17:=by kernel_rfl
 m18:=by kernel_rfl
 m19:=by kernel_rfl }
def TG:Go.Shelf.Ren:=⟨fun | 316=>127 | n=>n,fun | 9=>9 | 3=>3 | 4=>4 | 37=>45 | 0=>0 | 127=>202 | 5=>5 | n=>n,fun | n=>n⟩
theorem TF:Go.Proofs.LaysM.n316 Tryz.prog TG := {
 mixed:=by kernel_rfl
 f316:=Tryz.func127.trans (congrArg some (by kernel_rfl))
 t0:=Tryz.underlying0
 a0:=Tryz.isAgg0
 z0:=Tryz.sizeOf0
 v0:=Tryz.zeroValue0
 t3:=Tryz.underlying3
 a3:=Tryz.isAgg3
 z3:=Tryz.sizeOf3
 v3:=Tryz.zeroValue3
 t4:=Tryz.underlying4
 a4:=Tryz.isAgg4
 z4:=Tryz.sizeOf4
 v4:=Tryz.zeroValue4
 t9:=Tryz.underlying9
 a9:=Tryz.isAgg9
 z9:=Tryz.sizeOf9
 v9:=Tryz.zeroValue9
 t37:=Tryz.underlying45
 a37:=Tryz.isAgg45
 z37:=Tryz.sizeOf45
 v37:=Tryz.zeroValue45
 t127:=Tryz.underlying202
 a127:=Tryz.isAgg202
 z127:=Tryz.sizeOf202
 v127:=Tryz.zeroValue202
 t5:=Tryz.underlying5
 a5:=Tryz.isAgg5
 z5:=Tryz.sizeOf5
 v5:=Tryz.zeroValue5
 i0:=by kernel_rfl
 i3:=by kernel_rfl
 i4:=by kernel_rfl
 i5:=by kernel_rfl
 i9:=by kernel_rfl
 i37:=by kernel_rfl
 i127:=by kernel_rfl }
theorem Ei(s p:ak):aR Tryz.prog 125 [enc s,enc p] (.tuple [enc (ak.of (Lib.trimSuffix s.l p.l)),enc (Lib.hasSuffix s.l p.l)]):=Jz TH Gd s p
theorem Eg(s:ak)(c:UInt8):aR Tryz.prog 123 [enc s,.int .u8 c.toNat] (enc (Lib.indexByte s.l c)):=JA AI Gc s c
theorem tj(s:ak)(hs:s.l.length≤281474976710656):aR Tryz.prog 155 [enc s] (gw 234 s.l):=Jx TC Gx (by kernel_rfl) (by kernel_rfl) rfl s hs
theorem En(n:Int):aR Tryz.prog 132 [enc n] (enc (u3 n)):=JB AH Gj (g:=3) (by kernel_rfl) n
theorem Ek(s:ak)(hs:s.l.length≤281474976710656):aR Tryz.prog 127 [enc s] (enc s):=Jy TF Ge s hs
theorem TB:Go.Proofs.Lays.n217 Tryz.prog AJ := { AI with }
theorem Tf(l:List UInt8)(c:UInt8):-1≤Lib.indexByte l c∧Lib.indexByte l c≤l.length:=by
 refine ⟨Lib.indexByte_ge l c,?_⟩
 induction l with
 |nil=>simp[Lib.indexByte]
 |cons b l ih =>
  unfold Lib.indexByte
  (repeat' split) <;>simp only[Y5] <;>omega
theorem Ev(s:ak)(c:UInt8):aR Tryz.prog 152 [enc s,.int .u8 c.toNat] (enc (Lib.indexByte s.l c)):=by
 refine ⟨Gv,fun w D vs hl hD hv =>?_⟩;obtain ⟨rest,rfl,hsz,hv2⟩:=wz hv;simp only[al] at hv2;obtain ⟨v,rest2,cs,rfl,h1,h2,rfl⟩:=hv2;obtain ⟨rfl,_⟩:=da (fb h1 h2);have key:=Any.stringslite_IndexByte TB s.b (c.toNat:Int) w;have hcc:((c.toNat:Int)).toNat.toUInt8=c:=by simp
 rw[hcc] at key;refine Calls.mono key ?_;rintro e w' ⟨rfl,rfl⟩;refine ⟨_,D,rfl,⟨[_],by simp[aW,I.isAgg,enc];rfl,?_⟩,Go.RowKit.Below.refl _ w',hD,fun _ _ h _=>h⟩
 show ae _ _ _ (.int .i64 (Lib.indexByte s.l c)) _
 simp only[ae];refine ⟨rfl,?_⟩;have g:=Tf s.l c;rw[ak.size] at hsz;have hmin:IntKind.i64.min=-9223372036854775808:=by decide
 have hmax:IntKind.i64.max=9223372036854775807:=by decide
 unfold maxLen at hsz;rw[hmin,hmax];omega
theorem EA(s:ak)(c:UInt8):aR Tryz.prog 188 [enc s,enc (ak.of [c])] (enc (Lib.indexByte s.l c)):=by
 refine aR.bO Tryz.func188 GD HK IZ (t8 rfl) (fun hwf W0 bF E1 =>?_);simp only[ya,Ci,bC,Z8];have hsi:=Dp (ak.of [c]) (i:=0) (by rw[ak.dm];exact Nat.zero_lt_one);have hl1:lF (enc (ak.of [c]))=some (.int .i64 1):=by rw[p7];rfl
 have hsi':dZ .di [enc (ak.of [c]),.int .i64 0]=some (.int .u8 (c.toNat:Int)):=hsi;cases q:decide (ak.of [c]=s)
 ·have R:=y6 @hsi' (y6 @hl1 (y6 @q (y6 @bj aH)))
  repeat' ((first |(with_reducible refine .guard (fun hb =>?_) (fun hb =>?_) <;>try simp only[hb])|refine U.aL (by decide +kernel) rfl fun K hK =>?_|refine .flat _ (Ev s c) rfl ?_|(refine .aI [0,1,4,5,6,7,8,9,10,11,12,13,16,24,31,36,59,64,73,93,107,114,132,139] hK ?_;clear hK K)|(with_reducible refine .done (hK _ ?_);clear hK K)|refine U.of rfl ?_|(with_reducible refine aB.aJ (fun h =>?_) (fun h =>?_) <;>try simp only[h])) <;>try simp only[aM,R,simprocAttr])
  all_goals clear R
 ·have e:=of_decide_eq_true q;subst e;have R:=y6 @hl1 (y6 @bj aH)
  repeat' ((first |(with_reducible refine .guard (fun hb =>?_) (fun hb =>?_) <;>try simp only[hb])|refine U.aL (by decide +kernel) rfl fun K hK =>?_|(refine .aI [0,1,4,5,6,7,8,9,10,11,12,13,16,24,31,36,59,64,73,93,107,114,132,139] hK ?_;clear hK K)|(with_reducible refine .done (hK _ ?_);clear hK K)|refine U.of rfl ?_|(with_reducible refine aB.aJ (fun h =>?_) (fun h =>?_) <;>try simp only[h])) <;>try simp only[aM,R,eq_self,decide_true,simprocAttr])
  all_goals clear R
  show I.int .i64 0=I.int .i64 (Lib.indexByte [c] c)
  simp[Lib.indexByte]
def cE(c:UInt8):List UInt8→Option (List UInt8×List UInt8)
 | []=>none
 |b::l=>if b=c then some ([],l) else (cE c l).map fun p=>(b::p.1,p.2)
def jo(c:UInt8)(l:List UInt8):List UInt8×List UInt8×Bool:=match cE c l with
 |some p=>(p.1,p.2,true)
 |none=>(l,[],false)
theorem oS(c:UInt8):∀ l:List UInt8,(cE c l=none∧Lib.indexByte l c=-1)∨∃ i:Nat,i<l.length∧Lib.indexByte l c=i∧cE c l=some (l.take i,l.drop (i+1))
 | []=>.inl ⟨rfl,rfl⟩
 |b::l=>by
  by_cases h:b=c
  ·refine .inr ⟨0,by simp,by simp[Lib.indexByte,h],by simp[cE,h]⟩
  ·rcases oS c l with ⟨h1,h2⟩ | ⟨i,h0,h1,h2⟩
   ·refine .inl ⟨by simp[cE,h,h1],by simp[Lib.indexByte,h,h2]⟩
   ·refine .inr ⟨i+1,by simpa using h0,?_,by simp[cE,h,h2]⟩;simp only[Lib.indexByte,h1];simp[h]
    try omega
theorem Ez(s:ak)(c:UInt8):aR Tryz.prog 170 [enc s,enc (ak.of [c])] (.tuple [enc (ak.of (jo c s.l).1),enc (ak.of (jo c s.l).2.1),enc (jo c s.l).2.2]):=by
 refine aR.wf yN fun hwf0 =>?_;have hlen:s.l.length≤maxLen:=by
  have:=hwf0.1;rw[←ak.size];exact this
 simp only[maxLen] at hlen;refine aR.bO Tryz.func170 yN HG IW (t8 rfl) (fun hwf W0 bF E1 =>?_);simp only[x8,Cf,bC,Z8];clear hwf;have hF:=EA s c;have hl1:lF (enc (ak.of [c]))=some (.int .i64 1):=by rw[p7];rfl
 rcases oS c s.l with ⟨h1,h2⟩ | ⟨i,h0,h1,h2⟩
 ·rw[h2] at hF;simp only[jo,h1];have R:=y6 @hl1 (y6 @bj aH)
  repeat' ((first |refine U.aL (by decide +kernel) rfl fun K hK =>?_|refine .flat _ (hF) rfl ?_|(refine .aI [0,1,4,5,6,7,12] hK ?_;clear hK K)|(with_reducible refine .done (hK _ ?_);clear hK K)|refine U.of rfl ?_|(with_reducible refine aB.aJ (fun h =>?_) (fun h =>?_) <;>try simp only[h])) <;>try simp only[aM,R,decide_false,simprocAttr])
  all_goals clear R
  rw[ak.vu];rfl
 ·rw[h1] at hF;simp only[jo,h2];have g1:=p8 s (j:=i) (by omega);have g2:=wa s (i:=i+1) (by omega);have hw:=fj (i:=i) (by omega);have hd:decide ((i:Int)≥0)=true:=decide_eq_true (by omega);have R:=y6 @hd (y6 @hl1 (y6 @hw (y6 @g1 (y6 @g2 (y6 @bj aH)))))
  repeat' ((first |refine U.aL (by decide +kernel) rfl fun K hK =>?_|refine .flat _ (hF) rfl ?_|(refine .aI [0,1,4,5,6,7,12] hK ?_;clear hK K)|(with_reducible refine .done (hK _ ?_);clear hK K)|refine U.of rfl ?_|(with_reducible refine aB.aJ (fun h =>?_) (fun h =>?_) <;>try simp only[h])) <;>try simp only[aM,R,decide_true,simprocAttr])
  all_goals clear R
  trace_state
  all_goals rfl
theorem wY(s:ak)(c:UInt8):aR Tryz.prog 154 [enc s,enc (ak.of [c])] (.tuple [enc (ak.of (jo c s.l).1),enc (ak.of (jo c s.l).2.1),enc (jo c s.l).2.2]):=by
 refine aR.bO Tryz.func154 Gw HC IS (t8 rfl) (fun hwf W0 bF E1 =>?_);simp only[xW,Cb,bC,Z8];have R:=y6 @bj aH
 repeat' ((first |refine U.aL (by decide +kernel) rfl fun K hK =>?_|refine .flat _ (Ez s c) rfl ?_|(refine .aI [0,1,4,5,6] hK ?_;clear hK K)|(with_reducible refine .done (hK _ ?_);clear hK K)|refine U.of rfl ?_|(with_reducible refine aB.aJ (fun h =>?_) (fun h =>?_) <;>try simp only[h])) <;>try simp only[aM,R,simprocAttr])
 all_goals clear R
 all_goals rfl
theorem EK(s:ak)(hs:s.l.length≤281474976710656):aR Tryz.prog 74 [enc s] (enc s):=by
 refine aR.bO Tryz.func74 GW H0 Jg (t8 rfl) (fun hwf W0 bF E1 =>?_);simp only[yq,Cy,bC];have R:=y6 @bj aH
 repeat' ((first |refine U.aL (by decide +kernel) rfl fun K hK =>?_|refine .flat _ (Ek s hs) rfl ?_|(refine .aI [0,2] hK ?_;clear hK K)|(with_reducible refine .done (hK _ ?_);clear hK K)|refine U.of rfl ?_|(with_reducible refine aB.aJ (fun h =>?_) (fun h =>?_) <;>try simp only[h])) <;>try simp only[aM,R,simprocAttr])
 all_goals clear R
 all_goals rfl
end Go.Proofs.YtoffnnjbplgnaaaGreatDoor
namespace Go.Proofs.YtoffnnjbplgnaaaGreatDoor
open Go Go.Abs
open Go.Abs.Enc (enc)
theorem y8{c:UInt8} : ∀ {x:List UInt8} (y:List UInt8),(∀ b∈x,b≠c)→cE c (x++c::y)=some (x,y)
 | [],y,_=>by simp[cE]
 |b::x,y,h=>by
  have ih:=y8 (x:=x) y fun z hz=>h z (by simp[hz]);simp only[Y3,cE,if_neg (h b (by simp)),ih,Z7]
def c6(l:List Int):List UInt8:=l.flatMap fun n=>Lib.itoa n++[32]
def eT(f:List UInt8→Option Int):Nat→List UInt8→Option (List Int×List UInt8)
 |0,s=>some ([],s)
 |k+1,s=>match cE 32 s with
  |none=>none
  |some (w,t)=>match f w with
   |none=>none
   |some n=>(eT f k t).map fun p=>(n::p.1,p.2)
theorem wD{f:List UInt8→Option Int}(t:List UInt8):∀ {l:List Int},(∀ n∈l,0≤n∧f (Lib.itoa n)=some n)→eT f l.length (c6 l++t)=some (l,t)
 | [],_=>rfl
 |n::l,h=>by
  have ih:=wD t (l:=l) fun m hm=>h m (by simp[hm]);have hn:=h n (by simp);simp only[Y5,eT,c6,List.flatMap_cons,Z9,Y3,X4];rw[y8 _ (J7 hn.1 (by decide))];simp only[hn.2];rw[c6] at ih;rw[ih,Z7]
def fx(w:List UInt8):Option Int:=match Lib.atoiAll w with
 | .ok n=>some n
 |_=>none
def gU(w:List UInt8):Option Int:=if w=[]∨8<w.length then none else (dW 0 w).map fun n=>(n:Int)
theorem Bv{n:Int}(h:0≤n∧n<100000000):fx (Lib.itoa n)=some n∧gU (Lib.itoa n)=some n:=by
 obtain ⟨m,rfl⟩:=Y2 h.1;have hm:=Ul (k:=7) (show m<10^(7+1) by omega);obtain ⟨h1,h2,_⟩:=Um (by omega) hm;refine ⟨by rw[fx,h1],?_⟩;rw[gU,if_neg]
 ·rw[Lib.itoa_nonneg,(oT m).1];rfl
 ·rintro (k | k)
  ·exact Tt h.1 k
  ·omega
def dv(r:ai):List Int:=[r.bf,r.no,r.kind,r.dV,r.known,r.eS,r.fe]
def fp(n:List Int)(t:List UInt8):ai:=⟨n.getD 1 0,n.getD 2 0,n.getD 3 0,n.getD 4 0,n.getD 5 0,n.getD 6 0,n.getD 7 0,t⟩
theorem A7(s:Int)(r:ai):fp (s::dv r) r.text=r:=rfl
def cu(r:ai):List UInt8:=c6 (dv r)++r.text
def cH(s:Int)(l:List UInt8):Int:=l.foldl (fun s c=>(257*s+c.toNat+1)%1000003) s
theorem mW{s:Int}(h:0≤s∧s<1000003):∀ l,0≤cH s l∧cH s l<1000003:=by
 intro l
 induction l generalizing s with
 |nil=>exact h
 |cons c l ih =>
  rw[cH,List.foldl_cons];exact ih (by omega)
def cQ(s:Int)(r:ai):List UInt8:=c6 [cH s (cu r)]++cu r++[10]
theorem TR(s:Int)(r:ai):cQ s r=(c6 (cH s (cu r)::dv r)++r.text)++[10]:=by
 simp only[cQ,cu,c6,List.flatMap_cons,List.flatMap_nil,List.append_nil,Z9]
section
variable (ok:ai→Bool)
def kI(s:Int)(t:List UInt8)(r:ai):Option (ai×Int):=if ok r=true∧cQ s r=t then some (r,cH s (cu r)) else none
def dF(s:Int)(t:List UInt8):Option (ai×Int):=if t.getLast?=some 10 then
  (eT fx 8 t.dropLast).bind fun p=>(kI ok s t (fp p.1 p.2)).bind fun q=>if p.1.headD 0=q.2 then some q else none
 else none
def jf(s:Int)(t:List UInt8):Option (ai×Int) :=
 (eT gU 8 t).bind fun p=>if t.getLast?=some 10∧p.2≠[] then kI ok s t (fp p.1 p.2.dropLast) else none
theorem zn{s:Int}{t:List UInt8}{r:ai}{q:ai×Int}(h:kI ok s t r=some q):ok q.1=true∧cQ s q.1=t∧q.2=cH s (cu q.1):=by
 rw[kI] at h;by_cases c:ok r=true∧cQ s r=t
 ·rw[if_pos c] at h;cases h;exact ⟨c.1,c.2,rfl⟩
 ·rw[if_neg c] at h;cases h
theorem CU{s:Int}{t:List UInt8}{q:ai×Int}(h:dF ok s t=some q):ok q.1=true∧cQ s q.1=t∧q.2=cH s (cu q.1):=by
 rw[dF] at h;by_cases c:t.getLast?=some 10
 ·rw[if_pos c] at h;cases hp:eT fx 8 t.dropLast with
  |none=>rw[hp] at h;cases h
  |some p =>
   rw[hp,zz0] at h;cases he:kI ok s t (fp p.1 p.2) with
   |none=>rw[he] at h;cases h
   |some q' =>
    rw[he,zz0] at h;by_cases k:p.1.headD 0=q'.2
    ·rw[if_pos k] at h;cases h;exact zn ok he
    ·rw[if_neg k] at h;cases h
 ·rw[if_neg c] at h;cases h
theorem VU{s:Int}{t:List UInt8}{q:ai×Int}(h:jf ok s t=some q):ok q.1=true∧cQ s q.1=t∧q.2=cH s (cu q.1):=by
 rw[jf] at h;cases hp:eT gU 8 t with
 |none=>rw[hp] at h;cases h
 |some p =>
  rw[hp,zz0] at h;by_cases c:t.getLast?=some 10∧p.2≠[]
  ·rw[if_pos c] at h;exact zn ok h
  ·rw[if_neg c] at h;cases h
theorem vM{s:Int}(hs:0≤s∧s<1000003){r:ai}(h:ok r=true)(hn:∀ n∈dv r,0≤n∧n<100000000) :
  dF ok s (cQ s r)=some (r,cH s (cu r))∧jf ok s (cQ s r)=some (r,cH s (cu r)):=by
 have hb:=mW hs (cu r);have hm:∀ n∈cH s (cu r)::dv r,0≤n∧n<100000000:=fun n hn'=>by
  rcases zz1.1 hn' with rfl | hn'
  ·omega
  ·exact hn n hn'
 have e:=TR s r;have hl:(cQ s r).getLast?=some 10:=by rw[e,List.getLast?_append];rfl
 have hd:(cQ s r).dropLast=c6 (cH s (cu r)::dv r)++r.text:=by rw[e,List.dropLast_concat]
 have he:kI ok s (cQ s r) r=some (r,cH s (cu r)):=by rw[kI,if_pos ⟨h,rfl⟩]
 constructor
 ·rw[dF,if_pos hl,hd,show 8=(cH s (cu r)::dv r).length from rfl,wD (f:=fx) r.text fun n hn'=>⟨(hm n hn').1,(Bv (hm n hn')).1⟩,zz0];simp only[A7,he,zz0,List.headD_cons,if_true]
 ·have ht:eT gU 8 (cQ s r)=some (cH s (cu r)::dv r,r.text++[10]):=by
   rw[e,Z9];exact wD (f:=gU) (r.text++[10]) fun n hn'=>⟨(hm n hn').1,(Bv (hm n hn')).2⟩
  rw[jf,ht,zz0,if_pos ⟨hl,by simp⟩];simp only[List.dropLast_concat,A7,he]
theorem VV{s:Int}(hs:0≤s∧s<1000003)(hok:∀ r,ok r=true→∀ n∈dv r,0≤n∧n<100000000)(t:List UInt8):dF ok s t=jf ok s t:=by
 cases h:dF ok s t with
 |some q =>
  obtain ⟨h1,h2,h3⟩:=CU ok h;rw[←h2,(vM ok hs h1 (hok _ h1)).2,←h3]
 |none =>
  cases h':jf ok s t with
  |none=>rfl
  |some q =>
   obtain ⟨h1,h2,h3⟩:=VU ok h';rw[←h2,(vM ok hs h1 (hok _ h1)).1] at h;cases h
end
def jm:List PanicEntry:=[{ v:=.iface 176 (.agg #[]),recovered:=false }]
theorem my{Q:Exit→ab→Prop}{x:av}{A:ab}(h:af A x=.iface 176 (.agg []))(hq:Q (.panic jm) A):lv Tryz.prog Q (.prim .j7 [x]) A:=.j7 h hq
theorem jA:(∀ T:TypeId,dZ (.lH T) [.agg []]=some (.iface T (.agg [])))∧fA [] []=some []:=⟨fun _=>rfl,rfl⟩
theorem vD{A:ab} : vE jm (fun os'=>os'=[]) (.panic jm) A:=⟨rfl,[],[],uV,trivial,rfl,rfl⟩
theorem mb:(I.aj ⟨#[32]⟩)=enc (ak.of [32]):=rfl
theorem oV:(I.aj ⟨#[10]⟩)=enc (ak.of [10]):=rfl
theorem Bu{w:List UInt8}{n:Int}(h:fx w=some n):gw 234 w=.tuple [enc n,.cJ]:=by
 unfold fx at h;split at h
 ·rename_i m hm;cases h;simp only[gw,hm]
 ·cases h
theorem Bt{w:List UInt8}(h:fx w=none):∃ n:Int,gw 234 w=.tuple [enc n,.iface 234 .any]:=by
 unfold fx at h;split at h
 ·cases h
 ·rename_i hm;cases hr:Lib.atoiAll w with
  |ok n=>exact absurd hr (hm n)
  |range=>exact ⟨_,by simp only[gw,hr];rfl⟩
  | _ =>exact ⟨0,by simp only[gw,hr]⟩
theorem qV{c:UInt8}{l:List UInt8}{p:List UInt8×List UInt8}(h:cE c l=some p):p.1.length+p.2.length<l.length:=by
 rcases oS c l with ⟨h1,_⟩ | ⟨i,h0,_,h2⟩
 ·rw[h1] at h;cases h
 ·rw[h2] at h;cases h;simp only[Y0,List.length_drop];omega
theorem wR(s:ak)(hlen:s.l.length≤281474976710656)(w t:List UInt8)(n:Int)(h1:cE 32 s.l=some (w,t))(h2:fx w=some n):aR Tryz.prog 126 [enc s] (.tuple [enc n,enc (ak.of t)]):=by
 refine aR.bO Tryz.func126 yM yS ID (t8 rfl) (fun hwf W0 bF E1 =>?_);simp only[tO,BW,bC];clear hwf;have hc:=wY s 32;simp only[jo,h1] at hc;have hl:=qV h1;simp only at hl;have ha:=tj (ak.of w) (by rw[ak.dm];omega);rw[ak.dm,Bu h2] at ha;have R:=y6 @mb (y6 @bj aH)
 repeat' ((first |(with_reducible refine .guard (fun hb =>?_) (fun hb =>?_) <;>try simp only[hb])|refine U.aL (by decide +kernel) rfl fun K hK =>?_|refine .flat _ (hc) rfl ?_|refine .lead _ (ha) ?_|(refine .aI [0,2,3,4,5,6,7,8,25] hK ?_;clear hK K)|(with_reducible refine .done (hK _ ?_);clear hK K)|refine U.of rfl ?_|(with_reducible refine aB.aJ (fun h =>?_) (fun h =>?_) <;>try simp only[h])) <;>try simp only[aM,R,simprocAttr])
 all_goals clear R
 all_goals rfl
theorem Ej(s:ak)(hlen:s.l.length≤281474976710656)(h:∀ w t,cE 32 s.l=some (w,t)→fx w=none):oz Tryz.prog 126 jm [enc s] [] (fun os'=>os'=[]):=by
 refine oz.mk Tryz.func126 yM yS (t8 rfl) (t8 rfl) (fun m hm=>by simp[aC,aE] at hm) (fun hwf W0 bF E1 =>?_);simp only[tO,bC];clear hwf;have hc:=wY s 32;cases h1:cE 32 s.l with
 |none =>
  simp only[jo,h1] at hc;have ha:=tj (ak.of s.l) (by rw[ak.dm];omega);rw[ak.dm] at ha;cases ho:fx s.l with
  |some n =>
   rw[Bu ho] at ha;have R:=y6 @mb (y6 @jA (y6 @bj aH))
   repeat' ((first |(with_reducible refine .guard (fun hb =>?_) (fun hb =>?_) <;>try simp only[hb])|(refine U.kV (gs:=ry) (gs1:=[_,_]) rfl fun K hK =>?_)|refine U.aL (by decide +kernel) rfl fun K hK =>?_|refine .flat _ (hc) rfl ?_|refine .lead _ (ha) ?_|(refine .aI [0,2,3,4,5,6,7,8,25] hK ?_;clear hK K)|(with_reducible refine .done (hK _ ?_);clear hK K)|refine U.of rfl ?_|(with_reducible refine aB.aJ (fun h =>?_) (fun h =>?_) <;>try simp only[h])) <;>try simp only[aM,R,simprocAttr])
   all_goals clear R
   refine my ?_ vD;rfl
  |none =>
   obtain ⟨n,hn⟩:=Bt ho;rw[hn] at ha;have R:=y6 @mb (y6 @jA (y6 @bj aH))
   repeat' ((first |(with_reducible refine .guard (fun hb =>?_) (fun hb =>?_) <;>try simp only[hb])|(refine U.kV (gs:=ry) (gs1:=[_,_]) rfl fun K hK =>?_)|refine U.aL (by decide +kernel) rfl fun K hK =>?_|refine .flat _ (hc) rfl ?_|refine .lead _ (ha) ?_|(refine .aI [0,2,3,4,5,6,7,8,25] hK ?_;clear hK K)|(with_reducible refine .done (hK _ ?_);clear hK K)|refine U.of rfl ?_|(with_reducible refine aB.aJ (fun h =>?_) (fun h =>?_) <;>try simp only[h])) <;>try simp only[aM,R,simprocAttr])
   all_goals clear R
   refine my ?_ vD;rfl
 |some p =>
  obtain ⟨w,t⟩:=p;simp only[jo,h1] at hc;have hl:=qV h1;simp only at hl;have ha:=tj (ak.of w) (by rw[ak.dm];omega);obtain ⟨n,hn⟩:=Bt (h w t h1);rw[ak.dm,hn] at ha;have R:=y6 @mb (y6 @jA (y6 @bj aH))
  repeat' ((first |(with_reducible refine .guard (fun hb =>?_) (fun hb =>?_) <;>try simp only[hb])|(refine U.kV (gs:=ry) (gs1:=[_,_]) rfl fun K hK =>?_)|refine U.aL (by decide +kernel) rfl fun K hK =>?_|refine .flat _ (hc) rfl ?_|refine .lead _ (ha) ?_|(refine .aI [0,2,3,4,5,6,7,8,25] hK ?_;clear hK K)|(with_reducible refine .done (hK _ ?_);clear hK K)|refine U.of rfl ?_|(with_reducible refine aB.aJ (fun h =>?_) (fun h =>?_) <;>try simp only[h])) <;>try simp only[aM,R,simprocAttr])
  all_goals clear R
  refine my ?_ vD;rfl
theorem Td:qw Tryz.prog 124 3:=⟨yL,fun bs w hb=>by
 obtain ⟨b1,b2,b3,rfl⟩:∃ b1 b2 b3,bs=[b1,b2,b3]:=by
  match bs,hb with
  | [a,b,c],_=>exact ⟨a,b,c,rfl⟩
 refine callsDIn_of_wpSIn Tryz.func124 rfl trivial fun c₀ cs hu =>?_;apply wpSIn_seq;apply wpSIn_region;simp[wpOpsSIn,go_sem,recoverD,hu,Tryz.ntmps124,Exit.thenS];refine wpSIn_of_wpIn rfl (wpIn_block (wpIn_seq (wpIn_region_list ?_)));simp[wpListIn,go_sem];refine wpIn_cond (t:=true) (by simp[Act.eval,Array.replicate]) ?_;simp only[if_true];refine wpIn_region_list ?_;simp[wpListIn,go_sem,Exit.inBlock];cases c₀
 simp_all[bodyPostS,results,Tryz.results124]⟩
theorem vz{P:Program}{o:Oper}{a:Act}{w w':World}{Kw:Act→World→Prop}{Q:Exit→Act→World→Prop}{n:Nat}(h:(execOp a.eval o).run P w=.ok .skip w')(hK:Kw (a.put o.dst undef) w'):o.wpIn Fence.wide n P a w Kw Q:=by
 refine ⟨fun _ _=>trivial,?_⟩
 show o.uponIn _ _ _ _ _ _ ((execOp a.eval o).run P w)
 rw[h,Oper.uponIn_skip];exact hK
theorem Vl{P:Program}{o:Oper}{a:Act}{w w':World}{v:Value}{Kw:Act→World→Prop}{Q:Exit→Act→World→Prop}{n:Nat}(h:(execOp a.eval o).run P w=.ok (.value v) w')(hK:Kw (a.put o.dst v) w'):o.wpIn Fence.wide n P a w Kw Q:=by
 refine ⟨fun _ _=>trivial,?_⟩
 show o.uponIn _ _ _ _ _ _ ((execOp a.eval o).run P w)
 rw[h,Oper.uponIn_value];exact hK
theorem wq{P:Program}{o:Oper}{ρ:Operand→Value}{t:TypeId}{x y:Operand}{p v:Value}{w w':World}(ho:o.op=.store t x y)(hx:ρ x=p)(hy:ρ y=v)(h:(Instr.storeAt t p v).run P w=.ok () w'):(execOp ρ o).run P w=.ok .skip w':=by
 simp only[execOp,ho,hx,hy,Sem.run_bind,h];rfl
theorem wy{c:b8}{A:ab}{a:Act}{w:World}{D:aD}{E:aN}{P:Program}(hs:aG c A a w D E){N b:Nat}{x z:I}{v:Value}{ds:List Value}{t:TypeId}{i:TypeInfo}(hn:A.o N=some (.box x))(aq:E N=some (.aA b z.aF))(hsh:x.aF=z.aF)
  (hz:ae w D E z ds) (hv:v.cells.toList=ds) (hi:P.info? t=some i) (hsz:i.size=ds.length) :
  ∃ w',(Instr.storeAt t (jG b) v).run P w=.ok () w'∧aG c (A.aP N (.box z)) a w' D E:=by
 obtain ⟨b',cs,T,k1,k2,k3,k4,k5⟩:=hs.box hn;rw[aq] at k1;simp only[v6,bt.aA.injEq] at k1;obtain ⟨rfl,_⟩:=k1;have l1:=ae.length _ _ k4;have l2:=ae.length _ _ hz;have l3:x.size=z.size:=by rw[←I.hE x,←I.hE z,hsh]
 have hcl:cs.size=ds.length:=by rw[←X2,l1,l2,l3]
 have hrun:=sO P b 0 T ds 0 cs w k3 (by omega) (ae.j5 _ _ hz);simp only[Nat.add_zero] at hrun;have e:(cs.toList.take 0++ds++cs.toList.drop (0+ds.length))=ds:=by
  rw[List.take_zero,X4,Z8,List.drop_eq_nil_of_le (by rw[X2];omega),List.append_nil]
 rw[e] at hrun;have hs2:=hs.wc (y:=z) (cs':=ds.toArray) hn (hsh▸aq) hsh.symm (by simpa using hz);refine ⟨w.setRow b ds.toArray,?_,hs2⟩;have hg:¬ v.cells.size≠i.size:=by rw[hsz,←hv];simp
 have e2:P.cellsOf t=i.size:=by simp[Program.cellsOf,hi]
 simp only[jG,Instr.storeAt,Instr.sureAddr,storeVar,Sem.run_bind,Sem.run_pure,Result.andThen_ok,gp hi,Sem.run_ite,e2,if_neg hg,hv,hrun]
theorem Hl:qq Tryz.prog 124 jm [enc (default:ai),.int .i64 0,.bool false]:=⟨yL,fun c A a w D E Ns bs hP hs aq hA=>by
 have hta:∀ W,(Instr.typeAssert (.iface 176 (.agg #[])) 20 176 true).run Tryz.prog W=.ok (.tuple #[.agg #[],.bool true]) W:=fun W=>by
  simp[Instr.typeAssert,run_underlying Tryz.underlying176]
 obtain ⟨N1,N2,N3,rfl⟩:∃ a b c,Ns=[a,b,c]:=by
  match Ns,aq.len.2 with
  | [a,b,c],_=>exact ⟨a,b,c,rfl⟩
 obtain ⟨b1,b2,b3,rfl⟩:∃ a b c,bs=[a,b,c]:=by
  match bs,aq.len.1 with
  | [a,b,c],_=>exact ⟨a,b,c,rfl⟩
 obtain ⟨hE1,hE2,hE3,_⟩:=aq;obtain ⟨⟨x1,hx1,hsh1⟩,⟨x2,hx2,hsh2⟩,⟨x3,hx3,hsh3⟩,_⟩:=hA;refine callsDIn_of_wpSIn Tryz.func124 rfl trivial fun c₀ cs hu =>?_;apply wpSIn_seq;apply wpSIn_region;simp[wpOpsSIn,go_sem,recoverD,hu,Tryz.ntmps124,Exit.thenS,jm];refine wpSIn_of_wpIn rfl (wpIn_block (wpIn_seq (wpIn_region_list ?_)));simp[wpListIn,go_sem];refine wpIn_cond (t:=false) (by simp[Act.eval,Array.replicate]) ?_;simp only[Z4,if_false];refine wpIn_seq (wpIn_region_list ?_);simp[wpListIn,go_sem,hta];refine wpIn_cond (t:=true) (by simp[Act.eval,Array.replicate]) ?_;simp only[if_true];refine wpIn_seq (wpIn_region_list ?_);simp[wpListIn,go_sem];refine wpIn_region_list ?_;have hb:Go.RowKit.Below w.heap.size w (w.alloc (Obj.cells #[] 176)):=iR _ _;have hs1:=hs.grow (D':=D) hb (fun _ _ h=>h) (fun _ _ h _=>h) (fun b o hd=>Nat.lt_of_lt_of_le (hs.cI b o hd) hb.size);generalize w.alloc (Obj.cells #[] 176)=W1 at *;have nx:∀ {A:ab} {N M b d:Nat} {z y:I},E N=some (.aA b z.aF)→E M=some (.aA d y.aF)→(∃ x,A.o M=some (.box x)∧x.aF=y.aF)→∃ x,(A.aP N (.box z)).o M=some (.box x)∧x.aF=y.aF:=by
  intro A N M b d z y h1 h2 ⟨x,h3,h4⟩;by_cases e:M=N
  ·subst e;rw[h1] at h2;simp only[v6,bt.aA.injEq] at h2;exact ⟨z,by simp[ab.aP],h2.2⟩
  ·exact ⟨x,by simp[ab.aP,e,h3],h4⟩
 obtain ⟨i50,hi50,hz50⟩:∃ i,Tryz.prog.info? 50=some i∧i.size=8:=by
  have h:(Tryz.prog.info? 50).map (·.size)=some 8:=by kernel_rfl
  obtain ⟨i,h1,h2⟩:=t7.1 h;exact ⟨i,h1,h2⟩
 obtain ⟨i3,hi3,hz3⟩:∃ i,Tryz.prog.info? 3=some i∧i.size=1:=by
  have h:(Tryz.prog.info? 3).map (·.size)=some 1:=by kernel_rfl
  obtain ⟨i,h1,h2⟩:=t7.1 h;exact ⟨i,h1,h2⟩
 obtain ⟨i4,hi4,hz4⟩:∃ i,Tryz.prog.info? 4=some i∧i.size=1:=by
  have h:(Tryz.prog.info? 4).map (·.size)=some 1:=by kernel_rfl
  obtain ⟨i,h1,h2⟩:=t7.1 h;exact ⟨i,h1,h2⟩
 obtain ⟨W2,hst1,hs2⟩:=wy (P:=Tryz.prog) (t:=50) (z:=enc (default:ai)) (v:=.agg #[.int .i64 0,.int .i64 0,.int .i64 0,.int .i64 0,.int .i64 0,.int .i64 0,.int .i64 0,.string ⟨#[]⟩]) hs1 hx1 hE1 hsh1
  (ds:=[.int .i64 0,.int .i64 0,.int .i64 0,.int .i64 0,.int .i64 0,.int .i64 0,.int .i64 0,.string ⟨#[]⟩]) (by
   show ae _ _ _ (.agg [.agg [.int .i64 0,.int .i64 0],.int .i64 0,.int .i64 0,.int .i64 0,.agg [.int .i64 0,.int .i64 0],.aj ⟨#[]⟩]) _
   simp only[ae,ay];refine ⟨[.int .i64 0,.int .i64 0],_,rfl,⟨[.int .i64 0],_,rfl,⟨rfl,by decide⟩,[.int .i64 0],_,rfl,⟨rfl,by decide⟩,rfl⟩,[.int .i64 0],_,rfl,⟨rfl,by decide⟩,[.int .i64 0],_,rfl,⟨rfl,by decide⟩,[.int .i64 0],_,rfl,⟨rfl,by decide⟩,[.int .i64 0,.int .i64 0],_,rfl,⟨[.int .i64 0],_,rfl,⟨rfl,by decide⟩,[.int .i64 0],_,rfl,⟨rfl,by decide⟩,rfl⟩,[.string ⟨#[]⟩],[],rfl,⟨rfl,by decide⟩,rfl⟩) rfl hi50 hz50
 obtain ⟨y2,hy2,hsh2'⟩:=nx hE1 hE2 ⟨x2,hx2,hsh2⟩;obtain ⟨W3,hst2,hs3⟩:=wy (P:=Tryz.prog) (t:=3) (z:=.int .i64 0) (v:=.int .i64 0) hs2 hy2 hE2 hsh2' (ds:=[.int .i64 0]) (by simp only[ae];exact ⟨trivial,by decide⟩) rfl hi3 hz3;obtain ⟨y3,hy3,hsh3'⟩:=nx hE2 hE3 (nx hE1 hE3 ⟨x3,hx3,hsh3⟩);obtain ⟨W4,hst3,hs4⟩:=wy (P:=Tryz.prog) (t:=4) (z:=.bool false) (v:=.bool false) hs3 hy3 hE3 hsh3' (ds:=[.bool false]) (by simp only[ae]) rfl hi4 hz4;have hbl:∀ W,(Instr.build 50 #[]).run Tryz.prog W=.ok (.agg #[.int .i64 0,.int .i64 0,.int .i64 0,.int .i64 0,.int .i64 0,.int .i64 0,.int .i64 0,.string ⟨#[]⟩]) W:=fun W=>by
  simp[Instr.build,Tryz.zeroValue50,Instr.fill,Value.cells]
 simp only[wpListIn,Region.wanted,if_true];refine Vl (v:=.agg #[.int .i64 0,.int .i64 0,.int .i64 0,.int .i64 0,.int .i64 0,.int .i64 0,.int .i64 0,.string ⟨#[]⟩]) (by simp only[execOp,Array.map_empty,Sem.run_bind,hbl];rfl) ?_;refine vz (wq rfl (by simp[Act.eval,Act.put]) (by simp[Act.eval,Act.put]) hst1) ?_;refine vz (wq rfl (by simp[Act.eval,Act.put]) (by simp[Act.eval]) hst2) ?_;refine vz (wq rfl (by simp[Act.eval,Act.put]) (by simp[Act.eval]) hst3) ?_;simp[Exit.inBlock,bodyPostS,results,Tryz.results124,settle];exact ⟨rfl,hs4⟩⟩
end Go.Proofs.YtoffnnjbplgnaaaGreatDoor
namespace Go.Proofs.YtoffnnjbplgnaaaGreatDoor
open Go Go.Abs Go.Shelf Go.RowKit
open Go.Abs.Enc (enc)
def AK:Go.Shelf.Ren:=⟨fun | 166=>156 | 240=>173 | 276=>194 | n=>n,fun | 70=>203 | 9=>9 | 3=>3 | 75=>199 | 0=>0 | 72=>205 | 37=>45 | 4=>4 | 164=>237 | 80=>206 | 5=>5 | n=>n,fun | n=>n⟩
theorem TJ:Go.Proofs.Lays.n166 Tryz.prog AK := {
 mixed:=by kernel_rfl
 f166:=Tryz.func156.trans (congrArg some (by kernel_rfl))
 f240:=Tryz.func173.trans (congrArg some (by kernel_rfl))
 f276:=Tryz.func194.trans (congrArg some (by kernel_rfl))
 t0:=Tryz.underlying0
 a0:=Tryz.isAgg0
 z0:=Tryz.sizeOf0
 v0:=Tryz.zeroValue0
 t3:=Tryz.underlying3
 a3:=Tryz.isAgg3
 z3:=Tryz.sizeOf3
 v3:=Tryz.zeroValue3
 t4:=Tryz.underlying4
 a4:=Tryz.isAgg4
 z4:=Tryz.sizeOf4
 v4:=Tryz.zeroValue4
 t9:=Tryz.underlying9
 a9:=Tryz.isAgg9
 z9:=Tryz.sizeOf9
 v9:=Tryz.zeroValue9
 t20:=Tryz.underlying20
 a20:=Tryz.isAgg20
 z20:=Tryz.sizeOf20
 v20:=Tryz.zeroValue20
 t37:=Tryz.underlying45
 a37:=Tryz.isAgg45
 z37:=Tryz.sizeOf45
 v37:=Tryz.zeroValue45
 t70:=Tryz.underlying203
 a70:=Tryz.isAgg203
 z70:=Tryz.sizeOf203
 v70:=Tryz.zeroValue203
 t72:=Tryz.underlying205
 a72:=Tryz.isAgg205
 z72:=Tryz.sizeOf205
 v72:=Tryz.zeroValue205
 t75:=Tryz.underlying199
 a75:=Tryz.isAgg199
 z75:=Tryz.sizeOf199
 v75:=Tryz.zeroValue199
 t164:=Tryz.underlying237
 a164:=Tryz.isAgg237
 z164:=Tryz.sizeOf237
 v164:=Tryz.zeroValue237 }
def AL:Go.Shelf.Ren:=⟨fun | 169=>157 | n=>n,fun | 70=>203 | 9=>9 | 0=>0 | 72=>205 | 37=>45 | 127=>202 | 3=>3 | 5=>5 | n=>n,fun | n=>n⟩
theorem TK:Go.Proofs.Lays.n169 Tryz.prog AL := {
 mixed:=by kernel_rfl
 f169:=Tryz.func157.trans (congrArg some (by kernel_rfl))
 t0:=Tryz.underlying0
 a0:=Tryz.isAgg0
 z0:=Tryz.sizeOf0
 v0:=Tryz.zeroValue0
 t3:=Tryz.underlying3
 a3:=Tryz.isAgg3
 z3:=Tryz.sizeOf3
 v3:=Tryz.zeroValue3
 t9:=Tryz.underlying9
 a9:=Tryz.isAgg9
 z9:=Tryz.sizeOf9
 v9:=Tryz.zeroValue9
 t37:=Tryz.underlying45
 a37:=Tryz.isAgg45
 z37:=Tryz.sizeOf45
 v37:=Tryz.zeroValue45
 t70:=Tryz.underlying203
 a70:=Tryz.isAgg203
 z70:=Tryz.sizeOf203
 v70:=Tryz.zeroValue203
 t72:=Tryz.underlying205
 a72:=Tryz.isAgg205
 z72:=Tryz.sizeOf205
 v72:=Tryz.zeroValue205
 t127:=Tryz.underlying202
 a127:=Tryz.isAgg202
 z127:=Tryz.sizeOf202
 v127:=Tryz.zeroValue202 }
theorem KP:Builder.Extra Tryz.prog AK where
 sizeBuilder:=by kernel_rfl
 liesBuilder:=by kernel_rfl
 t5:=Tryz.underlying5
 a5:=Tryz.isAgg5
 z5:=Tryz.sizeOf5
 v5:=Tryz.zeroValue5
 infoByte:=by kernel_rfl
 cellsByte:=by kernel_rfl
 sizeByte:=by kernel_rfl
 neB5:=by decide
theorem KQ:Builder.Extra Tryz.prog AL where
 sizeBuilder:=by kernel_rfl
 liesBuilder:=by kernel_rfl
 t5:=Tryz.underlying5
 a5:=Tryz.isAgg5
 z5:=Tryz.sizeOf5
 v5:=Tryz.zeroValue5
 infoByte:=by kernel_rfl
 cellsByte:=by kernel_rfl
 sizeByte:=by kernel_rfl
 neB5:=by decide
abbrev km(B b:Nat)(l:List UInt8)(w:World):Prop:=Lib.IsBuilderF 205 5 B b (Lib.byteCells l) w
abbrev tr(b:Nat)(w w':World):Prop:=Lib.OthersKept 5 (some b) w w'
theorem D0(B b:Nat)(l:List UInt8)(s:ByteArray)(w:World)(h:km B b l w)(hlen:l.length+s.size≤140737488355328)(hB:B≤w.heap.size) :
  Calls Tryz.prog 156 #[.pointer (some ⟨b,0,none⟩),.string s] w fun e w'=>e=.returned (.tuple #[.int .i64 s.size,.nilIface])∧(km B b (l++s.data.toList) w'∧Below B w w'∧tr b w w'):=by
 refine (Any.Builder_WriteString_k TJ KP B b (Lib.byteCells l) s w h (by rw[Lib.byteCells_length];exact hlen) hB).mono ?_;rintro e w' ⟨rfl,h1,h2,h3⟩;refine ⟨rfl,.inr ?_,h2,h3⟩;rw[Lib.byteCells_append];exact h1
theorem xA(B b:Nat)(l:List UInt8)(w:World)(h:km B b l w)(hB:B≤w.heap.size) :
  Calls Tryz.prog 157 #[.pointer (some ⟨b,0,none⟩)] w fun e w'=>e=.returned (.string ⟨l.toArray⟩)∧(km B b l w'∧Below B w w'∧tr b w w'):=Any.Builder_String_any_k TK KQ B b l w h hB
theorem Ts(n:Int)(h:IntKind.i64.min≤n∧n≤IntKind.i64.max)(W:World)(hl:ev Tryz.prog W (fun _=>False)):Calls Tryz.prog 132 #[.int .i64 n] W fun e w'=>e=.returned (.string ⟨(Lib.itoa n).toArray⟩)∧Below W.heap.size W w':=by
 have h3':-9223372036854775808≤n:=h.1;have h4':n≤9223372036854775807:=h.2;obtain ⟨_,htab,rfl⟩:=hl.rA (n:=rM) (k:=.sw) (g:=3) (by simp[mh]) (by kernel_rfl);refine (Any.strconv_Itoa AH n h3' h4' W htab).mono ?_;rintro e w' ⟨rfl,k,os,rfl⟩;exact ⟨rfl,tL W k os⟩
theorem AG{w wr:World}(hl:ev Tryz.prog w (fun _=>False))(h:Below w.heap.size w wr):ev Tryz.prog wr (fun _=>False) :=
 hl.AE (M:=fun b=>w.heap.size≤b) ⟨h.os,h.tape,h.output,h.size,fun k hk=>h.block k (by omega)⟩ (fun b hb=>.inl hb) (fun b hb=>hb.elim)
theorem rJ{B b:Nat}{l:List UInt8}{w w':World}(hI:km B b l w)(h:Below w.heap.size w w'):km B b l w':=by
 have key:∀ p,Lib.BuilderAtF 205 5 B b p (Lib.byteCells l) w→Lib.BuilderAtF 205 5 B b p (Lib.byteCells l) w':=by
  rintro p ⟨h1,v,h2,⟨h3,h4⟩,h5⟩;refine ⟨h1,v,(h.block b (eA h2)).trans h2,⟨h3,?_⟩,h5⟩;rcases h4 with h4 | ⟨g,cap,cur,fz,k1,k2,k3,k4⟩
  ·exact .inl h4
  ·exact .inr ⟨g,cap,cur,fz,k1,k2,(h.block g (eA k3)).trans k3,k4⟩
 exact hI.imp (key _) (key _)
theorem Hk(a:List UInt8)(t:ByteArray):((⟨a.toArray⟩:ByteArray)++t)=⟨(a++t.data.toList).toArray⟩:=by
 apply ByteArray.ext;simp[ByteArray.data_append]
theorem Wl(l:List Int)(n:Int):c6 (l++[n])=c6 l++(Lib.itoa n++[32]):=by simp[c6]
theorem F3(m n k d kn om on:Int)(t:ByteArray)(w:World)(hl:ev Tryz.prog w (fun _=>False))(hbd:∀ x∈[m,n,k,d,kn,om,on],IntKind.i64.min≤x∧x≤IntKind.i64.max)(ht:t.size≤1000000000000) :
  Calls Tryz.prog 131 #[.agg #[.int .i64 m,.int .i64 n,.int .i64 k,.int .i64 d,.int .i64 kn,.int .i64 om,.int .i64 on,.string t]] w fun e w'=>e=.returned (.string ⟨(c6 [m,n,k,d,kn,om,on]++t.data.toList).toArray⟩)∧Below w.heap.size w w':=by
 obtain ⟨vs,hvs⟩:∃ vs:List Int,vs=[m,n,k,d,kn,om,on]:=⟨_,rfl⟩
 have hvl:vs.length=7:=by rw[hvs];rfl
 rw[←hvs] at hbd;have hlen:∀ j,(c6 (vs.take j)).length≤22*j:=by
  intro j;have:∀ l:List Int,(∀ x∈l,IntKind.i64.min≤x∧x≤IntKind.i64.max)→(c6 l).length≤22*l.length:=by
   intro l
   induction l with
   |nil=>intro _;simp[c6]
   |cons x l ih =>
    intro h;have h1:=ih fun y hy=>h y (by simp[hy]);have h2:=Lib.itoa_length_le x (h x (by simp)).1 (h x (by simp)).2;simp only[c6] at h1;simp only[c6,List.flatMap_cons,Z1,Y5,X9];omega
  have h3:=this (vs.take j) fun x hx=>hbd x (List.mem_of_mem_take hx);have h4:(vs.take j).length≤j:=by rw[Y0];omega
  omega
 go_enter Tryz.func131,Tryz.ntmps131
 go_wp2
 go_loopw [26] (fun i wr=>∃ j:Nat,j≤7∧i=.int .i64 j∧km w.heap.size (w.heap.size+1) (c6 (vs.take j)) wr∧wr.heap[w.heap.size]?=some (.cells #[.int .i64 m,.int .i64 n,.int .i64 k,.int .i64 d,.int .i64 kn,.int .i64 om,.int .i64 on,.string t] 50) ∧
  wr.heap[w.heap.size+1+1]?=some (.cells (vs.map (Value.int .i64)).toArray 3)∧Below w.heap.size w wr) (fun i _=>7-(RowKit.intOf i).toNat)
 case atStart =>
  obtain ⟨c1,hc1⟩:∃ c1,c1=Obj.cells #[.int .i64 m,.int .i64 n,.int .i64 k,.int .i64 d,.int .i64 kn,.int .i64 om,.int .i64 on,.string t] 50:=⟨_,rfl⟩
  have hv0:(#[.int .i64 m,.int .i64 n,.int .i64 k,.int .i64 d,.int .i64 kn,.int .i64 om,.int .i64 on]:Array Value)=(vs.map (Value.int .i64)).toArray:=by rw[hvs];rfl
  rw[←hc1,hv0];obtain ⟨w1,hw1⟩:∃ w1,w1=w.alloc c1:=⟨_,rfl⟩
  obtain ⟨w2,hw2⟩:∃ w2,w2=w1.alloc (Obj.cells #[Value.pointer none,Value.slice none 0 0] 205):=⟨_,rfl⟩
  obtain ⟨w3,hw3⟩:∃ w3,w3=w2.alloc (Obj.cells (vs.map (Value.int .i64)).toArray 3):=⟨_,rfl⟩
  have s1:w1.heap.size=w.heap.size+1:=by rw[hw1];simp
  have s2:w2.heap.size=w.heap.size+1+1:=by rw[hw2];simp[s1]
  have b1:Below w.heap.size w w1:=hw1▸iR w c1;have b2:Below w1.heap.size w1 w2:=hw2▸iR w1 _;have b3:Below w2.heap.size w2 w3:=hw3▸iR w2 _;have e1:w1.heap[w.heap.size]?=some c1:=hw1▸heap_alloc_new w c1;have e2:w2.heap[w1.heap.size]?=some (Obj.cells #[Value.pointer none,Value.slice none 0 0] 205):=hw2▸heap_alloc_new w1 _;have e3:w3.heap[w2.heap.size]?=some (Obj.cells (vs.map (Value.int .i64)).toArray 3):=hw3▸heap_alloc_new w2 _;rw[←hw1,←hw2,←hw3];refine ⟨0,by omega,rfl,.inl ⟨by omega,.slice none 0 0,?_,⟨rfl,.inl ⟨rfl,rfl⟩⟩,by simp[Value.ownBlock]⟩,?_,?_,?_⟩
  ·rw[b3.block _ (by omega),←s1];exact e2
  ·rw[b3.block _ (by omega),b2.block _ (by omega)];exact e1
  ·rw[←s2];exact e3
  ·exact (b1.trans (b2.mono (by omega))).trans (b3.mono (by omega))
 case round =>
  obtain ⟨j,hj,rfl,hI,hr,hv,hbw⟩:=hrel;have hB1:w.heap.size≤wr.heap.size:=hbw.size;by_cases hlt:j<7
  ·have hjv:j<vs.length:=by omega
   have hc:wr.cell? ⟨w.heap.size+1+1,j,none⟩=some (.int .i64 vs[j]):=by
    simp[World.cell?,hv,hjv]
   have hbx:=hbd vs[j] (List.getElem_mem hjv);have jw:=Lib.itoa_length_le vs[j] hbx.1 hbx.2;have hj2:=hlen j;have htk:c6 (vs.take (j+1))=c6 (vs.take j)++(Lib.itoa vs[j]++[32]):=by rw[List.take_succ_eq_append_getElem hjv,Wl]
   generalize vs[j]=x at *;have hsz:((⟨(Lib.itoa x).toArray⟩:ByteArray)++⟨#[32]⟩).size=(Lib.itoa x).length+1:=by rw[ByteArray.size_append];rfl
   have hdat:((⟨(Lib.itoa x).toArray⟩:ByteArray)++⟨#[32]⟩).data.toList=Lib.itoa x++[32]:=by simp
   have hlt':decide ((j:Int)<7)=true:=by simp;omega
   have hw:=fj (i:=j) (by omega)
   go_wp2_with (first | (go_at_call 132;refine (Ts x hbx _ (AG hl hbw)).mono ?_;rintro e W1 ⟨rfl,hb1⟩) | (go_at_call 156;refine (D0 w.heap.size (w.heap.size+1) _ _ _ (rJ hI hb1) (by rw[hsz];omega) (by have:=hb1.size;omega)).mono ?_;rintro e W2 ⟨rfl,hI2,hb2,hk2⟩))
   have q1:w.heap.size<wr.heap.size:=eA hr;have q2:w.heap.size+1+1<wr.heap.size:=eA hv;refine ⟨⟨j+1,by omega,rfl,?_,?_,?_,?_⟩,by simp only[RowKit.intOf];omega⟩
   ·rw[htk];rw[hdat] at hI2;exact hI2
   ·exact hk2 _ _ ((hb1.block _ q1).trans hr) (by simp) (fun c fz e=>by cases e)
   ·exact hk2 _ _ ((hb1.block _ q2).trans hv) (by simp) (fun c fz e=>by cases e)
   ·exact (hbw.trans (hb1.mono hB1)).trans hb2
  ·have hj7:j=7:=by omega
   subst hj7;have hlt':decide (((7:Nat):Int)<7)=false:=by decide
   rw[List.take_of_length_le (by omega)] at hI;have hcr:wr.cell? ⟨w.heap.size,7,none⟩=some (.string t):=by simp[World.cell?,hr]
   have q1:w.heap.size<wr.heap.size:=eA hr
   go_wp2
   have hI1:km w.heap.size (w.heap.size+1) (c6 vs) wr.drew:=rJ hI ⟨rfl,rfl,rfl,Z5 _,fun _ _=>rfl⟩;have hcd:wr.drew.cell? ⟨w.heap.size,7,none⟩=some (.string t):=hcr;have ba:∀ W2,tr (w.heap.size+1) wr.drew W2→W2.cell? ⟨w.heap.size,7,none⟩=some (.string t):=fun W2 hk=>by
    have:=hk _ _ hr (by simp) (fun c fz e=>by cases e);simp[World.cell?,this]
   have hl7:=hlen 7;rw[List.take_of_length_le (by omega)] at hl7;have hsum:¬ (9223372036854775807<(⟨(c6 vs).toArray⟩:ByteArray).size+t.size):=by
    have e1:(⟨(c6 vs).toArray⟩:ByteArray).size=(c6 vs).length:=by show (c6 vs).toArray.size=_;simp
    rw[e1];omega
   have hdr:Below w.heap.size wr wr.drew:=⟨rfl,rfl,rfl,Z5 _,fun _ _=>rfl⟩
   have hcall:=xA w.heap.size (w.heap.size+1) _ _ hI1 (by show _≤wr.heap.size;omega);generalize hS:(⟨(c6 vs).toArray⟩:ByteArray)=S at *
   go_region_with (go_at_call 157;refine (hcall).mono ?_;rintro e W2 ⟨rfl,hI2,hb2,hk2⟩;have hc2:=ba W2 hk2)
   all_goals go_wp2
   all_goals go_ret
   all_goals refine ⟨?_,(hbw.trans hdr).trans hb2⟩
   all_goals rw[←hvs,←hS,Hk]
   all_goals rfl
theorem CV{w:World}{D:aD}{E:aN}{r:ai}{v:Value}(h:aO w D E (enc r) v):v=.agg #[.int .i64 r.bf,.int .i64 r.no,.int .i64 r.kind,.int .i64 r.dV,.int .i64 r.known,.int .i64 r.eS,.int .i64 r.fe,.string ⟨r.text.toArray⟩] ∧
  (∀ x∈dv r,IntKind.i64.min≤x∧x≤IntKind.i64.max)∧r.text.length≤maxLen:=by
 obtain ⟨cs,h1,h2⟩:=h;have h2':ae w D E (.agg [.agg [.int .i64 r.bf,.int .i64 r.no],.int .i64 r.kind,.int .i64 r.dV,.int .i64 r.known,.agg [.int .i64 r.eS,.int .i64 r.fe],.aj ⟨r.text.toArray⟩]) cs:=h2;simp only[ae,ay] at h2';obtain ⟨_,_,rfl,⟨_,_,rfl,⟨rfl,a1⟩,_,_,rfl,⟨rfl,a2⟩,rfl⟩,_,_,rfl,⟨rfl,a3⟩,_,_,rfl,⟨rfl,a4⟩,_,_,rfl,⟨rfl,a5⟩,_,_,rfl,⟨_,_,rfl,⟨rfl,a6⟩,_,_,rfl,⟨rfl,a7⟩,rfl⟩,_,_,rfl,⟨rfl,a8⟩,rfl⟩:=h2';refine ⟨h1,?_,by simpa[ByteArray.size] using a8⟩;intro x hx;simp only[dv,zz1,List.not_mem_nil,or_false] at hx;rcases hx with rfl | rfl | rfl | rfl | rfl | rfl | rfl <;>assumption
theorem Em(r:ai)(hs:r.text.length≤1000000000000):aR Tryz.prog 131 [enc r] (enc (ak.of (cu r))):=by
 refine ⟨Gi,fun w D vs hl hD hv =>?_⟩;have hv':=hv;simp only[al] at hv';obtain ⟨v,rest,cs,rfl,h1,h2,rfl⟩:=hv';obtain ⟨rfl,hb,_⟩:=CV (fb h1 h2);refine (F3 _ _ _ _ _ _ _ ⟨r.text.toArray⟩ w hl hb (by show r.text.toArray.size≤_;simpa using hs)).mono ?_;rintro e w' ⟨rfl,hbl⟩;have hlen:(cu r).length≤1000000001000:=by
  have:∀ l:List Int,(∀ x∈l,IntKind.i64.min≤x∧x≤IntKind.i64.max)→(c6 l).length≤22*l.length:=by
   intro l
   induction l with
   |nil=>intro _;simp[c6]
   |cons x l ih =>
    intro h;have h1:=ih fun y hy=>h y (by simp[hy]);have h2:=Lib.itoa_length_le x (h x (by simp)).1 (h x (by simp)).2;simp only[c6] at h1;simp only[c6,List.flatMap_cons,Z1,Y5,X9];omega
  have h3:=this (dv r) hb;have h4:(dv r).length=7:=rfl;rw[cu,Z1];omega
 exact ⟨_,D,rfl,Db (l:=cu r) (by unfold maxLen;omega),hbl,fun b o hd=>Nat.lt_of_lt_of_le (hD b o hd) hbl.size,fun _ _ h _=>h⟩
end Go.Proofs.YtoffnnjbplgnaaaGreatDoor
namespace Go.Proofs.YtoffnnjbplgnaaaGreatDoor
open Go Go.Abs
open Go.Abs.Enc (enc)
def fT(c:UInt8):Bool := !(decide ((c.toNat:Int)<32)||(decide ((c.toNat:Int)>126)||((c.toNat:Int)==63)))
def gD(t:List UInt8):Bool:=decide (t.length≤160)&&t.all fT
theorem Bq{t:List UInt8}{i:Nat}(h:i<t.length)(h1:(t.take i).all fT=true):(fT t[i]=true→(t.take (i+1)).all fT=true)∧(fT t[i]=false→t.all fT=false):=by
 refine ⟨fun h2 =>?_,fun h2 =>?_⟩
 ·rw[List.take_succ_eq_append_getElem h,List.all_append,h1];simp[h2]
 ·rw[List.all_eq_false];exact ⟨t[i],List.getElem_mem h,by simp[h2]⟩
theorem lQ(t:List UInt8):lF (enc (ak.of t))=some (.int .i64 (t.length:Int)):=by rw[p7,ak.dm]
theorem sQ(t:List UInt8){i:Nat}(h:i<t.length):dZ .di [enc (ak.of t),.int .i64 (i:Int)]=some (.int .u8 (t[i].toNat:Int)):=Dp (ak.of t) h
theorem v8(t:List UInt8):kZ (enc (ak.of t))=some (t.map enc):=rfl
theorem El(t:List UInt8):aR Tryz.prog 130 [enc (ak.of t)] (enc (gD t)):=by
 refine aR.bO Tryz.func130 Gh Hs IG (t8 rfl) (fun hwf W0 bF E1 =>?_);simp only[xM,BZ,bC];clear hwf;have hl:=lQ t;have hsb:=v8 t;rcases q:decide ((t.length:Int)>160)
 rotate_left
 ·have h1:(t.length:Int)>160:=of_decide_eq_true q;rw[show gD t=false by simp only[gD];rw[decide_eq_false (by omega)];rfl];have R:=y6 @hl (y6 @q (y6 @bj aH))
  repeat' ((first |(with_reducible refine .guard (fun hb =>?_) (fun hb =>?_) <;>try simp only[hb])|refine U.aL (by decide +kernel) rfl fun K hK =>?_|(refine .aI [0,2,4,7,9,10,11,12,24] hK ?_;clear hK K)|(with_reducible refine .done (hK _ ?_);clear hK K)|refine U.of rfl ?_|(with_reducible refine aB.aJ (fun h =>?_) (fun h =>?_) <;>try simp only[h])) <;>try simp only[aM,R,simprocAttr])
  all_goals clear R
  all_goals rfl
 have h1:¬ (t.length:Int)>160:=of_decide_eq_false q;rw[show gD t=t.all fT by simp only[gD];rw[decide_eq_true (by omega)];rfl];have R:=y6 @hl (y6 @hsb (y6 @q (y6 @bj (y6 @hU aH))))
 repeat' ((first |(with_reducible refine .guard (fun hb =>?_) (fun hb =>?_) <;>try simp only[hb])|refine aX.ez rfl fun m =>?_|refine U.aL (by decide +kernel) rfl fun K hK =>?_|(refine .aI [0,2,4,7,9,10,11,12,24] hK ?_;clear hK K)|(with_reducible refine .done (hK _ ?_);clear hK K)|refine U.of rfl ?_|(with_reducible refine aB.aJ (fun h =>?_) (fun h =>?_) <;>try simp only[h])) <;>try simp only[aM,R,simprocAttr])
 all_goals clear R
 refine U.loop (fun i:Nat=>aw [(0,enc (ak.of t)),(9,enc t),(10,.int .i64 t.length),(11,.int .i64 i)] []) (fun i=>i≤t.length∧(t.take i).all fT=true) (fun i=>t.length-i) 0 ⟨Nat.zero_le _,rfl⟩ ?_ ?_
 ·refine bG.rm [9] 9 (x:=.view 9 [] 1 0 t.length) (y:=enc t) rfl (zF rfl) ?_ ?_ ?_ ?_ ?_ <;>simp[dO,cg,cG,cN,cL,iW,cF,I.only,bN]
 rintro i ⟨hi,hok⟩;by_cases hlt:i<t.length
 ·have hlc:=gj hlt;have he:=fun A=>gP (A:=A) 1 hlt rfl;have hw:=fj (i:=i) (by omega);obtain ⟨h2,h3⟩:=Bq hlt hok;generalize t[i]=c at *;rcases q1:decide ((c.toNat:Int)<32)
  rotate_left
  ·rw[h3 (by simp[fT,q1])];have R:=y6 @hl (y6 @hlc (y6 @he (y6 @hw (y6 @q1 (y6 @p9 (y6 @bj aH))))))
   repeat' ((first |(with_reducible refine .guard (fun hb =>?_) (fun hb =>?_) <;>try simp only[hb])|refine U.aL (by decide +kernel) rfl fun K hK =>?_|(refine .aI [0,2,4,7,9,10,11,12,24] hK ?_;clear hK K)|(with_reducible refine .done (hK _ ?_);clear hK K)|refine U.of rfl ?_|(with_reducible refine aB.aJ (fun h =>?_) (fun h =>?_) <;>try simp only[h])) <;>try simp only[aM,R,simprocAttr])
   all_goals clear R
   all_goals rfl
  rcases q2:decide ((c.toNat:Int)>126)
  rotate_left
  ·rw[h3 (by simp only[fT,q1,q2];rfl)];have R:=y6 @hl (y6 @hlc (y6 @he (y6 @hw (y6 @q1 (y6 @q2 (y6 @p9 (y6 @bj aH)))))))
   repeat' ((first |(with_reducible refine .guard (fun hb =>?_) (fun hb =>?_) <;>try simp only[hb])|refine U.aL (by decide +kernel) rfl fun K hK =>?_|(refine .aI [0,2,4,7,9,10,11,12,24] hK ?_;clear hK K)|(with_reducible refine .done (hK _ ?_);clear hK K)|refine U.of rfl ?_|(with_reducible refine aB.aJ (fun h =>?_) (fun h =>?_) <;>try simp only[h])) <;>try simp only[aM,R,simprocAttr])
   all_goals clear R
   all_goals rfl
  rcases q3:((c.toNat:Int)==63)
  rotate_left
  ·rw[h3 (by simp only[fT,q1,q2,q3];rfl)];have R:=y6 @hl (y6 @hlc (y6 @he (y6 @hw (y6 @q1 (y6 @q2 (y6 @q3 (y6 @p9 (y6 @bj aH))))))))
   repeat' ((first |(with_reducible refine .guard (fun hb =>?_) (fun hb =>?_) <;>try simp only[hb])|refine U.aL (by decide +kernel) rfl fun K hK =>?_|(refine .aI [0,2,4,7,9,10,11,12,24] hK ?_;clear hK K)|(with_reducible refine .done (hK _ ?_);clear hK K)|refine U.of rfl ?_|(with_reducible refine aB.aJ (fun h =>?_) (fun h =>?_) <;>try simp only[h])) <;>try simp only[aM,R,simprocAttr])
   all_goals clear R
   all_goals rfl
  have h4:=h2 (by simp only[fT,q1,q2,q3];rfl);have R:=y6 @hl (y6 @hlc (y6 @he (y6 @hw (y6 @q1 (y6 @q2 (y6 @q3 (y6 @p9 (y6 @bj aH))))))))
  repeat' ((first |(with_reducible refine .guard (fun hb =>?_) (fun hb =>?_) <;>try simp only[hb])|refine U.aL (by decide +kernel) rfl fun K hK =>?_|(refine .aI [0,2,4,7,9,10,11,12,24] hK ?_;clear hK K)|(with_reducible refine .done (hK _ ?_);clear hK K)|refine U.of rfl ?_|(with_reducible refine aB.aJ (fun h =>?_) (fun h =>?_) <;>try simp only[h])) <;>try simp only[aM,R,simprocAttr])
  all_goals clear R
  refine ⟨i+1,⟨by omega,h4⟩,by omega,?_⟩;clear h2 h3 h4 hok;refine bG.df ?_ ?_ ?_ ?_ <;>simp[cG,cN,cL,cg,cF,I.only,bN]
 ·have hlc:=gO hlt;have hge:i=t.length:=by omega
  rw[hge,List.take_length] at hok;rw[hok];have R:=y6 @hl (y6 @hlc (y6 @bj aH))
  repeat' ((first |(with_reducible refine .guard (fun hb =>?_) (fun hb =>?_) <;>try simp only[hb])|refine U.aL (by decide +kernel) rfl fun K hK =>?_|(refine .aI [0,2,4,7,9,10,11,12,24] hK ?_;clear hK K)|(with_reducible refine .done (hK _ ?_);clear hK K)|refine U.of rfl ?_|(with_reducible refine aB.aJ (fun h =>?_) (fun h =>?_) <;>try simp only[h])) <;>try simp only[aM,R,simprocAttr])
  all_goals clear R
  all_goals rfl
theorem EM(t:List UInt8):aR Tryz.prog 86 [enc (ak.of t)] (enc (gD t)):=by
 refine aR.bO Tryz.func86 G5 Ia Jp (t8 rfl) (fun hwf W0 bF E1 =>?_);simp only[yA,CH,bC];clear hwf;have hl:=lQ t;rcases q:decide ((t.length:Int)>160)
 rotate_left
 ·have h1:(t.length:Int)>160:=of_decide_eq_true q;rw[show gD t=false by simp only[gD];rw[decide_eq_false (by omega)];rfl];have R:=y6 @hl (y6 @q (y6 @bj aH))
  repeat' ((first |(with_reducible refine .guard (fun hb =>?_) (fun hb =>?_) <;>try simp only[hb])|refine U.aL (by decide +kernel) rfl fun K hK =>?_|(refine .aI [0,2,3,6,10,28] hK ?_;clear hK K)|(with_reducible refine .done (hK _ ?_);clear hK K)|refine U.of rfl ?_|(with_reducible refine aB.aJ (fun h =>?_) (fun h =>?_) <;>try simp only[h])) <;>try simp only[aM,R,simprocAttr])
  all_goals clear R
  all_goals rfl
 have h1:¬ (t.length:Int)>160:=of_decide_eq_false q;rw[show gD t=t.all fT by simp only[gD];rw[decide_eq_true (by omega)];rfl];have R:=y6 @hl (y6 @q (y6 @bj aH))
 repeat' ((first |(with_reducible refine .guard (fun hb =>?_) (fun hb =>?_) <;>try simp only[hb])|refine U.aL (by decide +kernel) rfl fun K hK =>?_|(refine .aI [0,2,3,6,10,28] hK ?_;clear hK K)|(with_reducible refine .done (hK _ ?_);clear hK K)|refine U.of rfl ?_|(with_reducible refine aB.aJ (fun h =>?_) (fun h =>?_) <;>try simp only[h])) <;>try simp only[aM,R,simprocAttr])
 all_goals clear R
 refine U.loop (fun i:Nat=>aw [(0,enc (ak.of t)),(3,.int .i64 i)] []) (fun i=>i≤t.length∧(t.take i).all fT=true) (fun i=>t.length-i) 0 ⟨Nat.zero_le _,rfl⟩ ?_ ?_
 ·refine bG.df ?_ ?_ ?_ ?_ <;>simp[cG,cN,cL,cg,cF,I.only,bN]
 rintro i ⟨hi,hok⟩;by_cases hlt:i<t.length
 ·have hlc:=gj hlt;have he:=sQ t hlt;have hw:=fj (i:=i) (by omega);obtain ⟨h2,h3⟩:=Bq hlt hok;generalize t[i]=c at *;rcases q1:decide ((c.toNat:Int)<32)
  rotate_left
  ·rw[h3 (by simp[fT,q1])];have R:=y6 @hl (y6 @hlc (y6 @he (y6 @hw (y6 @q1 (y6 @bj aH)))))
   repeat' ((first |(with_reducible refine .guard (fun hb =>?_) (fun hb =>?_) <;>try simp only[hb])|refine U.aL (by decide +kernel) rfl fun K hK =>?_|(refine .aI [0,2,3,6,10,28] hK ?_;clear hK K)|(with_reducible refine .done (hK _ ?_);clear hK K)|refine U.of rfl ?_|(with_reducible refine aB.aJ (fun h =>?_) (fun h =>?_) <;>try simp only[h])) <;>try simp only[aM,R,simprocAttr])
   all_goals clear R
   all_goals rfl
  rcases q2:decide ((c.toNat:Int)>126)
  rotate_left
  ·rw[h3 (by simp only[fT,q1,q2];rfl)];have R:=y6 @hl (y6 @hlc (y6 @he (y6 @hw (y6 @q1 (y6 @q2 (y6 @bj aH))))))
   repeat' ((first |(with_reducible refine .guard (fun hb =>?_) (fun hb =>?_) <;>try simp only[hb])|refine U.aL (by decide +kernel) rfl fun K hK =>?_|(refine .aI [0,2,3,6,10,28] hK ?_;clear hK K)|(with_reducible refine .done (hK _ ?_);clear hK K)|refine U.of rfl ?_|(with_reducible refine aB.aJ (fun h =>?_) (fun h =>?_) <;>try simp only[h])) <;>try simp only[aM,R,simprocAttr])
   all_goals clear R
   all_goals rfl
  rcases q3:((c.toNat:Int)==63)
  rotate_left
  ·rw[h3 (by simp only[fT,q1,q2,q3];rfl)];have R:=y6 @hl (y6 @hlc (y6 @he (y6 @hw (y6 @q1 (y6 @q2 (y6 @q3 (y6 @bj aH)))))))
   repeat' ((first |(with_reducible refine .guard (fun hb =>?_) (fun hb =>?_) <;>try simp only[hb])|refine U.aL (by decide +kernel) rfl fun K hK =>?_|(refine .aI [0,2,3,6,10,28] hK ?_;clear hK K)|(with_reducible refine .done (hK _ ?_);clear hK K)|refine U.of rfl ?_|(with_reducible refine aB.aJ (fun h =>?_) (fun h =>?_) <;>try simp only[h])) <;>try simp only[aM,R,simprocAttr])
   all_goals clear R
   all_goals rfl
  have h4:=h2 (by simp only[fT,q1,q2,q3];rfl);have R:=y6 @hl (y6 @hlc (y6 @he (y6 @hw (y6 @q1 (y6 @q2 (y6 @q3 (y6 @bj aH)))))))
  repeat' ((first |(with_reducible refine .guard (fun hb =>?_) (fun hb =>?_) <;>try simp only[hb])|refine U.aL (by decide +kernel) rfl fun K hK =>?_|(refine .aI [0,2,3,6,10,28] hK ?_;clear hK K)|(with_reducible refine .done (hK _ ?_);clear hK K)|refine U.of rfl ?_|(with_reducible refine aB.aJ (fun h =>?_) (fun h =>?_) <;>try simp only[h])) <;>try simp only[aM,R,simprocAttr])
  all_goals clear R
  refine ⟨i+1,⟨by omega,h4⟩,by omega,?_⟩;clear h2 h3 h4 hok;refine bG.df ?_ ?_ ?_ ?_ <;>simp[cG,cN,cL,cg,cF,I.only,bN]
 ·have hlc:=gO hlt;have hge:i=t.length:=by omega
  rw[hge,List.take_length] at hok;rw[hok];have R:=y6 @hl (y6 @hlc (y6 @bj aH))
  repeat' ((first |(with_reducible refine .guard (fun hb =>?_) (fun hb =>?_) <;>try simp only[hb])|refine U.aL (by decide +kernel) rfl fun K hK =>?_|(refine .aI [0,2,3,6,10,28] hK ?_;clear hK K)|(with_reducible refine .done (hK _ ?_);clear hK K)|refine U.of rfl ?_|(with_reducible refine aB.aJ (fun h =>?_) (fun h =>?_) <;>try simp only[h])) <;>try simp only[aM,R,simprocAttr])
  all_goals clear R
  all_goals rfl
def nX(r:ai):Bool:=(r.dV==0)&&(decide (r.text=[])&&(iq r.fS&&((r.eS==r.bf)&&decide (r.fe<r.no))))
def fU(r:ai):Bool:=iq r.bz&&(dA 0 40 r.kind&&(dA 0 100000 r.dV&&(dA 0 100000 r.known&&gD r.text)))
def bg(r:ai):Bool:=fU r&&(if r.kind=0 then nX r else decide (r.fS=⟨0,0⟩))
theorem ij:(I.aj ⟨#[]⟩)=enc (ak.of []):=rfl
theorem oU:(I.agg [.int .i64 0,.int .i64 0])=enc (⟨0,0⟩:Item):=rfl
theorem lf(a b:List UInt8):bB .eql (enc (ak.of a)) (enc (ak.of b))=some (.bool (decide (a=b))):=by rw[vZ];simp only[ak.sh]
theorem gq(a b:List UInt8):bB .neq (enc (ak.of a)) (enc (ak.of b))=some (.bool (!decide (a=b))):=by rw[v7];simp only[ak.sh]
theorem nd(r:ai):aR Tryz.prog 80 [enc r] (enc (bg r)):=by
 refine aR.bO Tryz.func80 GZ H4 Jj (t8 rfl) (fun hwf W0 bF E1 =>?_);simp only[c80,CB,bC];clear hwf;have f1:=wS r.bz;have f2:=lT r.kind 0 40;have f3:=wQ r.dV;have f4:=wQ r.known;have f5:=El r.text;have f6:=wS r.fS;cases q1:iq r.bz
 ·rw[q1] at f1;rw[show bg r=false by simp only[bg,fU,q1,Bool.false_and]];have R:=y6 @q1 (y6 @bj aH)
  repeat' ((first |(with_reducible refine .guard (fun hb =>?_) (fun hb =>?_) <;>try simp only[hb])|refine U.aL (by decide +kernel) rfl fun K hK =>?_|refine .flat _ (f1) rfl ?_|refine .flat _ (f2) rfl ?_|refine .flat _ (f3) rfl ?_|refine .flat _ (f4) rfl ?_|refine .flat _ (f5) rfl ?_|(refine .aI [0,1,2,30,33] hK ?_;clear hK K)|(with_reducible refine .done (hK _ ?_);clear hK K)|refine U.of rfl ?_|(with_reducible refine aB.aJ (fun h =>?_) (fun h =>?_) <;>try simp only[h])) <;>try simp only[aM,R,simprocAttr])
  all_goals clear R
  all_goals rfl
 rw[q1] at f1;cases q2:dA 0 40 r.kind
 ·rw[q2] at f2;rw[show bg r=false by simp only[bg,fU,q1,q2,Bool.false_and,Bool.and_false]];have R:=y6 @bj aH
  repeat' ((first |(with_reducible refine .guard (fun hb =>?_) (fun hb =>?_) <;>try simp only[hb])|refine U.aL (by decide +kernel) rfl fun K hK =>?_|refine .flat _ (f1) rfl ?_|refine .flat _ (f2) rfl ?_|refine .flat _ (f3) rfl ?_|refine .flat _ (f4) rfl ?_|refine .flat _ (f5) rfl ?_|(refine .aI [0,1,2,30,33] hK ?_;clear hK K)|(with_reducible refine .done (hK _ ?_);clear hK K)|refine U.of rfl ?_|(with_reducible refine aB.aJ (fun h =>?_) (fun h =>?_) <;>try simp only[h])) <;>try simp only[aM,R,simprocAttr])
  all_goals clear R
  all_goals rfl
 rw[q2] at f2;cases q3:dA 0 100000 r.dV
 ·rw[q3] at f3;rw[show bg r=false by simp only[bg,fU,q1,q2,q3,Bool.false_and,Bool.and_false]];have R:=y6 @bj aH
  repeat' ((first |(with_reducible refine .guard (fun hb =>?_) (fun hb =>?_) <;>try simp only[hb])|refine U.aL (by decide +kernel) rfl fun K hK =>?_|refine .flat _ (f1) rfl ?_|refine .flat _ (f2) rfl ?_|refine .flat _ (f3) rfl ?_|refine .flat _ (f4) rfl ?_|refine .flat _ (f5) rfl ?_|(refine .aI [0,1,2,30,33] hK ?_;clear hK K)|(with_reducible refine .done (hK _ ?_);clear hK K)|refine U.of rfl ?_|(with_reducible refine aB.aJ (fun h =>?_) (fun h =>?_) <;>try simp only[h])) <;>try simp only[aM,R,simprocAttr])
  all_goals clear R
  all_goals rfl
 rw[q3] at f3;cases q4:dA 0 100000 r.known
 ·rw[q4] at f4;rw[show bg r=false by simp only[bg,fU,q1,q2,q3,q4,Bool.false_and,Bool.and_false]];have R:=y6 @bj aH
  repeat' ((first |(with_reducible refine .guard (fun hb =>?_) (fun hb =>?_) <;>try simp only[hb])|refine U.aL (by decide +kernel) rfl fun K hK =>?_|refine .flat _ (f1) rfl ?_|refine .flat _ (f2) rfl ?_|refine .flat _ (f3) rfl ?_|refine .flat _ (f4) rfl ?_|refine .flat _ (f5) rfl ?_|(refine .aI [0,1,2,30,33] hK ?_;clear hK K)|(with_reducible refine .done (hK _ ?_);clear hK K)|refine U.of rfl ?_|(with_reducible refine aB.aJ (fun h =>?_) (fun h =>?_) <;>try simp only[h])) <;>try simp only[aM,R,simprocAttr])
  all_goals clear R
  all_goals rfl
 rw[q4] at f4;cases q5:gD r.text
 ·rw[q5] at f5;rw[show bg r=false by simp only[bg,fU,q1,q2,q3,q4,q5,Bool.false_and,Bool.and_false]];have R:=y6 @bj aH
  repeat' ((first |(with_reducible refine .guard (fun hb =>?_) (fun hb =>?_) <;>try simp only[hb])|refine U.aL (by decide +kernel) rfl fun K hK =>?_|refine .flat _ (f1) rfl ?_|refine .flat _ (f2) rfl ?_|refine .flat _ (f3) rfl ?_|refine .flat _ (f4) rfl ?_|refine .flat _ (f5) rfl ?_|(refine .aI [0,1,2,30,33] hK ?_;clear hK K)|(with_reducible refine .done (hK _ ?_);clear hK K)|refine U.of rfl ?_|(with_reducible refine aB.aJ (fun h =>?_) (fun h =>?_) <;>try simp only[h])) <;>try simp only[aM,R,simprocAttr])
  all_goals clear R
  all_goals rfl
 rw[q5] at f5;have hH:fU r=true:=by simp only[fU,q1,q2,q3,q4,q5,Bool.and_self]
 cases k:(r.kind==0)
 ·rw[show bg r=decide (r.fS=⟨0,0⟩) by simp only[bg,hH,Bool.true_and];rw[if_neg (by simpa using k)]];have R:=y6 @k (y6 @oU (y6 @bj aH))
  repeat' ((first |(with_reducible refine .guard (fun hb =>?_) (fun hb =>?_) <;>try simp only[hb])|refine U.aL (by decide +kernel) rfl fun K hK =>?_|refine .flat _ (f1) rfl ?_|refine .flat _ (f2) rfl ?_|refine .flat _ (f3) rfl ?_|refine .flat _ (f4) rfl ?_|refine .flat _ (f5) rfl ?_|(refine .aI [0,1,2,30,33] hK ?_;clear hK K)|(with_reducible refine .done (hK _ ?_);clear hK K)|refine U.of rfl ?_|(with_reducible refine aB.aJ (fun h =>?_) (fun h =>?_) <;>try simp only[h])) <;>try simp only[aM,R,simprocAttr])
  all_goals clear R
  all_goals rfl
 rw[show bg r=nX r by simp only[bg,hH,Bool.true_and];rw[if_pos (by simpa using k)]];simp only[nX];cases w1:(r.dV==0)
 ·have R:=y6 @k (y6 @w1 (y6 @ij (y6 @lf (y6 @bj aH))))
  repeat' ((first |(with_reducible refine .guard (fun hb =>?_) (fun hb =>?_) <;>try simp only[hb])|refine U.aL (by decide +kernel) rfl fun K hK =>?_|refine .flat _ (f1) rfl ?_|refine .flat _ (f2) rfl ?_|refine .flat _ (f3) rfl ?_|refine .flat _ (f4) rfl ?_|refine .flat _ (f5) rfl ?_|refine .flat _ (f6) rfl ?_|(refine .aI [0,1,2,30,33] hK ?_;clear hK K)|(with_reducible refine .done (hK _ ?_);clear hK K)|refine U.of rfl ?_|(with_reducible refine aB.aJ (fun h =>?_) (fun h =>?_) <;>try simp only[h])) <;>try simp only[aM,R,simprocAttr])
  all_goals clear R
  all_goals rfl
 cases w2:decide (r.text=[])
 ·have R:=y6 @k (y6 @w1 (y6 @w2 (y6 @ij (y6 @lf (y6 @bj aH)))))
  repeat' ((first |(with_reducible refine .guard (fun hb =>?_) (fun hb =>?_) <;>try simp only[hb])|refine U.aL (by decide +kernel) rfl fun K hK =>?_|refine .flat _ (f1) rfl ?_|refine .flat _ (f2) rfl ?_|refine .flat _ (f3) rfl ?_|refine .flat _ (f4) rfl ?_|refine .flat _ (f5) rfl ?_|refine .flat _ (f6) rfl ?_|(refine .aI [0,1,2,30,33] hK ?_;clear hK K)|(with_reducible refine .done (hK _ ?_);clear hK K)|refine U.of rfl ?_|(with_reducible refine aB.aJ (fun h =>?_) (fun h =>?_) <;>try simp only[h])) <;>try simp only[aM,R,simprocAttr])
  all_goals clear R
  all_goals rfl
 cases w3:iq r.fS
 ·rw[w3] at f6;have R:=y6 @k (y6 @w1 (y6 @w2 (y6 @ij (y6 @lf (y6 @bj aH)))))
  repeat' ((first |(with_reducible refine .guard (fun hb =>?_) (fun hb =>?_) <;>try simp only[hb])|refine U.aL (by decide +kernel) rfl fun K hK =>?_|refine .flat _ (f1) rfl ?_|refine .flat _ (f2) rfl ?_|refine .flat _ (f3) rfl ?_|refine .flat _ (f4) rfl ?_|refine .flat _ (f5) rfl ?_|refine .flat _ (f6) rfl ?_|(refine .aI [0,1,2,30,33] hK ?_;clear hK K)|(with_reducible refine .done (hK _ ?_);clear hK K)|refine U.of rfl ?_|(with_reducible refine aB.aJ (fun h =>?_) (fun h =>?_) <;>try simp only[h])) <;>try simp only[aM,R,simprocAttr])
  all_goals clear R
  all_goals rfl
 rw[w3] at f6;cases w4:(r.eS==r.bf)
 ·have R:=y6 @k (y6 @w1 (y6 @w2 (y6 @w4 (y6 @ij (y6 @lf (y6 @bj aH))))))
  repeat' ((first |(with_reducible refine .guard (fun hb =>?_) (fun hb =>?_) <;>try simp only[hb])|refine U.aL (by decide +kernel) rfl fun K hK =>?_|refine .flat _ (f1) rfl ?_|refine .flat _ (f2) rfl ?_|refine .flat _ (f3) rfl ?_|refine .flat _ (f4) rfl ?_|refine .flat _ (f5) rfl ?_|refine .flat _ (f6) rfl ?_|(refine .aI [0,1,2,30,33] hK ?_;clear hK K)|(with_reducible refine .done (hK _ ?_);clear hK K)|refine U.of rfl ?_|(with_reducible refine aB.aJ (fun h =>?_) (fun h =>?_) <;>try simp only[h])) <;>try simp only[aM,R,simprocAttr])
  all_goals clear R
  all_goals rfl
 have R:=y6 @k (y6 @w1 (y6 @w2 (y6 @w4 (y6 @ij (y6 @lf (y6 @bj aH))))))
 repeat' ((first |(with_reducible refine .guard (fun hb =>?_) (fun hb =>?_) <;>try simp only[hb])|refine U.aL (by decide +kernel) rfl fun K hK =>?_|refine .flat _ (f1) rfl ?_|refine .flat _ (f2) rfl ?_|refine .flat _ (f3) rfl ?_|refine .flat _ (f4) rfl ?_|refine .flat _ (f5) rfl ?_|refine .flat _ (f6) rfl ?_|(refine .aI [0,1,2,30,33] hK ?_;clear hK K)|(with_reducible refine .done (hK _ ?_);clear hK K)|refine U.of rfl ?_|(with_reducible refine aB.aJ (fun h =>?_) (fun h =>?_) <;>try simp only[h])) <;>try simp only[aM,R,simprocAttr])
 all_goals clear R
 all_goals rfl
def fk(r:ai):Int:=if bg r=true then 0 else 80
theorem EF(r:ai):aR Tryz.prog 33 [enc r] (enc (fk r)):=by
 refine aR.bO Tryz.func33 GM HS I7 (t8 rfl) (fun hwf W0 bF E1 =>?_);simp only[yi,Cq,bC];clear hwf;have f:=nd r;cases q:bg r
 ·rw[q] at f;rw[show fk r=80 by simp[fk,q]];have R:=y6 @bj aH
  repeat' ((first |refine U.aL (by decide +kernel) rfl fun K hK =>?_|refine .flat _ (f) rfl ?_|(refine .aI [0,1,2,5] hK ?_;clear hK K)|(with_reducible refine .done (hK _ ?_);clear hK K)|refine U.of rfl ?_|(with_reducible refine aB.aJ (fun h =>?_) (fun h =>?_) <;>try simp only[h])) <;>try simp only[aM,R,simprocAttr])
  all_goals clear R
 ·rw[q] at f;rw[show fk r=0 by simp[fk,q]];have R:=y6 @bj aH
  repeat' ((first |refine U.aL (by decide +kernel) rfl fun K hK =>?_|refine .flat _ (f) rfl ?_|(refine .aI [0,1,2,5] hK ?_;clear hK K)|(with_reducible refine .done (hK _ ?_);clear hK K)|refine U.of rfl ?_|(with_reducible refine aB.aJ (fun h =>?_) (fun h =>?_) <;>try simp only[h])) <;>try simp only[aM,R,simprocAttr])
  all_goals clear R
def dB(t:List UInt8):List (List UInt8):=(iT 10 true t).dropLast
theorem AS{t:List UInt8}(h:∀ b∈t,b≠10):dB t=[]:=by rw[dB,zb h];rfl
theorem TT{x:List UInt8}(y:List UInt8)(h:∀ b∈x,b≠10):dB (x++10::y)=(x++[10])::dB y:=by
 rw[dB,za y h,if_pos rfl,List.dropLast_cons_of_ne_nil (JC 10 true y)];rfl
def iI(b9:Int→List UInt8→Option (ai×Int))(nx:List ai→ai→Bool):List ai→Int→Nat→List (List UInt8)→List ai×Nat
 |out,_,size,[]=>(out,size)
 |out,s,size,x::t=>match b9 s x with
  |none=>(out,size)
  |some q=>if nx out q.1=true then iI b9 nx (out++[q.1]) q.2 (size+x.length) t else (out,size)
def eO:Int→List ai→List UInt8
 |_,[]=>[]
 |s,r::l=>cQ s r++eO (cH s (cu r)) l
def er:Int→List ai→Int
 |s,[]=>s
 |s,r::l=>er (cH s (cu r)) l
theorem DR:∀ (a b:List ai) (s:Int),eO s (a++b)=eO s a++eO (er s a) b
 | [],_,_=>rfl
 |r::a,b,s=>by simp only[Y3,eO,er,DR a b,Z9]
theorem DN:∀ (a b:List ai) (s:Int),er s (a++b)=er (er s a) b
 | [],_,_=>rfl
 |r::a,b,s=>by simp only[Y3,er,DN a b]
theorem DO:∀ (a:List ai) {s:Int},0≤s∧s<1000003→0≤er s a∧er s a<1000003
 | [],_,h=>h
 |_::a,_,h=>DO a (mW h _)
theorem wG(a:List ai)(r:ai)(s:Int):eO s (a++[r])=eO s a++cQ (er s a) r∧er s (a++[r])=cH (er s a) (cu r):=by
 rw[DR,DN];simp only[eO,er,List.append_nil,and_self]
def iO(ok:ai→Bool)(nx:List ai→ai→Bool):List ai→List ai→Prop
 |_,[]=>True
 |out,r::l=>ok r=true∧nx out r=true∧iO ok nx (out++[r]) l
def jh(ok:ai→Bool)(nx:List ai→ai→Bool)(t:List UInt8):List ai×List UInt8:=((iI (dF ok) nx [] 1 0 (dB t)).1,t.take (iI (dF ok) nx [] 1 0 (dB t)).2)
def sr(ok:ai→Bool)(nx:List ai→ai→Bool)(a b:List UInt8):List ai×List UInt8 :=
 if (jh ok nx a).1.length<(jh ok nx b).1.length then jh ok nx b else jh ok nx a
def fm(l:List ai)(m:Int):Nat:=l.countP fun r=>decide (r.bf=m)
def nm(a b:ai):Bool:=decide (a.bf<b.bf∨(a.bf=b.bf∧a.no<b.no))
def jk(l:List ai)(r:ai):Bool:=match l.getLast? with
 |none=>decide ((r.bf=-1∧r.no=1)∨(-1<r.bf∧r.no=0))
 |some a=>decide ((r.bf=a.bf∧r.no=a.no+1)∨(a.bf<r.bf∧r.no=0))
def wv(l:List ai)(r:ai):Bool:=(match l.getLast? with
 |none=>true
 |some a=>nm a r)&&decide ((fm l r.bf:Int)=r.no)
def hZ(aV:List ai→ai→Bool):List ai→List ai→Bool
 |_,[]=>true
 |out,r::l=>aV out r&&hZ aV (out++[r]) l
def oy(l:List ai):Prop:=match l.getLast? with
 |none=>True
 |some a=>(fm l a.bf:Int)=a.no+1∧∀ m,a.bf<m→fm l m=0
theorem oR(l:List ai)(r:ai)(m:Int):fm (l++[r]) m=fm l m+if r.bf=m then 1 else 0:=by
 rw[fm,List.countP_append,←fm,List.countP_cons,List.countP_nil];simp
theorem WR{l:List ai}(h:oy l){r:ai}(hr:0≤r.bf∧0≤r.no):jk l r=wv l r∧(jk l r=true→oy (l++[r])):=by
 rw[oy] at h;have hl:(l++[r]).getLast?=some r:=by rw[List.getLast?_append];rfl
 rw[oy,hl,jk,wv];cases e:l.getLast? with
 |none =>
  have hnil:l=[]:=List.getLast?_eq_none_iff.1 e;subst hnil;have c0:∀ m,fm [] m=0:=fun _=>rfl;have c1:=c0 r.bf;simp only[Bool.true_and];refine ⟨?_,?_⟩
  ·rw[Bool.eq_iff_iff,decide_eq_true_iff,decide_eq_true_iff];constructor
   ·intro h;rcases h with h | h <;>omega
   ·intro h;right;omega
  ·intro h;rw[decide_eq_true_eq] at h;refine ⟨by rw[oR,if_pos rfl];omega,fun m hm =>?_⟩;rw[oR,if_neg (by omega),c0]
 |some a =>
  rw[e] at h;obtain ⟨h1,h2⟩:=h;simp only;refine ⟨?_,?_⟩
  ·rw[nm,Bool.eq_iff_iff,Z0,decide_eq_true_eq,decide_eq_true_eq,decide_eq_true_eq];rcases Int.lt_trichotomy a.bf r.bf with c | c | c
   ·have:=h2 r.bf c;constructor
    ·intro k;exact ⟨.inl c,by omega⟩
    ·intro k;right;omega
   ·rw[←c];constructor
    ·intro k;exact ⟨.inr ⟨rfl,by omega⟩,by omega⟩
    ·intro k;left;omega
   ·constructor
    ·intro k;omega
    ·intro k;omega
  ·intro k;rw[decide_eq_true_eq] at k;rw[oR,if_pos rfl];refine ⟨?_,fun m hm =>?_⟩
   ·rcases k with k | k
    ·rw[k.1];omega
    ·have:=h2 r.bf k.1;omega
   ·rw[oR,if_neg (by omega),h2 m (by omega)]
theorem xB:∀ (l out:List ai),oy out→(∀ r∈l,0≤r.bf∧0≤r.no)→hZ jk out l=true→out.Pairwise (fun a b=>nm a b=true)→(out++l).Pairwise (fun a b=>nm a b=true)
 | [],out,_,_,_,h=>by simpa using h
 |r::l,out,h,hr,hb,hp=>by
  simp only[hZ,Z0] at hb;obtain ⟨e,k⟩:=WR h (hr r (by simp));have:=xB l (out++[r]) (k hb.1) (fun x hx=>hr x (by simp[hx])) hb.2 (by
   rw[List.pairwise_append];refine ⟨hp,by simp,fun a ha b hb' =>?_⟩;rw[List.mem_singleton.1 hb'];have hs:=hb.1;rw[e,wv,Z0] at hs;have hne:out≠[]:=fun k=>by rw[k] at ha;cases ha
   have hlast:=List.getLast?_eq_some_getLast hne;rw[hlast] at hs;have h1:=hs.1;have hcat:=List.dropLast_concat_getLast hne;rw[←hcat] at ha hp;rcases zz2.1 ha with ha | ha
   ·have h2:=(List.pairwise_append.1 hp).2.2 a ha _ (List.mem_singleton.2 rfl);simp only[nm,decide_eq_true_eq] at h1 h2 ⊢;omega
   ·rw[List.mem_singleton.1 ha];exact h1)
  rwa [Z9,List.singleton_append] at this
def dY(out:List ai)(r:ai):Bool:=decide (out.length<60)&&decide ((fm out r.bf:Int)=r.no)
theorem iO.len{ok:ai→Bool} : ∀ {l out:List ai},out.length≤60→iO ok dY out l→out.length+l.length≤60
 | [],out,h,_=>by simpa using h
 |r::l,out,h,hw=>by
  have hn:=hw.2.1;simp only[dY,Z0,decide_eq_true_eq] at hn;have:=iO.len (out:=out++[r]) (by simp;omega) hw.2.2;simp only[Z1,Y5,X9] at this ⊢;omega
theorem iO.ok{ok:ai→Bool}{nx:List ai→ai→Bool} : ∀ {l out:List ai},iO ok nx out l→∀ r∈l,ok r=true
 | [],_,_,r,h=>by cases h
 |_::_,_,hw,r,h=>by
  rcases zz1.1 h with rfl | h
  ·exact hw.1
  ·exact iO.ok hw.2.2 r h
theorem kQ{lo hi n:Int} : dA lo hi n=true↔lo≤n∧n≤hi:=by simp[dA]
theorem Bn{x:Item} : iq x=true↔(0≤x.bf∧x.bf≤5)∧0≤x.no∧x.no≤9999:=by simp[iq,kQ]
theorem pJ{r:ai}(h:bg r=true):fU r=true:=by
 simp only[bg,Z0] at h;exact h.1
theorem pI{r:ai}(h:fU r=true):(0≤r.bf∧r.bf≤5)∧(0≤r.no∧r.no≤9999)∧(0≤r.kind∧r.kind≤40)∧(0≤r.dV∧r.dV≤100000)∧(0≤r.known∧r.known≤100000)∧gD r.text=true:=by
 simp only[fU,Bn,kQ,Z0] at h;exact ⟨h.1.1,h.1.2,h.2.1,h.2.2.1,h.2.2.2.1,h.2.2.2.2⟩
theorem Vd{r:ai}(h:bg r=true):(0≤r.eS∧r.eS≤5)∧(0≤r.fe∧r.fe≤9999):=by
 simp only[bg,Z0] at h;obtain ⟨_,h⟩:=h;split at h
 ·simp only[nX,Bn,Z0] at h;exact h.2.2.1
 ·simp only[decide_eq_true_eq,ai.fS,Item.mk.injEq] at h;omega
theorem nW{r:ai}(h:bg r=true):∀ n∈dv r,0≤n∧n<100000000:=by
 obtain ⟨a1,a2,a3,a4,a5,_⟩:=pI (pJ h);obtain ⟨a6,a7⟩:=Vd h;intro n hn;simp only[dv,zz1,List.not_mem_nil,or_false] at hn;rcases hn with rfl | rfl | rfl | rfl | rfl | rfl | rfl <;>omega
theorem Vi{t:List UInt8}(h:gD t=true):t.length≤160:=by
 simp only[gD,Z0,decide_eq_true_eq] at h;exact h.1
theorem sj{r:ai}(h:bg r=true):r.text.length≤160:=Vi (pI (pJ h)).2.2.2.2.2
theorem tm(r:ai):aR Tryz.prog 34 [enc r] (enc (fk r)):=by
 refine aR.bO Tryz.func34 GN HT I8 (t8 rfl) (fun hwf W0 bF E1 =>?_);simp only[yj,Cr,bC];clear hwf;have f1:=xb r.bz;have f2:=kl r.kind 0 40;have f3:=kl r.dV 0 100000;have f4:=kl r.known 0 100000;have f5:=EM r.text;have f6:=xb r.fS;have no:bg r=false→fk r=80:=fun h=>by simp[fk,h]
 have ye:bg r=true→fk r=0:=fun h=>by simp[fk,h]
 cases q1:iq r.bz
 ·rw[q1] at f1;rw[no (by simp only[bg,fU,q1,Bool.false_and])];have R:=y6 @q1 (y6 @bj aH)
  repeat' ((first |(with_reducible refine .guard (fun hb =>?_) (fun hb =>?_) <;>try simp only[hb])|refine U.aL (by decide +kernel) rfl fun K hK =>?_|refine .flat _ (f1) rfl ?_|refine .flat _ (f2) rfl ?_|refine .flat _ (f3) rfl ?_|refine .flat _ (f4) rfl ?_|refine .flat _ (f5) rfl ?_|(refine .aI [0,1,2,30,33,65,69] hK ?_;clear hK K)|(with_reducible refine .done (hK _ ?_);clear hK K)|refine U.of rfl ?_|(with_reducible refine aB.aJ (fun h =>?_) (fun h =>?_) <;>try simp only[h])) <;>try simp only[aM,R,simprocAttr])
  all_goals clear R
  all_goals rfl
 rw[q1] at f1;cases q2:dA 0 40 r.kind
 ·rw[q2] at f2;rw[no (by simp only[bg,fU,q1,q2,Bool.false_and,Bool.and_false])];have R:=y6 @bj aH
  repeat' ((first |(with_reducible refine .guard (fun hb =>?_) (fun hb =>?_) <;>try simp only[hb])|refine U.aL (by decide +kernel) rfl fun K hK =>?_|refine .flat _ (f1) rfl ?_|refine .flat _ (f2) rfl ?_|refine .flat _ (f3) rfl ?_|refine .flat _ (f4) rfl ?_|refine .flat _ (f5) rfl ?_|(refine .aI [0,1,2,30,33,65,69] hK ?_;clear hK K)|(with_reducible refine .done (hK _ ?_);clear hK K)|refine U.of rfl ?_|(with_reducible refine aB.aJ (fun h =>?_) (fun h =>?_) <;>try simp only[h])) <;>try simp only[aM,R,simprocAttr])
  all_goals clear R
  all_goals rfl
 rw[q2] at f2;cases q3:dA 0 100000 r.dV
 ·rw[q3] at f3;rw[no (by simp only[bg,fU,q1,q2,q3,Bool.false_and,Bool.and_false])];have R:=y6 @bj aH
  repeat' ((first |(with_reducible refine .guard (fun hb =>?_) (fun hb =>?_) <;>try simp only[hb])|refine U.aL (by decide +kernel) rfl fun K hK =>?_|refine .flat _ (f1) rfl ?_|refine .flat _ (f2) rfl ?_|refine .flat _ (f3) rfl ?_|refine .flat _ (f4) rfl ?_|refine .flat _ (f5) rfl ?_|(refine .aI [0,1,2,30,33,65,69] hK ?_;clear hK K)|(with_reducible refine .done (hK _ ?_);clear hK K)|refine U.of rfl ?_|(with_reducible refine aB.aJ (fun h =>?_) (fun h =>?_) <;>try simp only[h])) <;>try simp only[aM,R,simprocAttr])
  all_goals clear R
  all_goals rfl
 rw[q3] at f3;cases q4:dA 0 100000 r.known
 ·rw[q4] at f4;rw[no (by simp only[bg,fU,q1,q2,q3,q4,Bool.false_and,Bool.and_false])];have R:=y6 @bj aH
  repeat' ((first |(with_reducible refine .guard (fun hb =>?_) (fun hb =>?_) <;>try simp only[hb])|refine U.aL (by decide +kernel) rfl fun K hK =>?_|refine .flat _ (f1) rfl ?_|refine .flat _ (f2) rfl ?_|refine .flat _ (f3) rfl ?_|refine .flat _ (f4) rfl ?_|refine .flat _ (f5) rfl ?_|(refine .aI [0,1,2,30,33,65,69] hK ?_;clear hK K)|(with_reducible refine .done (hK _ ?_);clear hK K)|refine U.of rfl ?_|(with_reducible refine aB.aJ (fun h =>?_) (fun h =>?_) <;>try simp only[h])) <;>try simp only[aM,R,simprocAttr])
  all_goals clear R
  all_goals rfl
 rw[q4] at f4;cases q5:gD r.text
 ·rw[q5] at f5;rw[no (by simp only[bg,fU,q1,q2,q3,q4,q5,Bool.false_and,Bool.and_false])];have R:=y6 @bj aH
  repeat' ((first |(with_reducible refine .guard (fun hb =>?_) (fun hb =>?_) <;>try simp only[hb])|refine U.aL (by decide +kernel) rfl fun K hK =>?_|refine .flat _ (f1) rfl ?_|refine .flat _ (f2) rfl ?_|refine .flat _ (f3) rfl ?_|refine .flat _ (f4) rfl ?_|refine .flat _ (f5) rfl ?_|(refine .aI [0,1,2,30,33,65,69] hK ?_;clear hK K)|(with_reducible refine .done (hK _ ?_);clear hK K)|refine U.of rfl ?_|(with_reducible refine aB.aJ (fun h =>?_) (fun h =>?_) <;>try simp only[h])) <;>try simp only[aM,R,simprocAttr])
  all_goals clear R
  all_goals rfl
 rw[q5] at f5;have hH:fU r=true:=by simp only[fU,q1,q2,q3,q4,q5,Bool.and_self]
 cases k:(r.kind==0)
 ·cases z:decide (r.fS=⟨0,0⟩)
  ·rw[no (by simp only[bg,hH,Bool.true_and];rw[if_neg (by simpa using k)];exact z)];have R:=y6 @k (y6 @z (y6 @oU (y6 @bj aH)))
   repeat' ((first |(with_reducible refine .guard (fun hb =>?_) (fun hb =>?_) <;>try simp only[hb])|refine U.aL (by decide +kernel) rfl fun K hK =>?_|refine .flat _ (f1) rfl ?_|refine .flat _ (f2) rfl ?_|refine .flat _ (f3) rfl ?_|refine .flat _ (f4) rfl ?_|refine .flat _ (f5) rfl ?_|(refine .aI [0,1,2,30,33,65,69] hK ?_;clear hK K)|(with_reducible refine .done (hK _ ?_);clear hK K)|refine U.of rfl ?_|(with_reducible refine aB.aJ (fun h =>?_) (fun h =>?_) <;>try simp only[h])) <;>try simp only[aM,R,simprocAttr])
   all_goals clear R
   all_goals rfl
  ·rw[ye (by simp only[bg,hH,Bool.true_and];rw[if_neg (by simpa using k)];exact z)];have R:=y6 @k (y6 @z (y6 @oU (y6 @bj aH)))
   repeat' ((first |(with_reducible refine .guard (fun hb =>?_) (fun hb =>?_) <;>try simp only[hb])|refine U.aL (by decide +kernel) rfl fun K hK =>?_|refine .flat _ (f1) rfl ?_|refine .flat _ (f2) rfl ?_|refine .flat _ (f3) rfl ?_|refine .flat _ (f4) rfl ?_|refine .flat _ (f5) rfl ?_|(refine .aI [0,1,2,30,33,65,69] hK ?_;clear hK K)|(with_reducible refine .done (hK _ ?_);clear hK K)|refine U.of rfl ?_|(with_reducible refine aB.aJ (fun h =>?_) (fun h =>?_) <;>try simp only[h])) <;>try simp only[aM,R,simprocAttr])
   all_goals clear R
   all_goals rfl
 have hK:bg r=nX r:=by simp only[bg,hH,Bool.true_and];rw[if_pos (by simpa using k)]
 simp only[nX] at hK;cases w1:(r.dV==0)
 ·have w1':(r.dV != 0)=true:=by simp[bne,w1]
  rw[no (by rw[hK,w1];rfl)];have R:=y6 @k (y6 @w1' (y6 @ij (y6 @gq (y6 @bj aH))))
  repeat' ((first |(with_reducible refine .guard (fun hb =>?_) (fun hb =>?_) <;>try simp only[hb])|refine U.aL (by decide +kernel) rfl fun K hK =>?_|refine .flat _ (f1) rfl ?_|refine .flat _ (f2) rfl ?_|refine .flat _ (f3) rfl ?_|refine .flat _ (f4) rfl ?_|refine .flat _ (f5) rfl ?_|refine .flat _ (f6) rfl ?_|(refine .aI [0,1,2,30,33,65,69] hK ?_;clear hK K)|(with_reducible refine .done (hK _ ?_);clear hK K)|refine U.of rfl ?_|(with_reducible refine aB.aJ (fun h =>?_) (fun h =>?_) <;>try simp only[h])) <;>try simp only[aM,R,simprocAttr])
  all_goals clear R
  all_goals rfl
 have w1':(r.dV != 0)=false:=by simp[bne,w1]
 cases w2:decide (r.text=[])
 ·rw[no (by rw[hK,w1,w2];rfl)];have R:=y6 @k (y6 @w1' (y6 @w2 (y6 @ij (y6 @gq (y6 @bj aH)))))
  repeat' ((first |(with_reducible refine .guard (fun hb =>?_) (fun hb =>?_) <;>try simp only[hb])|refine U.aL (by decide +kernel) rfl fun K hK =>?_|refine .flat _ (f1) rfl ?_|refine .flat _ (f2) rfl ?_|refine .flat _ (f3) rfl ?_|refine .flat _ (f4) rfl ?_|refine .flat _ (f5) rfl ?_|refine .flat _ (f6) rfl ?_|(refine .aI [0,1,2,30,33,65,69] hK ?_;clear hK K)|(with_reducible refine .done (hK _ ?_);clear hK K)|refine U.of rfl ?_|(with_reducible refine aB.aJ (fun h =>?_) (fun h =>?_) <;>try simp only[h])) <;>try simp only[aM,R,simprocAttr])
  all_goals clear R
  all_goals rfl
 cases w3:iq r.fS
 ·rw[w3] at f6;rw[no (by rw[hK,w1,w2,w3];rfl)];have R:=y6 @k (y6 @w1' (y6 @w2 (y6 @ij (y6 @gq (y6 @bj aH)))))
  repeat' ((first |(with_reducible refine .guard (fun hb =>?_) (fun hb =>?_) <;>try simp only[hb])|refine U.aL (by decide +kernel) rfl fun K hK =>?_|refine .flat _ (f1) rfl ?_|refine .flat _ (f2) rfl ?_|refine .flat _ (f3) rfl ?_|refine .flat _ (f4) rfl ?_|refine .flat _ (f5) rfl ?_|refine .flat _ (f6) rfl ?_|(refine .aI [0,1,2,30,33,65,69] hK ?_;clear hK K)|(with_reducible refine .done (hK _ ?_);clear hK K)|refine U.of rfl ?_|(with_reducible refine aB.aJ (fun h =>?_) (fun h =>?_) <;>try simp only[h])) <;>try simp only[aM,R,simprocAttr])
  all_goals clear R
  all_goals rfl
 rw[w3] at f6;cases w4:(r.eS==r.bf)
 ·have w4':(r.eS != r.bf)=true:=by simp[bne,w4]
  rw[no (by rw[hK,w1,w2,w3,w4];rfl)];have R:=y6 @k (y6 @w1' (y6 @w2 (y6 @w4' (y6 @ij (y6 @gq (y6 @bj aH))))))
  repeat' ((first |(with_reducible refine .guard (fun hb =>?_) (fun hb =>?_) <;>try simp only[hb])|refine U.aL (by decide +kernel) rfl fun K hK =>?_|refine .flat _ (f1) rfl ?_|refine .flat _ (f2) rfl ?_|refine .flat _ (f3) rfl ?_|refine .flat _ (f4) rfl ?_|refine .flat _ (f5) rfl ?_|refine .flat _ (f6) rfl ?_|(refine .aI [0,1,2,30,33,65,69] hK ?_;clear hK K)|(with_reducible refine .done (hK _ ?_);clear hK K)|refine U.of rfl ?_|(with_reducible refine aB.aJ (fun h =>?_) (fun h =>?_) <;>try simp only[h])) <;>try simp only[aM,R,simprocAttr])
  all_goals clear R
  all_goals rfl
 have w4':(r.eS != r.bf)=false:=by simp[bne,w4]
 cases w5:decide (r.fe<r.no)
 ·have w5':decide (r.fe≥r.no)=true:=by rw[decide_eq_false_iff_not] at w5;exact decide_eq_true (by omega)
  rw[no (by rw[hK,w1,w2,w3,w4,w5];rfl)];have R:=y6 @k (y6 @w1' (y6 @w2 (y6 @w4' (y6 @w5' (y6 @ij (y6 @gq (y6 @bj aH)))))))
  repeat' ((first |(with_reducible refine .guard (fun hb =>?_) (fun hb =>?_) <;>try simp only[hb])|refine U.aL (by decide +kernel) rfl fun K hK =>?_|refine .flat _ (f1) rfl ?_|refine .flat _ (f2) rfl ?_|refine .flat _ (f3) rfl ?_|refine .flat _ (f4) rfl ?_|refine .flat _ (f5) rfl ?_|refine .flat _ (f6) rfl ?_|(refine .aI [0,1,2,30,33,65,69] hK ?_;clear hK K)|(with_reducible refine .done (hK _ ?_);clear hK K)|refine U.of rfl ?_|(with_reducible refine aB.aJ (fun h =>?_) (fun h =>?_) <;>try simp only[h])) <;>try simp only[aM,R,simprocAttr])
  all_goals clear R
  all_goals rfl
 ·have w5':decide (r.fe≥r.no)=false:=by rw[decide_eq_true_eq] at w5;exact decide_eq_false (by omega)
  rw[ye (by rw[hK,w1,w2,w3,w4,w5];rfl)];have R:=y6 @k (y6 @w1' (y6 @w2 (y6 @w4' (y6 @w5' (y6 @ij (y6 @gq (y6 @bj aH)))))))
  repeat' ((first |(with_reducible refine .guard (fun hb =>?_) (fun hb =>?_) <;>try simp only[hb])|refine U.aL (by decide +kernel) rfl fun K hK =>?_|refine .flat _ (f1) rfl ?_|refine .flat _ (f2) rfl ?_|refine .flat _ (f3) rfl ?_|refine .flat _ (f4) rfl ?_|refine .flat _ (f5) rfl ?_|refine .flat _ (f6) rfl ?_|(refine .aI [0,1,2,30,33,65,69] hK ?_;clear hK K)|(with_reducible refine .done (hK _ ?_);clear hK K)|refine U.of rfl ?_|(with_reducible refine aB.aJ (fun h =>?_) (fun h =>?_) <;>try simp only[h])) <;>try simp only[aM,R,simprocAttr])
  all_goals clear R
  all_goals rfl
theorem DW{n:Int}(h:0≤n∧n<256):IntKind.u8.wrap n=n:=by
 simp only[IntKind.wrap,IntKind.bits,IntKind.signed];simp;omega
theorem eE(a b:List UInt8)(h:a.length+b.length≤9223372036854775807):bB .add (enc (ak.of a)) (enc (ak.of b))=some (enc (ak.of (a++b))):=by
 rw[Wr _ _ (by rw[ak.dm,ak.dm];exact h)];rfl
def jU(m:Nat):UInt8:=UInt8.ofNat (48+m%10)
theorem Tq{m:Nat}(h:10≤m):Lib.itoa (m:Int)=Lib.itoa ((m / 10:Nat):Int)++[jU m]:=by
 rw[Lib.itoa_nonneg,Lib.itoa_nonneg,qW (by omega)];rfl
theorem Tr{m:Nat}(h:m<10):Lib.itoa (m:Int)=[jU m]:=by
 rw[Lib.itoa_nonneg,Lib.decDigits_one (by omega),jU,Nat.mod_eq_of_lt h]
def tv(t:Nat×List UInt8):ab:=aw [(0,.int .i64 (t.1:Int)),(3,enc (ak.of (jU t.1::t.2)))] []
theorem wT(m:Nat)(hm:m≤9223372036854775807):aR Tryz.prog 134 [enc (m:Int)] (enc (ak.of (Lib.itoa (m:Int)))):=by
 refine aR.bO Tryz.func134 Gl Hu II (t8 rfl) (fun hwf W0 bF E1 =>?_);simp only[xO,B3,bC];clear hwf;have hd:∀ k:Nat,k≤9223372036854775807→IntKind.i64.wrap (48+(k:Int).tmod 10)=48+(k:Int).tmod 10∧IntKind.u8.wrap (48+(k:Int).tmod 10)=48+(k:Int).tmod 10∧ak.of [UInt8.ofNat (48+(k:Int).tmod 10).toNat]=ak.of [jU k]:=fun k hk=>by
  have e:((k:Int)).tmod 10=((k%10:Nat):Int):=rfl;rw[e];refine ⟨dH _ (by omega) (by omega),DW (by omega),?_⟩;rw[jU,show ((48:Int)+((k%10:Nat):Int)).toNat=48+k%10 by omega]
 obtain ⟨h1,h2,h3⟩:=hd m hm;have R:=y6 @h1 (y6 @h2 (y6 @h3 (y6 @bj aH)))
 repeat' ((first |refine U.aL (by decide +kernel) rfl fun K hK =>?_|(refine .aI [0,2,3,11] hK ?_;clear hK K)|(with_reducible refine .done (hK _ ?_);clear hK K)|refine U.of rfl ?_|(with_reducible refine aB.aJ (fun h =>?_) (fun h =>?_) <;>try simp only[h])) <;>try simp only[aM,R,simprocAttr])
 all_goals clear R
 refine U.loop tv (fun t=>t.1≤9223372036854775807∧Lib.itoa (m:Int)=Lib.itoa (t.1:Int)++t.2) (fun t=>t.1) (m,[]) ⟨hm,by simp⟩ ?_ ?_
 ·simp only[tv];refine bG.df ?_ ?_ ?_ ?_ <;>simp[cG,cN,cL,cg,cF,I.only,bN]
 rintro ⟨k,t⟩ ⟨hk,hin⟩;simp only at hk hin;simp only[tv];by_cases hlt:k<10
 ·have hlc:decide ((k:Int)≥10)=false:=decide_eq_false (by omega);rw[Tr hlt] at hin;rw[hin];have R:=y6 @hlc (y6 @bj aH)
  repeat' ((first |refine U.aL (by decide +kernel) rfl fun K hK =>?_|(refine .aI [0,2,3,11] hK ?_;clear hK K)|(with_reducible refine .done (hK _ ?_);clear hK K)|refine U.of rfl ?_|(with_reducible refine aB.aJ (fun h =>?_) (fun h =>?_) <;>try simp only[h])) <;>try simp only[aM,R,simprocAttr])
  all_goals clear R
  all_goals rfl
 ·have hlc:decide ((k:Int)≥10)=true:=decide_eq_true (by omega);have hq:IntKind.i64.wrap ((k:Int).tdiv 10)=((k / 10:Nat):Int):=by
   have e:((k:Int)).tdiv 10=((k / 10:Nat):Int):=rfl;rw[e];exact dH _ (by omega) (by omega)
  obtain ⟨g1,g2,g3⟩:=hd (k / 10) (by omega);rw[Tq (m:=k) (by omega),Z9,List.singleton_append] at hin;have hlen:(jU k::t).length≤100:=by
   have h4:=congrArg List.length hin;rw[Z1] at h4;have h5:=Lib.itoa_length_le (m:Int) (by omega) (by omega);omega
  have hadd:=eE [jU (k / 10)] (jU k::t) (by simp only[List.length_singleton];omega);have R:=y6 @hlc (y6 @hq (y6 @g1 (y6 @g2 (y6 @g3 (y6 @hadd (y6 @bj aH))))))
  repeat' ((first |refine U.aL (by decide +kernel) rfl fun K hK =>?_|(refine .aI [0,2,3,11] hK ?_;clear hK K)|(with_reducible refine .done (hK _ ?_);clear hK K)|refine U.of rfl ?_|(with_reducible refine aB.aJ (fun h =>?_) (fun h =>?_) <;>try simp only[h])) <;>try simp only[aM,R,simprocAttr])
  all_goals clear R
  refine ⟨(k / 10,jU k::t),⟨by simp only;omega,hin⟩,by simp only;omega,?_⟩;clear hin hd hadd hlen;refine bG.df ?_ ?_ ?_ ?_ <;>simp[cG,cN,cL,cg,cF,I.only,bN]
theorem lU{n:Int}(h:0≤n∧n<100000000):aR Tryz.prog 134 [.int .i64 n] (enc (ak.of (Lib.itoa n)))∧(Lib.itoa n).length≤8:=by
 obtain ⟨m,rfl⟩:=Y2 h.1;exact ⟨wT m (by omega),pq (k:=7) (by omega)⟩
theorem Eo(r:ai)(hs:r.text.length≤1000000000000)(hn:∀ n∈dv r,0≤n∧n<100000000):aR Tryz.prog 133 [enc r] (enc (ak.of (cu r))):=by
 obtain ⟨c1,l1⟩:=lU (hn r.bf (by simp[dv]));obtain ⟨c2,l2⟩:=lU (hn r.no (by simp[dv]));obtain ⟨c3,l3⟩:=lU (hn r.kind (by simp[dv]));obtain ⟨c4,l4⟩:=lU (hn r.dV (by simp[dv]));obtain ⟨c5,l5⟩:=lU (hn r.known (by simp[dv]));obtain ⟨qN,l6⟩:=lU (hn r.eS (by simp[dv]));obtain ⟨F7,l7⟩:=lU (hn r.fe (by simp[dv]));have hb:cu r=Lib.itoa r.bf++[32]++Lib.itoa r.no++[32]++Lib.itoa r.kind++[32]++Lib.itoa r.dV++[32]++Lib.itoa r.known++[32]++Lib.itoa r.eS++[32]++Lib.itoa r.fe++[32]++r.text:=by
  simp[cu,c6,dv]
 rw[hb];generalize Lib.itoa r.bf=x1 at *;generalize Lib.itoa r.no=x2 at *;generalize Lib.itoa r.kind=x3 at *;generalize Lib.itoa r.dV=x4 at *;generalize Lib.itoa r.known=x5 at *;generalize Lib.itoa r.eS=x6 at *;generalize Lib.itoa r.fe=x7 at *;have ls:([32]:List UInt8).length=1:=rfl;have a1:=eE x1 [32] (by omega);have a2:=eE (x1++[32]) x2 (by simp only[Z1,ls];omega);have a3:=eE (x1++[32]++x2) [32] (by simp only[Z1,ls];omega);have a4:=eE (x1++[32]++x2++[32]) x3 (by simp only[Z1,ls];omega);have a5:=eE (x1++[32]++x2++[32]++x3) [32] (by simp only[Z1,ls];omega);have a6:=eE (x1++[32]++x2++[32]++x3++[32]) x4 (by simp only[Z1,ls];omega);have a7:=eE (x1++[32]++x2++[32]++x3++[32]++x4) [32] (by simp only[Z1,ls];omega);have a8:=eE (x1++[32]++x2++[32]++x3++[32]++x4++[32]) x5 (by simp only[Z1,ls];omega);have a9:=eE (x1++[32]++x2++[32]++x3++[32]++x4++[32]++x5) [32] (by simp only[Z1,ls];omega);have b1:=eE (x1++[32]++x2++[32]++x3++[32]++x4++[32]++x5++[32]) x6 (by simp only[Z1,ls];omega);have b2:=eE (x1++[32]++x2++[32]++x3++[32]++x4++[32]++x5++[32]++x6) [32] (by simp only[Z1,ls];omega);have b3:=eE (x1++[32]++x2++[32]++x3++[32]++x4++[32]++x5++[32]++x6++[32]) x7 (by simp only[Z1,ls];omega);have b4:=eE (x1++[32]++x2++[32]++x3++[32]++x4++[32]++x5++[32]++x6++[32]++x7) [32] (by simp only[Z1,ls];omega);have b5:=eE (x1++[32]++x2++[32]++x3++[32]++x4++[32]++x5++[32]++x6++[32]++x7++[32]) r.text (by simp only[Z1,ls];omega);refine aR.bO Tryz.func133 Gk Ht IH (t8 rfl) (fun hwf W0 bF E1 =>?_);simp only[xN,B1,bC];clear hwf hb hn;have R:=y6 @mb (y6 @a1 (y6 @a2 (y6 @a3 (y6 @a4 (y6 @a5 (y6 @a6 (y6 @a7 (y6 @a8 (y6 @a9 (y6 @b1 (y6 @b2 (y6 @b3 (y6 @b4 (y6 @b5 aH))))))))))))))
 repeat' ((first |refine U.aL (by decide +kernel) rfl fun K hK =>?_|refine .flat _ (c1) rfl ?_|refine .flat _ (c2) rfl ?_|refine .flat _ (c3) rfl ?_|refine .flat _ (c4) rfl ?_|refine .flat _ (c5) rfl ?_|refine .flat _ (qN) rfl ?_|refine .flat _ (F7) rfl ?_|(refine .aI [0,1,2,3] hK ?_;clear hK K)|(with_reducible refine .done (hK _ ?_);clear hK K)|refine U.of rfl ?_|(with_reducible refine aB.aJ (fun h =>?_) (fun h =>?_) <;>try simp only[h])) <;>try simp only[aM,R,simprocAttr])
 all_goals clear R
 all_goals rfl
theorem DM(s:Int)(l:List UInt8)(c:UInt8):cH s (l++[c])=(257*cH s l+c.toNat+1)%1000003:=by simp[cH]
theorem DK{s:Int}{c:UInt8}(h:0≤s∧s<1000003):IntKind.i64.wrap (257*s)=257*s∧IntKind.i64.wrap (c.toNat:Int)=c.toNat∧IntKind.i64.wrap (257*s+c.toNat)=257*s+c.toNat∧IntKind.i64.wrap (257*s+c.toNat+1)=257*s+c.toNat+1 ∧
  (257*s+(c.toNat:Int)+1).tmod 1000003=(257*s+c.toNat+1)%1000003:=by
 have hc:=c.toNat_lt;exact ⟨dH _ (by omega) (by omega),dH _ (by omega) (by omega),dH _ (by omega) (by omega),dH _ (by omega) (by omega),Int.tmod_eq_emod_of_nonneg (by omega)⟩
theorem tM{r:ai}{k:Nat}(ht:r.text.length≤k)(hn:∀ n∈dv r,0≤n∧n<100000000):(cu r).length≤63+k:=by
 have h:∀ l:List Int,(∀ x∈l,0≤x∧x<100000000)→(c6 l).length≤9*l.length:=by
  intro l
  induction l with
  |nil=>intro _;simp[c6]
  |cons x l ih =>
   intro h;have h1:=ih fun y hy=>h y (by simp[hy]);have h2:=pq (k:=7) (n:=x) (by have:=h x (by simp);omega);simp only[c6] at h1;simp only[c6,List.flatMap_cons,Z1,Y5,X9];omega
 have:=h _ hn;have h4:(dv r).length=7:=rfl;rw[cu,Z1];omega
theorem oB(s:Int)(hs:0≤s∧s<1000003)(r:ai)(hr:bg r=true):aR Tryz.prog 81 [enc s,enc r] (.tuple [enc (ak.of (cQ s r)),enc (cH s (cu r))]):=by
 have ht:=sj hr;have hn:=nW hr;have hbl:=tM ht hn;have hF:=Em r (by omega);have hsum:=fun l=>mW hs l;simp only[cQ];generalize hb:cu r=b at *;have hsb:=v8 b;refine aR.bO Tryz.func81 G0 H5 Jk (t8 rfl) (fun hwf W0 bF E1 =>?_);simp only[yu,CC,bC,Z8];clear hwf;have R:=y6 @hsb (y6 @bj (y6 @hU aH))
 repeat' ((first |refine aX.ez rfl fun m =>?_|refine U.aL (by decide +kernel) rfl fun K hK =>?_|refine .flat _ (hF) rfl ?_|(refine .aI [0,1,3,4,5,6,8,12,13,14,15] hK ?_;clear hK K)|(with_reducible refine .done (hK _ ?_);clear hK K)|refine U.of rfl ?_|(with_reducible refine aB.aJ (fun h =>?_) (fun h =>?_) <;>try simp only[h])) <;>try simp only[aM,R,simprocAttr])
 all_goals clear R
 refine U.loop (fun i:Nat=>aw [(0,.int .i64 (cH s (b.take i))),(3,.ptr 3 []),(6,enc (ak.of b)),(12,enc b),(13,.int .i64 b.length),(14,.int .i64 i)] [(3,.box (enc r))]) (fun i=>i≤b.length) (fun i=>b.length-i) 0 (Nat.zero_le _) ?_ ?_
 ·refine bG.rm [12] 12 (x:=.view 12 [] 1 0 b.length) (y:=enc b) rfl (zF rfl) ?_ ?_ ?_ ?_ ?_ <;>simp[dO,cg,cG,cN,cL,aC,iW,cF,aE,ah.only,I.only,bN]
  all_goals rfl
 intro i hi;have hst:=hsum (b.take i);by_cases hlt:i<b.length
 ·have hlc:=gj hlt;have he:=fun A=>gP (A:=A) 1 hlt rfl;have hw:=fj (i:=i) (by omega);have hsn:=DM s (b.take i) b[i];rw[←List.take_succ_eq_append_getElem hlt] at hsn;generalize b[i]=c at *;generalize cH s (b.take i)=z at *;obtain ⟨g1,g2,g3,g4,g5⟩:=DK (c:=c) hst;have R:=y6 @hlc (y6 @he (y6 @hw (y6 @g1 (y6 @g2 (y6 @g3 (y6 @g4 (y6 @g5 (y6 @p9 (y6 @bj aH)))))))))
  repeat' ((first |refine U.aL (by decide +kernel) rfl fun K hK =>?_|(refine .aI [0,1,3,4,5,6,8,12,13,14,15] hK ?_;clear hK K)|(with_reducible refine .done (hK _ ?_);clear hK K)|refine U.of rfl ?_|(with_reducible refine aB.aJ (fun h =>?_) (fun h =>?_) <;>try simp only[h])) <;>try simp only[aM,R,simprocAttr])
  all_goals clear R
  refine ⟨i+1,by omega,by omega,?_⟩;rw[hsn];refine bG.df ?_ ?_ ?_ ?_ <;>simp[cG,cN,cL,cg,aC,cF,eB,I.only,ah.only,bN]
  all_goals rfl
 ·have hlc:=gO hlt;have hge:i=b.length:=by omega
  subst hge;rw[List.take_length] at hst ⊢;generalize cH s b=z at *;obtain ⟨q,rfl⟩:=Y2 hst.1;have hz:=En (q:Int);have hzl:=pq (k:=7) (n:=(q:Int)) (by omega);rw[u3] at hz;have a1:=eE (Lib.itoa (q:Int)) [32] (by simp;omega);have a2:=eE (Lib.itoa (q:Int)++[32]) b (by simp;omega);have a3:=eE (Lib.itoa (q:Int)++[32]++b) [10] (by simp;omega);have e:c6 [(q:Int)]=Lib.itoa (q:Int)++[32]:=by simp[c6]
  rw[e];have R:=y6 @hlc (y6 @mb (y6 @oV (y6 @a1 (y6 @a2 (y6 @a3 aH)))))
  repeat' ((first |refine U.aL (by decide +kernel) rfl fun K hK =>?_|refine .flat _ (hz) rfl ?_|(refine .aI [0,1,3,4,5,6,8,12,13,14,15] hK ?_;clear hK K)|(with_reducible refine .done (hK _ ?_);clear hK K)|refine U.of rfl ?_|(with_reducible refine aB.aJ (fun h =>?_) (fun h =>?_) <;>try simp only[h])) <;>try simp only[aM,R,simprocAttr])
  all_goals clear R
  all_goals rfl
theorem tn(s:Int)(hs:0≤s∧s<1000003)(r:ai)(hr:bg r=true):aR Tryz.prog 83 [enc s,enc r] (.tuple [enc (ak.of (cQ s r)),enc (cH s (cu r))]):=by
 have ht:=sj hr;have hn:=nW hr;have hbl:=tM ht hn;have hF:=Eo r (by omega) hn;have hsum:=fun l=>mW hs l;simp only[cQ];generalize hb:cu r=b at *;have hl:=lQ b;refine aR.bO Tryz.func83 G2 H7 Jm (t8 rfl) (fun hwf W0 bF E1 =>?_);simp only[yx,CE,bC,Z8];clear hwf;have R:=y6 @bj aH
 repeat' ((first |refine U.aL (by decide +kernel) rfl fun K hK =>?_|refine .flat _ (hF) rfl ?_|(refine .aI [0,1,3,4,5,6,7,13] hK ?_;clear hK K)|(with_reducible refine .done (hK _ ?_);clear hK K)|refine U.of rfl ?_|(with_reducible refine aB.aJ (fun h =>?_) (fun h =>?_) <;>try simp only[h])) <;>try simp only[aM,R,simprocAttr])
 all_goals clear R
 refine U.loop (fun i:Nat=>aw [(0,.int .i64 (cH s (b.take i))),(3,.ptr 3 []),(6,enc (ak.of b)),(7,.int .i64 i)] [(3,.box (enc r))]) (fun i=>i≤b.length) (fun i=>b.length-i) 0 (Nat.zero_le _) ?_ ?_
 ·refine bG.df ?_ ?_ ?_ ?_ <;>simp[cG,cN,cL,cg,aC,cF,eB,I.only,ah.only,bN]
  all_goals rfl
 intro i hi;have hst:=hsum (b.take i);by_cases hlt:i<b.length
 ·have hlc:=gj hlt;have he:=sQ b hlt;have hw:=fj (i:=i) (by omega);have hsn:=DM s (b.take i) b[i];rw[←List.take_succ_eq_append_getElem hlt] at hsn;generalize b[i]=c at *;generalize cH s (b.take i)=z at *;obtain ⟨g1,g2,g3,g4,g5⟩:=DK (c:=c) hst;have R:=y6 @hl (y6 @hlc (y6 @he (y6 @hw (y6 @g1 (y6 @g2 (y6 @g3 (y6 @g4 (y6 @g5 (y6 @bj aH)))))))))
  repeat' ((first |refine U.aL (by decide +kernel) rfl fun K hK =>?_|(refine .aI [0,1,3,4,5,6,7,13] hK ?_;clear hK K)|(with_reducible refine .done (hK _ ?_);clear hK K)|refine U.of rfl ?_|(with_reducible refine aB.aJ (fun h =>?_) (fun h =>?_) <;>try simp only[h])) <;>try simp only[aM,R,simprocAttr])
  all_goals clear R
  refine ⟨i+1,by omega,by omega,?_⟩;rw[hsn];refine bG.df ?_ ?_ ?_ ?_ <;>simp[cG,cN,cL,cg,aC,cF,eB,I.only,ah.only,bN]
  all_goals rfl
 ·have hlc:=gO hlt;have hge:i=b.length:=by omega
  subst hge;rw[List.take_length] at hst ⊢;generalize cH s b=z at *;obtain ⟨q,rfl⟩:=Y2 hst.1;have hz:=wT q (by omega);have hzl:=pq (k:=7) (n:=(q:Int)) (by omega);have a1:=eE (Lib.itoa (q:Int)) [32] (by simp;omega);have a2:=eE (Lib.itoa (q:Int)++[32]) b (by simp;omega);have a3:=eE (Lib.itoa (q:Int)++[32]++b) [10] (by simp;omega);have e:c6 [(q:Int)]=Lib.itoa (q:Int)++[32]:=by simp[c6]
  rw[e];have R:=y6 @hl (y6 @hlc (y6 @mb (y6 @oV (y6 @a1 (y6 @a2 (y6 @a3 aH))))))
  repeat' ((first |refine U.aL (by decide +kernel) rfl fun K hK =>?_|refine .flat _ (hz) rfl ?_|(refine .aI [0,1,3,4,5,6,7,13] hK ?_;clear hK K)|(with_reducible refine .done (hK _ ?_);clear hK K)|refine U.of rfl ?_|(with_reducible refine aB.aJ (fun h =>?_) (fun h =>?_) <;>try simp only[h])) <;>try simp only[aM,R,simprocAttr])
  all_goals clear R
  all_goals rfl
def e9(s:Int)(r:ai):List UInt8×Int×Int:=if dA 0 1000002 s=false then ([],0,1) else if bg r=false then ([],0,80) else (cQ s r,cH s (cu r),0)
theorem rS{s:Int}{r:ai}(h:dA 0 1000002 s=false):e9 s r=([],0,1):=by rw[e9,if_pos h]
theorem rT{s:Int}{r:ai}(h:dA 0 1000002 s=true)(h2:bg r=false):e9 s r=([],0,80):=by rw[e9,h,if_neg (by decide),if_pos h2]
theorem rU{s:Int}{r:ai}(h:dA 0 1000002 s=true)(h2:bg r=true):e9 s r=(cQ s r,cH s (cu r),0):=by rw[e9,h,h2,if_neg (by decide),if_neg (by decide)]
theorem w6(s:Int)(r:ai):aR Tryz.prog 29 [enc s,enc r] (.tuple [enc (ak.of (e9 s r).1),enc (e9 s r).2.1,enc (e9 s r).2.2]):=by
 refine aR.bO Tryz.func29 GI HO I3 (t8 rfl) (fun hwf W0 bF E1 =>?_);simp only[yd,Cm,bC,Z8];clear hwf;have f1:=xa s;have f2:=nd r;cases q1:dA 0 1000002 s
 ·rw[q1] at f1;rw[rS q1];have R:=aH
  repeat' ((first |refine U.aL (by decide +kernel) rfl fun K hK =>?_|refine .flat _ (f1) rfl ?_|(refine .aI [0,1,3,4,5,6,7,8,9,13] hK ?_;clear hK K)|(with_reducible refine .done (hK _ ?_);clear hK K)|refine U.of rfl ?_|(with_reducible refine aB.aJ (fun h =>?_) (fun h =>?_) <;>try simp only[h])) <;>try simp only[aM,R,simprocAttr])
  all_goals clear R
  all_goals rfl
 cases q2:bg r
 ·rw[q1] at f1;rw[q2] at f2;rw[rT q1 q2];have R:=aH
  repeat' ((first |refine U.aL (by decide +kernel) rfl fun K hK =>?_|refine .flat _ (f1) rfl ?_|refine .flat _ (f2) rfl ?_|(refine .aI [0,1,3,4,5,6,7,8,9,13] hK ?_;clear hK K)|(with_reducible refine .done (hK _ ?_);clear hK K)|refine U.of rfl ?_|(with_reducible refine aB.aJ (fun h =>?_) (fun h =>?_) <;>try simp only[h])) <;>try simp only[aM,R,simprocAttr])
  all_goals clear R
  all_goals rfl
 have f3:=oB s (by have:=kQ.1 q1;omega) r q2;rw[q1] at f1;rw[q2] at f2;rw[rU q1 q2];have R:=aH
 repeat' ((first |refine U.aL (by decide +kernel) rfl fun K hK =>?_|refine .flat _ (f1) rfl ?_|refine .flat _ (f2) rfl ?_|refine .lead _ (f3) ?_|(refine .aI [0,1,3,4,5,6,7,8,9,13] hK ?_;clear hK K)|(with_reducible refine .done (hK _ ?_);clear hK K)|refine U.of rfl ?_|(with_reducible refine aB.aJ (fun h =>?_) (fun h =>?_) <;>try simp only[h])) <;>try simp only[aM,R,simprocAttr])
 all_goals clear R
 all_goals rfl
theorem ED(s:Int)(r:ai):aR Tryz.prog 30 [enc s,enc r] (.tuple [enc (ak.of (e9 s r).1),enc (e9 s r).2.1,enc (e9 s r).2.2]):=by
 refine aR.bO Tryz.func30 GJ HP I4 (t8 rfl) (fun hwf W0 bF E1 =>?_);simp only[yf,Cn,bC,Z8];clear hwf;have f1:=kl s 0 1000002;have f2:=tm r;cases q1:dA 0 1000002 s
 ·rw[q1] at f1;rw[rS q1];have R:=aH
  repeat' ((first |refine U.aL (by decide +kernel) rfl fun K hK =>?_|refine .flat _ (f1) rfl ?_|(refine .aI [0,1,3,4,5,6,7,8,11,14] hK ?_;clear hK K)|(with_reducible refine .done (hK _ ?_);clear hK K)|refine U.of rfl ?_|(with_reducible refine aB.aJ (fun h =>?_) (fun h =>?_) <;>try simp only[h])) <;>try simp only[aM,R,simprocAttr])
  all_goals clear R
  all_goals rfl
 cases q2:bg r
 ·rw[q1] at f1;rw[show fk r=80 by simp[fk,q2]] at f2;rw[rT q1 q2];have R:=aH
  repeat' ((first |refine U.aL (by decide +kernel) rfl fun K hK =>?_|refine .flat _ (f1) rfl ?_|refine .flat _ (f2) rfl ?_|(refine .aI [0,1,3,4,5,6,7,8,11,14] hK ?_;clear hK K)|(with_reducible refine .done (hK _ ?_);clear hK K)|refine U.of rfl ?_|(with_reducible refine aB.aJ (fun h =>?_) (fun h =>?_) <;>try simp only[h])) <;>try simp only[aM,R,simprocAttr])
  all_goals clear R
  all_goals rfl
 have f3:=tn s (by have:=kQ.1 q1;omega) r q2;rw[q1] at f1;rw[show fk r=0 by simp[fk,q2]] at f2;rw[rU q1 q2];have R:=aH
 repeat' ((first |refine U.aL (by decide +kernel) rfl fun K hK =>?_|refine .flat _ (f1) rfl ?_|refine .flat _ (f2) rfl ?_|refine .lead _ (f3) ?_|(refine .aI [0,1,3,4,5,6,7,8,11,14] hK ?_;clear hK K)|(with_reducible refine .done (hK _ ?_);clear hK K)|refine U.of rfl ?_|(with_reducible refine aB.aJ (fun h =>?_) (fun h =>?_) <;>try simp only[h])) <;>try simp only[aM,R,simprocAttr])
 all_goals clear R
 all_goals rfl
def vP:bm:=(.seq (.bS none PS) (.seq (.seq (.bS none PY) (.cond (.t 20) (.bS none Ab) .skip)) (.seq (.bS none PZ) (.seq (.bS none P0) (.seq (.bS none Ac) (.seq (.seq (.bS none P1) (.block 0 (.loop (.seq (.bS none P2) (.seq (.cond (.t 29) .skip (.exit 0)) (.seq (.block 1 (.seq (.bS none P3) (.bS none z8))) (.bS none PT))))))) (.seq (.bS none PU) (.seq (.seq (.bS none PV) (.cond (.t 59) (.bS none Aa) .skip)) (.seq (.bS none PW) (.seq (.seq (.bS none PX) (.cond (.t 75) (.bS none uJ) .skip)) (.seq (.bS JT uK) .ret)))))))))))
theorem J5:Tryz.f70.body.bind (ud Tryz.prog Tryz.f70.ntmps)=some (.bS none z7,124,[4,5,6],13,vP):=by kernel_rfl
def gG(s:Int)(t:List UInt8):ai×Int×Bool:=match dF bg s t with
 |some (r,n)=>(r,n,true)
 |none=>(default,0,false)
def gF(r:ai)(n:Int)(b:Bool):List (Nat×ah):=[(1900004,.box (enc r)),(1900005,.box (.int .i64 n)),(1900006,.box (.bool b))]
def kh(x:ai×Int×Bool):I:=.tuple [enc x.1,.int .i64 x.2.1,.bool x.2.2]
def pM(s:Int)(t:List UInt8):bV:=fun r os'=>r=kh (gG s t)∧os'=gF (gG s t).1 (gG s t).2.1 (gG s t).2.2
def mJ:List (Nat×Nat):=[(1900004,4),(1900005,5),(1900006,6)]
def vB:List (Nat×ah):=[(6,.box (.bool false)),(5,.box (.int .i64 0)),(4,.box (enc (default:ai)))]
def mq:List Nat:=[1900004,1900005,1900006]
def na:List I:=[enc (default:ai),.int .i64 0,.bool false]
theorem sM(m:Nat):bp mJ m=if m=1900004 then 4 else if m=1900005 then 5 else if m=1900006 then 6 else m:=rfl
theorem rW{r:ai}{n:Int}{b:Bool}{m:Nat}{y:ah}(h:aE (gF r n b) m=some y):(m=1900004∧y=.box (enc r))∨(m=1900005∧y=.box (.int .i64 n))∨(m=1900006∧y=.box (.bool b)):=by
 simp only[gF,aE] at h;split at h
 ·rename_i e;cases h;exact .inl ⟨e,rfl⟩
 split at h
 ·rename_i e;cases h;exact .inr (.inl ⟨e,rfl⟩)
 split at h
 ·rename_i e;cases h;exact .inr (.inr ⟨e,rfl⟩)
 ·cases h
theorem kP{r:ai}{n:Int}{b:Bool}{m:Nat} : aC (gF r n b) m=true↔m=1900004∨m=1900005∨m=1900006:=by
 constructor
 ·intro h;cases hy:aE (gF r n b) m with
  |none=>rw[aC,hy] at h;cases h
  |some y=>rcases rW hy with ⟨h,_⟩ | ⟨h,_⟩ | ⟨h,_⟩ <;>simp[h]
 ·rintro (rfl | rfl | rfl) <;>rfl
theorem mu{r:ai}{n:Int}{b:Bool}{m:Nat}{y:ah}(h:aE (gF r n b) m=some y)(p:Nat→Bool):y.only p=true∧y.ed=true∧y.aQ (bp mJ)=y:=by
 rcases rW h with ⟨_,rfl⟩ | ⟨_,rfl⟩ | ⟨_,rfl⟩
 ·exact ⟨bN _ _,rfl,by simp only[ah.aQ,iE]⟩
 ·exact ⟨rfl,rfl,rfl⟩
 ·exact ⟨rfl,rfl,rfl⟩
theorem Tb:eH mJ (gF default 0 false) vB:=by
 refine ⟨fun m y hy=>⟨?_,(mu hy _).1,(mu hy (fun _=>true)).2.1⟩,fun m m' hm hm' e =>?_⟩
 ·rw[(mu hy (fun _=>true)).2.2];rcases rW hy with ⟨rfl,rfl⟩ | ⟨rfl,rfl⟩ | ⟨rfl,rfl⟩ <;>rfl
 ·have k1:=kP.1 hm;have k2:=kP.1 hm';rw[sM,sM] at e
  (repeat' split at e) <;>omega
theorem FG(s:Int)(t:List UInt8):∀ r os',pM s t r os'→dx false mJ (gF default 0 false) vB r os':=by
 rintro r os' ⟨rfl,rfl⟩;refine ⟨fun m y hy=>⟨(mu hy _).1,(mu hy (fun _=>true)).2.1,fun h=>by cases h⟩,fun m m' hm hm' e =>?_,fun m hm=>kP.2 (kP.1 hm),fun m hm hno =>?_,⟨?_,fun h=>by cases h⟩⟩
 ·have k1:=kP.1 hm;have k2:=kP.1 hm';rw[sM,sM] at e
  (repeat' split at e) <;>omega
 ·rw[kP.2 (kP.1 hm)] at hno;cases hno
 ·simp only[kh,I.only,I.cD,bN,Bool.and_self]
theorem FF(s:Int)(t:List UInt8):∀ r os',pM s t r os'→∃ osF,r.flat=true∧r.aQ (bp mJ)=r∧(∀ m z,aE osF m=some z→aE (cV mJ os'++vB) m=some z∧z.only (aC osF)=true∧z.ed=true)∧(r=kh (gG s t)∧osF=[]):=by
 rintro r os' ⟨rfl,rfl⟩;refine ⟨[],?_,?_,fun m z hz=>by simp[aE] at hz,rfl,rfl⟩
 ·rfl
 ·simp only[kh,I.aQ,I.cR,iE]
theorem C3{r:ai}{n:Int}{b:Bool}{post:bV}{A:ab}(hp:post (kh (r,n,b)) (gF r n b))(t4:A.t 4=.ptr 1900004 [])(t5:A.t 5=.ptr 1900005 [])(t6:A.t 6=.ptr 1900006 [])(o4:A.o 1900004=some (.box (enc r)))(o5:A.o 1900005=some (.box (.int .i64 n)))(o6:A.o 1900006=some (.box (.bool b))) :
  iC sB post A:=by
 refine ⟨gF r n b,[enc r,.int .i64 n,.bool b],fun m z hz=>⟨?_,(mu hz _).1,(mu hz (fun _=>true)).2.1⟩,⟨⟨enc r,?_,.inl ⟨rfl,eY _,bN _ _⟩⟩,⟨.int .i64 n,?_,.inl ⟨rfl,rfl,rfl⟩⟩,⟨.bool b,?_,.inl ⟨rfl,rfl,rfl⟩⟩,trivial⟩,hp⟩
 ·rcases rW hz with ⟨rfl,rfl⟩ | ⟨rfl,rfl⟩ | ⟨rfl,rfl⟩ <;>assumption
 ·simp only[mA,t4,bL,o4];rfl
 ·simp only[mA,t5,bL,o5];rfl
 ·simp only[mA,t6,bL,o6];rfl
theorem nY{s:Int}{t:List UInt8}(hn:dF bg s t=none){A:ab}{x:ai}{n:Int}{b:Bool}(t4:A.t 4=.ptr 1900004 [])(t5:A.t 5=.ptr 1900005 [])(t6:A.t 6=.ptr 1900006 [])(o4:A.o 1900004=some (.box (enc x)))(o5:A.o 1900005=some (.box (.int .i64 n)))(o6:A.o 1900006=some (.box (.bool b))) :
  pQ sB (pM s t) jm mq na (.panic jm) A:=by
 refine ⟨rfl,⟨⟨_,o4,(eh _).trans (eh _).symm⟩,⟨_,o5,rfl⟩,⟨_,o6,rfl⟩,trivial⟩,?_⟩;refine C3 (r:=default) (n:=0) (b:=false) ?_ t4 t5 t6 ?_ ?_ ?_
 ·show _∧_
  rw[gG,hn];exact ⟨rfl,rfl⟩
 ·simp[mq,na,mM,ab.aP]
 ·simp[mq,na,mM,ab.aP]
 ·simp[mq,na,mM,ab.aP]
theorem BD{Q:Exit→ab→Prop}{ts:List (Nat×I)}{os0:List (Nat×ah)}{u:List UInt8}{v:I}(hv:v=enc (ak.of u))(hlen:u.length≤281474976710656)(h:∀ w t,cE 32 u=some (w,t)→fx w=none)(hq:Q (.panic jm) (aw ts os0)):oD Tryz.prog Q 126 [v] (aw ts os0):=by
 subst hv;exact .mk false [] [] [enc (ak.of u)] jm _ (Ej (ak.of u) (by rw[ak.dm];exact hlen) (by rw[ak.dm];exact h)) ⟨fun m x h=>by simp[aE] at h,fun m m' h=>by simp[aC,aE] at h⟩ ⟨.inl ⟨(iE _ _).symm,bN _ _,eY _⟩,trivial⟩
  (fun os' h=>by subst h;exact ⟨fun m x h=>by simp[aE] at h,fun m m' h=>by simp[aC,aE] at h,fun m h=>h,fun m h=>by simp[aC,aE] at h,⟨rfl,fun h=>by cases h⟩⟩) (fun os' h=>by subst h;exact hq)
def dD(l:List Int):dP 7 Int:=⟨(l++List.replicate 7 0).take 7,by simp⟩
theorem Vq{l:List Int}(h:l.length<7)(v:Int):(⟨(dD l).l.set l.length v,by simp[(dD l).h]⟩:dP 7 Int)=dD (l++[v]):=by
 simp only[dD,dP.mk.injEq];refine List.ext_getElem (by simp) fun i h1 h2 =>?_;simp only[Y0,Z1,List.length_replicate,List.length_set,Y5,X9] at h1 h2;simp only[List.getElem_set,List.getElem_take,List.getElem_append];by_cases e:l.length=i
 ·subst e;simp
 ·by_cases k:i<l.length
  ·rw[if_neg e,dif_pos k,dif_pos (by simp;omega),dif_pos k]
  ·rw[if_neg e,dif_neg k,dif_neg (by simp;omega)];simp only[List.getElem_replicate]
theorem zk:I.agg [.int .i64 0,.int .i64 0,.int .i64 0,.int .i64 0,.int .i64 0,.int .i64 0,.int .i64 0]=enc (dD []):=rfl
theorem Vp{l:List Int}(h:l.length=7)(k:Nat):(dD l).g k=l.getD k 0:=by
 simp only[dP.g,dD];rw[List.take_left' h]
theorem Wy{l:List Int}(h:l.length<7)(v:Int):(enc (dD l):I).dh [l.length] (.int .i64 v)=enc (dD (l++[v])):=by
 have h1:(enc (dD l):I).cX=some ((dD l).l.map enc):=rfl;rw[sR,h1];simp only[mN,uR (dD l) h,oi,fg];rw[←Vq h]
 change I.agg _=I.agg (((dD l).l.set l.length v).map enc)
 rw[List.map_set];rfl
theorem WI{A:ab}{n:Nat}{l:List Int}(h:l.length<7){v u:Int}{rest:List ar} : ep A none n [l.length] (enc (dD l)) (.int .i64 v) rest (some (.int .i64 u))=ao rest (A.aP n (.box (enc (dD (l++[v]))))):=by
 rw[fh (s:=none) (v:=.int .i64 v) (old:=.int .i64 u) rfl rfl rfl,Wy h]
theorem AA(t:List UInt8):Lib.hasSuffix t [10]=decide (t.getLast?=some 10):=by
 have:Lib.hasSuffix t [10]=true↔t.getLast?=some 10:=by
  rw[Lib.hasSuffix,List.isSuffixOf_iff_suffix];constructor
  ·rintro ⟨x,rfl⟩;simp
  ·intro h;obtain ⟨x,rfl⟩:=List.getLast?_eq_some_iff.1 h;exact ⟨x,rfl⟩
 cases h:Lib.hasSuffix t [10]
 ·rw[h] at this;exact (decide_eq_false fun k=>by simpa using this.2 k).symm
 ·rw[h] at this;exact (decide_eq_true (this.1 rfl)).symm
theorem WX{t:List UInt8}(h:t.getLast?=some 10):Lib.trimSuffix t [10]=t.dropLast:=by
 rw[Lib.trimSuffix,AA,decide_eq_true h,if_pos rfl,List.dropLast_eq_take];rfl
theorem dL:(∀ A n b rest (q r:ai),ep A (some 8) n [] b (enc q) rest (some (enc r))=ao rest (A.aP n (.box (enc q))))∧(∀ A n b rest (q:ai) v,v=enc q→ep A (some 8) n [] b v rest (some (enc (default:ai)))=ao rest (A.aP n (.box (enc q)))) :=
 ⟨fun A n b rest q r=>by rw[fh (eY _) (by rw[gM];rfl) ((eh _).trans (eh _).symm),fg],fun A n b rest q v h=>by rw[h,fh (eY _) (by rw[gM];rfl) ((eh _).trans (eh _).symm),fg]⟩
theorem ec:I.agg [.agg [.int .i64 0,.int .i64 0],.int .i64 0,.int .i64 0,.int .i64 0,.agg [.int .i64 0,.int .i64 0],.aj ⟨#[]⟩]=enc (default:ai):=rfl
theorem ky:(∀ x y,fA [.int .i64 0,.int .i64 0] [(0,.int .i64 x),(1,.int .i64 y)]=some [.int .i64 x,.int .i64 y]) ∧
  (∀ (x1 x2 n1 n2 n3 y1 y2:Int) (u:List UInt8),fA [.agg [.int .i64 0,.int .i64 0],.int .i64 0,.int .i64 0,.int .i64 0,.agg [.int .i64 0,.int .i64 0],.aj ⟨#[]⟩] [(0,.agg [.int .i64 x1,.int .i64 x2]),(1,.int .i64 n1),(2,.int .i64 n2),(3,.int .i64 n3),(4,.agg [.int .i64 y1,.int .i64 y2]),(5,enc (ak.of u))]=some [.agg [.int .i64 x1,.int .i64 x2],.int .i64 n1,.int .i64 n2,.int .i64 n3,.agg [.int .i64 y1,.int .i64 y2],enc (ak.of u)]) :=
 ⟨fun _ _=>rfl,fun _ _ _ _ _ _ _ _=>rfl⟩
theorem qb:(∀ A n b rest (q r:Int),ep A none n [] b (.int .i64 q) rest (some (.int .i64 r))=ao rest (A.aP n (.box (.int .i64 q))))∧(∀ A n b rest (q r:Bool),ep A none n [] b (.bool q) rest (some (.bool r))=ao rest (A.aP n (.box (.bool q)))) :=
 ⟨fun A n b rest q r=>by rw[fh (s:=none) (v:=.int .i64 q) (old:=.int .i64 r) rfl rfl rfl,fg],fun A n b rest q r=>by rw[fh (s:=none) (v:=.bool q) (old:=.bool r) rfl rfl rfl,fg]⟩
theorem Ku{n0:Int}{l:List Int}{u:List UInt8}(h:l.length=7):I.agg [.agg [.int .i64 ((dD l).g 0),.int .i64 ((dD l).g 1)],.int .i64 ((dD l).g 2),.int .i64 ((dD l).g 3),.int .i64 ((dD l).g 4),.agg [.int .i64 ((dD l).g 5),.int .i64 ((dD l).g 6)],enc (ak.of u)]=enc (fp (n0::l) u):=by
 simp only[Vp h];rfl
theorem VS{s n0:Int}{t u:List UInt8}{l:List Int}(h:t.getLast?=some 10)(hp:eT fx 8 t.dropLast=some (n0::l,u)) :
  dF bg s t=if bg (fp (n0::l) u)=true∧cQ s (fp (n0::l) u)=t∧n0=cH s (cu (fp (n0::l) u)) then some (fp (n0::l) u,cH s (cu (fp (n0::l) u))) else none:=by
 rw[dF,if_pos h,hp,zz0];generalize fp (n0::l) u=r;simp only[List.headD_cons,kI];by_cases a:bg r=true
 ·by_cases b:cQ s r=t
  ·by_cases c:n0=cH s (cu r)
   ·simp[a,b,c]
   ·simp[a,b,c]
  ·simp[b]
 ·simp[a]
structure xg where
 n0:Int
 l:List Int
 u:List UInt8
def tx(s:Int)(t:List UInt8)(x:xg):ab:=aw [(0,enc s),(1,enc (ak.of t)),(4,.ptr 1900004 []),(5,.ptr 1900005 []),(6,.ptr 1900006 []),(7,enc (ak.of x.u)),(9,enc x.n0),(10,.ptr 10 []),(28,.int .i64 x.l.length)] ((10,.box (enc (dD x.l)))::gF default 0 false)
def Ec(t:List UInt8)(x:xg):Prop:=x.l.length≤7∧x.u.length≤t.length∧eT fx 8 t.dropLast=(eT fx (7-x.l.length) x.u).map fun p=>(x.n0::x.l++p.1,p.2)
theorem wE{f:List UInt8→Option Int}{k:Nat}{u w v:List UInt8}{n:Int}(h1:cE 32 u=some (w,v))(h2:f w=some n):eT f (k+1) u=(eT f k v).map fun p=>(n::p.1,p.2):=by
 rw[eT,h1];simp only[h2]
theorem wC{f:List UInt8→Option Int}{k:Nat}{u:List UInt8}(h:∀ w t,cE 32 u=some (w,t)→f w=none):eT f (k+1) u=none:=by
 rw[eT];cases h1:cE 32 u with
 |none=>rfl
 |some p=>simp only[h p.1 p.2 h1]
theorem zc(u:List UInt8):(∃ w v n,cE 32 u=some (w,v)∧fx w=some n∧v.length≤u.length)∨∀ w t,cE 32 u=some (w,t)→fx w=none:=by
 cases h1:cE 32 u with
 |none=>exact .inr fun w t h=>by cases h
 |some p =>
  obtain ⟨w,v⟩:=p;cases h2:fx w with
  |none=>exact .inr fun w' t' h=>by cases h;exact h2
  |some n=>exact .inl ⟨w,v,n,rfl,h2,by have:=qV h1;simp only at this;omega⟩
theorem Wa{s:Int}(hs:0≤s∧s<1000003){t:List UInt8}(ht:t.length≤281474976710656)(W:World)(D:aD)(E:aN)(n:Nat)(d:Deferred) :
  U ⟨Tryz.prog,W,D,n,bM E,E,fq,none,some [d]⟩ vP (pQ sB (pM s t) jm mq na) (aw [(0,enc s),(1,enc (ak.of t)),(4,.ptr 1900004 []),(5,.ptr 1900005 []),(6,.ptr 1900006 [])] (gF default 0 false)):=by
 have hC:=Ei (ak.of t) (ak.of [10]);rw[ak.dm,ak.dm,AA] at hC;simp only[vP,gF];by_cases hl:t.getLast?=some 10
 ·have hd:decide (t.getLast?=some 10)=true:=decide_eq_true hl;rw[hd,WX hl] at hC;have hT:dF bg s t=(eT fx 8 t.dropLast).bind fun p=>(kI bg s t (fp p.1 p.2)).bind fun q=>if p.1.headD 0=q.2 then some q else none:=by rw[dF,if_pos hl]
  have hlt:t.dropLast.length≤t.length:=by simp
  generalize hu0:t.dropLast=u0 at *;rcases zc u0 with ⟨cK,v0,m0,hw,ho,hv⟩ | hno
  rotate_left
  ·have hn:dF bg s t=none:=by rw[hT,wC (k:=7) hno];rfl
   have R:=y6 @hd (y6 @oV (y6 @jA (y6 @zk (y6 @bj aH))))
   repeat' ((first |(with_reducible refine .guard (fun hb =>?_) (fun hb =>?_) <;>try simp only[hb])|(refine U.kV (gs:=Ac) (gs1:=[_]) rfl fun K hK =>?_)|refine U.aL (by decide +kernel) rfl fun K hK =>?_|refine .flat _ (hC) rfl ?_|(refine .aI [0,1,4,5,6,7,8,9,10,11,12,20,28,29,59,75] hK ?_;clear hK K)|(with_reducible refine .done (hK _ ?_);clear hK K)|refine U.of rfl ?_|(with_reducible refine aB.aJ (fun h =>?_) (fun h =>?_) <;>try simp only[h])) <;>try simp only[aM,R,simprocAttr])
   all_goals clear R
   exact .call (BD rfl (by omega) hno (nY hn rfl rfl rfl rfl rfl rfl))
  have h126:=wR (ak.of u0) (by rw[ak.dm];omega) cK v0 m0 (by rw[ak.dm];exact hw) ho;have R:=y6 @hd (y6 @oV (y6 @jA (y6 @zk (y6 @bj aH))))
  repeat' ((first |(with_reducible refine .guard (fun hb =>?_) (fun hb =>?_) <;>try simp only[hb])|refine U.aL (by decide +kernel) rfl fun K hK =>?_|refine .flat _ (hC) rfl ?_|refine .lead _ (h126) ?_|(refine .aI [0,1,4,5,6,7,8,9,10,11,12,20,28,29,59,75] hK ?_;clear hK K)|(with_reducible refine .done (hK _ ?_);clear hK K)|refine U.of rfl ?_|(with_reducible refine aB.aJ (fun h =>?_) (fun h =>?_) <;>try simp only[h])) <;>try simp only[aM,R,simprocAttr])
  all_goals clear R
  refine U.loop (tx s t) (Ec t) (fun x=>7-x.l.length) ⟨m0,[],v0⟩ ⟨by simp,by simp only;omega,?_⟩ ?_ ?_
  ·rw[hu0,wE hw ho];rfl
  ·simp only[tx,gF];refine bG.df ?_ ?_ ?_ ?_ <;>simp[cG,cN,cL,cg,aC,cF,eB,I.only,ah.only,bN,qY]
   all_goals rfl
  rintro ⟨n0,l,u⟩ ⟨hl7,hul,htk⟩;simp only at hl7 hul htk;rw[hu0] at htk;simp only[tx,gF];by_cases hlt7:l.length<7
  ·have hlc:decide ((l.length:Int)<7)=true:=decide_eq_true (by omega);have hib:=fun {y:Option I} =>ph 1 (dD l) (y:=y) (show (0:Int)≤(l.length:Int)∧(l.length:Int)<(7:Nat) by omega) rfl;have hat:=fun p=>fY (p:=p) (dD l) hlt7;have hst:=fun A n v u rest=>WI (A:=A) (n:=n) hlt7 (v:=v) (u:=u) (rest:=rest);have hws:=fj (i:=l.length) (by omega);have e7:7-l.length=(7-(l++[(0:Int)]).length)+1:=by simp;omega
   rcases zc u with ⟨w,v,m,hw1,ho1,hv1⟩ | hno
   ·have h126':=wR (ak.of u) (by rw[ak.dm];omega) w v m (by rw[ak.dm];exact hw1) ho1;have R:=y6 @hlc (y6 @hib (y6 @hat (y6 @hst (y6 @hws (y6 @Int.toNat_natCast (y6 @bj aH))))))
    repeat' ((first |(with_reducible refine .guard (fun hb =>?_) (fun hb =>?_) <;>try simp only[hb])|refine U.aL (by decide +kernel) rfl fun K hK =>?_|refine .lead _ (h126') ?_|(refine .aI [0,1,4,5,6,7,8,9,10,11,12,20,28,29,59,75] hK ?_;clear hK K)|(with_reducible refine .done (hK _ ?_);clear hK K)|refine U.of rfl ?_|(with_reducible refine aB.aJ (fun h =>?_) (fun h =>?_) <;>try simp only[h])) <;>try simp only[aM,R,simprocAttr])
    all_goals clear R
    refine ⟨⟨n0,l++[m],v⟩,⟨by simp;omega,by simp only;omega,?_⟩,by simp;omega,?_⟩
    ·rw[hu0,htk,e7,wE hw1 ho1];simp only[Z1,Y5,X9,Option.map_map]
     congr 1
     funext p
     simp
    ·have el:((l++[m]).length:Int)=((l.length+1:Nat):Int):=by simp
     simp only[el];refine bG.df ?_ ?_ ?_ ?_ <;>simp[cG,cN,cL,cg,aC,cF,eB,I.only,ah.only,bN]
     all_goals rfl
   ·have hn:dF bg s t=none:=by rw[hT,htk,e7,wC hno];rfl
    have R:=y6 @hlc (y6 @hib (y6 @hat (y6 @hst (y6 @hws (y6 @jA (y6 @bj aH))))))
    repeat' ((first |(with_reducible refine .guard (fun hb =>?_) (fun hb =>?_) <;>try simp only[hb])|(refine U.kV (gs:=z8) (gs1:=[_,_]) rfl fun K hK =>?_)|refine U.aL (by decide +kernel) rfl fun K hK =>?_|refine .flat _ (hC) rfl ?_|(refine .aI [0,1,4,5,6,7,8,9,10,11,12,20,28,29,59,75] hK ?_;clear hK K)|(with_reducible refine .done (hK _ ?_);clear hK K)|refine U.of rfl ?_|(with_reducible refine aB.aJ (fun h =>?_) (fun h =>?_) <;>try simp only[h])) <;>try simp only[aM,R,simprocAttr])
    all_goals clear R
    exact .call (BD rfl (by omega) hno (nY hn rfl rfl rfl rfl rfl rfl))
  ·have hlc:decide ((l.length:Int)<7)=false:=decide_eq_false (by omega);have h7:l.length=7:=by omega
   have hib:=fun {k:Int} {y:Option I} (h:(0:Int)≤k∧k<(7:Nat))=>ph 1 (dD l) (y:=y) h rfl;have hi0:=fun {y:Option I} =>hib (k:=0) (y:=y) (by decide);have hi1:=fun {y:Option I} =>hib (k:=1) (y:=y) (by decide);have hi2:=fun {y:Option I} =>hib (k:=2) (y:=y) (by decide);have hi3:=fun {y:Option I} =>hib (k:=3) (y:=y) (by decide);have hi4:=fun {y:Option I} =>hib (k:=4) (y:=y) (by decide);have hi5:=fun {y:Option I} =>hib (k:=5) (y:=y) (by decide);have hi6:=fun {y:Option I} =>hib (k:=6) (y:=y) (by decide);have ha0:=fun p=>fY (p:=p) (dD l) (show 0<7 by decide);have ha1:=fun p=>fY (p:=p) (dD l) (show 1<7 by decide);have ha2:=fun p=>fY (p:=p) (dD l) (show 2<7 by decide);have ha3:=fun p=>fY (p:=p) (dD l) (show 3<7 by decide);have ha4:=fun p=>fY (p:=p) (dD l) (show 4<7 by decide);have ha5:=fun p=>fY (p:=p) (dD l) (show 5<7 by decide);have ha6:=fun p=>fY (p:=p) (dD l) (show 6<7 by decide);rw[h7,Nat.sub_self,eT,Z7,List.append_nil] at htk;clear hT;have hT:=VS (s:=s) hl (hu0▸htk);have hmk:=Ku (n0:=n0) (u:=u) h7;have f80:=nd (fp (n0::l) u);generalize fp (n0::l) u=r at *;have hstr:=fun A n b rest=>dL.2 A n b rest r _ hmk;cases ho2:bg r
   ·have hn:dF bg s t=none:=by rw[hT,if_neg (by simp[ho2])]
    rw[ho2] at f80;have R:=y6 @hlc (y6 @hi0 (y6 @hi1 (y6 @hi2 (y6 @hi3 (y6 @hi4 (y6 @hi5 (y6 @hi6 (y6 @ha0 (y6 @ha1 (y6 @ha2 (y6 @ha3 (y6 @ha4 (y6 @ha5 (y6 @ha6 (y6 @ky (y6 @hstr (y6 @dL (y6 @jA (y6 @bj aH)))))))))))))))))))
    repeat' ((first |(with_reducible refine .guard (fun hb =>?_) (fun hb =>?_) <;>try simp only[hb])|(refine U.kV (gs:=Aa) (gs1:=[_,_]) rfl fun K hK =>?_)|refine U.aL (by decide +kernel) rfl fun K hK =>?_|refine .flat _ (f80) rfl ?_|(refine .aI [0,1,4,5,6,7,8,9,10,11,12,20,28,29,59,75] hK ?_;clear hK K)|(with_reducible refine .done (hK _ ?_);clear hK K)|refine U.of rfl ?_|(with_reducible refine aB.aJ (fun h =>?_) (fun h =>?_) <;>try simp only[h])) <;>try simp only[aM,R,simprocAttr])
    all_goals clear R
    refine my ?_ (nY hn rfl rfl rfl rfl rfl rfl);rfl
   rw[ho2] at f80;have f81:=oB s hs r ho2;by_cases hq:cQ s r=t
   ·by_cases hz:n0=cH s (cu r)
    ·have hn:gG s t=(r,cH s (cu r),true):=by rw[gG,hT,if_pos ⟨ho2,hq,hz⟩]
     have d1:(n0 != cH s (cu r))=false:=by simp[hz]
     have d2:(decide (cQ s r=t))=true:=decide_eq_true hq;have R:=y6 @hlc (y6 @hi0 (y6 @hi1 (y6 @hi2 (y6 @hi3 (y6 @hi4 (y6 @hi5 (y6 @hi6 (y6 @ha0 (y6 @ha1 (y6 @ha2 (y6 @ha3 (y6 @ha4 (y6 @ha5 (y6 @ha6 (y6 @d1 (y6 @d2 (y6 @gq (y6 @ky (y6 @hstr (y6 @dL (y6 @qb (y6 @jA (y6 @bj aH)))))))))))))))))))))))
     repeat' ((first |(with_reducible refine .guard (fun hb =>?_) (fun hb =>?_) <;>try simp only[hb])|refine U.aL (by decide +kernel) rfl fun K hK =>?_|refine .flat _ (f80) rfl ?_|refine .lead _ (f81) ?_|(refine U.lO (gs:=uK) [] [(4,[1900004]),(5,[1900005]),(6,[1900006])] [0,1,2,3,4] (by decide +kernel) (dy.of (by simp[jx,cF,I.only])) fun K hK =>?_;simp only[j8,uK,List.getD_cons_zero,List.getD_cons_succ,R,simprocAttr])|(refine .aI [0,1,4,5,6,7,8,9,10,11,12,20,28,29,59,75] hK ?_;clear hK K)|(with_reducible refine .done (hK _ ?_);clear hK K)|refine U.of rfl ?_|(with_reducible refine aB.aJ (fun h =>?_) (fun h =>?_) <;>try simp only[h])) <;>try simp only[aM,R,simprocAttr])
     all_goals clear R
     exact ⟨⟨⟨_,rfl,(eh _).trans (eh _).symm⟩,⟨_,rfl,rfl⟩,⟨_,rfl,rfl⟩,trivial⟩,C3 (r:=r) (n:=cH s (cu r)) (b:=true) (show _∧_ by rw[hn];exact ⟨rfl,rfl⟩) rfl rfl rfl rfl rfl rfl⟩
    ·have hn:dF bg s t=none:=by rw[hT,if_neg (fun k=>hz k.2.2)]
     have d1:(n0 != cH s (cu r))=true:=by simp[hz]
     have d2:(decide (cQ s r=t))=true:=decide_eq_true hq;have R:=y6 @hlc (y6 @hi0 (y6 @hi1 (y6 @hi2 (y6 @hi3 (y6 @hi4 (y6 @hi5 (y6 @hi6 (y6 @ha0 (y6 @ha1 (y6 @ha2 (y6 @ha3 (y6 @ha4 (y6 @ha5 (y6 @ha6 (y6 @d1 (y6 @d2 (y6 @gq (y6 @ky (y6 @hstr (y6 @dL (y6 @qb (y6 @jA (y6 @bj aH)))))))))))))))))))))))
     repeat' ((first |(with_reducible refine .guard (fun hb =>?_) (fun hb =>?_) <;>try simp only[hb])|(refine U.kV (gs:=uJ) (gs1:=[_,_]) rfl fun K hK =>?_)|refine U.aL (by decide +kernel) rfl fun K hK =>?_|refine .flat _ (f80) rfl ?_|refine .lead _ (f81) ?_|(refine .aI [0,1,4,5,6,7,8,9,10,11,12,20,28,29,59,75] hK ?_;clear hK K)|(with_reducible refine .done (hK _ ?_);clear hK K)|refine U.of rfl ?_|(with_reducible refine aB.aJ (fun h =>?_) (fun h =>?_) <;>try simp only[h])) <;>try simp only[aM,R,simprocAttr])
     all_goals clear R
     refine my ?_ (nY hn rfl rfl rfl rfl rfl rfl);rfl
   ·have hn:dF bg s t=none:=by rw[hT,if_neg (fun k=>hq k.2.1)]
    have d2:(decide (cQ s r=t))=false:=decide_eq_false hq;have R:=y6 @hlc (y6 @hi0 (y6 @hi1 (y6 @hi2 (y6 @hi3 (y6 @hi4 (y6 @hi5 (y6 @hi6 (y6 @ha0 (y6 @ha1 (y6 @ha2 (y6 @ha3 (y6 @ha4 (y6 @ha5 (y6 @ha6 (y6 @d2 (y6 @gq (y6 @ky (y6 @hstr (y6 @dL (y6 @qb (y6 @jA (y6 @bj aH))))))))))))))))))))))
    repeat' ((first |(with_reducible refine .guard (fun hb =>?_) (fun hb =>?_) <;>try simp only[hb])|(refine U.kV (gs:=uJ) (gs1:=[_,_]) rfl fun K hK =>?_)|refine U.aL (by decide +kernel) rfl fun K hK =>?_|refine .flat _ (f80) rfl ?_|refine .lead _ (f81) ?_|(refine .aI [0,1,4,5,6,7,8,9,10,11,12,20,28,29,59,75] hK ?_;clear hK K)|(with_reducible refine .done (hK _ ?_);clear hK K)|refine U.of rfl ?_|(with_reducible refine aB.aJ (fun h =>?_) (fun h =>?_) <;>try simp only[h])) <;>try simp only[aM,R,simprocAttr])
    all_goals clear R
    refine my ?_ (nY hn rfl rfl rfl rfl rfl rfl);rfl
 ·have hd:decide (t.getLast?=some 10)=false:=decide_eq_false hl;have hn:dF bg s t=none:=by rw[dF,if_neg hl]
  rw[hd] at hC;have R:=y6 @hd (y6 @oV (y6 @jA (y6 @bj aH)))
  repeat' ((first |(with_reducible refine .guard (fun hb =>?_) (fun hb =>?_) <;>try simp only[hb])|(refine U.kV (gs:=Ab) (gs1:=[_,_]) rfl fun K hK =>?_)|refine U.aL (by decide +kernel) rfl fun K hK =>?_|refine .flat _ (hC) rfl ?_|(refine .aI [0,1,4,5,6,7,8,9,10,11,12,20,28,29,59,75] hK ?_;clear hK K)|(with_reducible refine .done (hK _ ?_);clear hK K)|refine U.of rfl ?_|(with_reducible refine aB.aJ (fun h =>?_) (fun h =>?_) <;>try simp only[h])) <;>try simp only[aM,R,simprocAttr])
  all_goals clear R
  refine my ?_ (nY hn rfl rfl rfl rfl rfl rfl);rfl
theorem EV{s:Int}(hs:0≤s∧s<1000003){t:List UInt8}(ht:t.length≤281474976710656):eG Tryz.prog 70 [enc s,enc (ak.of t)] [] (fun r os'=>r=kh (gG s t)∧os'=[]):=by
 refine eG.U8 Tryz.func70 GS J5 Jd (t8 rfl) (t8 rfl) (fun m hm=>by simp[aC,aE] at hm) (zs:=na) Td Hl (by decide) fun hwf W0 bF E1 =>?_;simp only[bC,Z8];clear hwf;refine .gV (by decide +kernel) fun K hK =>?_
 try simp only[z7,aZ,simprocAttr]
 refine .done (hK _ ?_);simp only[cO];refine ⟨_,_,mJ,gF default 0 false,[0,1,4,5,6],[enc s,enc (ak.of t),.ptr 1900004 [],.ptr 1900005 [],.ptr 1900006 []],mq,pM s t,rfl,?_⟩;exact {
  bz:=rfl
  Aj:=Tb
  arg:=⟨.inl ⟨rfl,rfl,rfl⟩,.inl ⟨(iE _ _).symm,bN _ _,eY _⟩,.inl ⟨rfl,rfl,rfl⟩,.inl ⟨rfl,rfl,rfl⟩,.inl ⟨rfl,rfl,rfl⟩,trivial⟩
  xw:=FG s t
  DA:=rfl
  len:=rfl
  box:=fun q hq=>by
   simp only[mq,na,List.zip_cons_cons,List.zip_nil_right,zz1,List.not_mem_nil,or_false] at hq;rcases hq with rfl | rfl | rfl <;>exact ⟨_,rfl,rfl⟩
  lD:=fun m hm=>by
   have:=kP.1 hm;exact ⟨Nat.le_trans (t8 rfl:_≤1000000) (by omega),by omega⟩
  rest:=fun W D E d=>Wa hs ht W D E _ d
  kv:=FF s t }
theorem w7{s:Int}(hs:0≤s∧s<1000003){t:List UInt8}(ht:t.length≤281474976710656):aR Tryz.prog 70 [enc s,enc (ak.of t)] (kh (gG s t)):=aR.Be (EV hs ht)
def fF(s:Int)(t:List UInt8):ai×Int×Int:=if dA 0 1000002 s=false then (default,0,1) else match dF bg s t with
 |some (r,n)=>(r,n,0)
 |none=>(default,0,87)
theorem tl(s:Int)(t:List UInt8)(ht:t.length≤281474976710656):aR Tryz.prog 31 [enc s,enc (ak.of t)] (.tuple [enc (fF s t).1,enc (fF s t).2.1,enc (fF s t).2.2]):=by
 refine aR.bO Tryz.func31 GK HQ I5 (t8 rfl) (fun hwf W0 bF E1 =>?_);simp only[yg,Co,bC,Z8];clear hwf;have f1:=xa s;cases q1:dA 0 1000002 s
 ·rw[q1] at f1;have e:fF s t=(default,0,1):=by rw[fF,if_pos q1]
  rw[e];have R:=y6 @ec (y6 @dL aH)
  repeat' ((first |refine U.aL (by decide +kernel) rfl fun K hK =>?_|refine .flat _ (f1) rfl ?_|(refine .aI [0,1,4,5,6,7,8,9,12,22] hK ?_;clear hK K)|(with_reducible refine .done (hK _ ?_);clear hK K)|refine U.of rfl ?_|(with_reducible refine aB.aJ (fun h =>?_) (fun h =>?_) <;>try simp only[h])) <;>try simp only[aM,R,simprocAttr])
  all_goals clear R
  all_goals rfl
 rw[q1] at f1;have f2:=w7 (s:=s) (by have:=kQ.1 q1;omega) ht;rw[kh] at f2;cases h:dF bg s t with
 |none =>
  have e:fF s t=(default,0,87):=by rw[fF,if_neg (by simp[q1]),h]
  have e2:gG s t=(default,0,false):=by rw[gG,h]
  rw[e];rw[e2] at f2;have R:=y6 @ec (y6 @dL aH)
  repeat' ((first |refine U.aL (by decide +kernel) rfl fun K hK =>?_|refine .flat _ (f1) rfl ?_|refine .lead _ (f2) ?_|(refine .aI [0,1,4,5,6,7,8,9,12,22] hK ?_;clear hK K)|(with_reducible refine .done (hK _ ?_);clear hK K)|refine U.of rfl ?_|(with_reducible refine aB.aJ (fun h =>?_) (fun h =>?_) <;>try simp only[h])) <;>try simp only[aM,R,simprocAttr])
  all_goals clear R
  all_goals rfl
 |some p =>
  obtain ⟨r,n⟩:=p;have e:fF s t=(r,n,0):=by rw[fF,if_neg (by simp[q1]),h]
  have e2:gG s t=(r,n,true):=by rw[gG,h]
  rw[e];rw[e2] at f2;have R:=y6 @ec (y6 @dL aH)
  repeat' ((first |refine U.aL (by decide +kernel) rfl fun K hK =>?_|refine .flat _ (f1) rfl ?_|refine .lead _ (f2) ?_|(refine .aI [0,1,4,5,6,7,8,9,12,22] hK ?_;clear hK K)|(with_reducible refine .done (hK _ ?_);clear hK K)|refine U.of rfl ?_|(with_reducible refine aB.aJ (fun h =>?_) (fun h =>?_) <;>try simp only[h])) <;>try simp only[aM,R,simprocAttr])
  all_goals clear R
  all_goals rfl
def gl(f:Nat):Nat→Nat→Nat→List UInt8→Int×Int×Bool
 |_,_,_,[]=>(0,0,false)
 |0,_,_,_::_=>(0,0,false)
 |k+1,n,i,c::u=>if c.toNat=32 then ((n:Int),((i+1:Nat):Int),decide (f<i)) else if fL c=true then gl f k (10*n+(c.toNat-48)) (i+1) u else (0,0,false)
def wK(x:Int×Int×Bool):I:=.tuple [.int .i64 x.1,.int .i64 x.2.1,.bool x.2.2]
def tz(f:Nat)(t:List UInt8)(x:Nat×Nat):ab:=aw [(0,enc (ak.of t)),(1,.int .i64 (f:Int)),(7,.int .i64 (x.2:Int)),(8,.int .i64 ((f+x.1:Nat):Int))] []
def Ed(f:Nat)(t:List UInt8)(x:Nat×Nat):Prop:=x.1≤9∧f+x.1≤t.length∧x.2<10^x.1∧gl f 9 0 f (t.drop f)=gl f (9-x.1) x.2 (f+x.1) (t.drop (f+x.1))
theorem EL(t:List UInt8)(ht:t.length≤281474976710656)(f:Nat)(hf:f≤t.length):aR Tryz.prog 84 [enc (ak.of t),.int .i64 (f:Int)] (wK (gl f 9 0 f (t.drop f))):=by
 refine aR.bO Tryz.func84 G3 H8 Jn (t8 rfl) (fun hwf W0 bF E1 =>?_);simp only[yz,CF,bC,Z8];clear hwf;have hl:=lQ t;have R:=y6 @bj aH
 repeat' ((first |(with_reducible refine .guard (fun hb =>?_) (fun hb =>?_) <;>try simp only[hb])|refine U.aL (by decide +kernel) rfl fun K hK =>?_|(refine .aI [0,1,4,5,6,7,8,19,25,41] hK ?_;clear hK K)|(with_reducible refine .done (hK _ ?_);clear hK K)|refine U.of rfl ?_|(with_reducible refine aB.aJ (fun h =>?_) (fun h =>?_) <;>try simp only[h])) <;>try simp only[aM,R,simprocAttr])
 all_goals clear R
 refine U.loop (tz f t) (Ed f t) (fun x=>9-x.1) (0,0) ⟨by simp,by simpa using hf,by simp,by simp⟩ ?_ ?_
 ·simp only[tz];refine bG.df ?_ ?_ ?_ ?_ <;>simp[cG,cN,cL,cg,cF,I.only,bN]
 rintro ⟨j,n⟩ ⟨h1,h2,h3,h4⟩;simp only at h1 h2 h3 h4;simp only[tz];have hp:(10:Nat)^j≤10^9:=Nat.pow_le_pow_right (by omega) h1;have hp2:(10:Nat)^(j+1)=10*10^j:=by rw[Nat.pow_succ,Nat.mul_comm]
 have hn9:n<1000000000:=by omega
 have hw9:IntKind.i64.wrap ((f:Int)+9)=((f+9:Nat):Int):=by rw[dH _ (by omega) (by omega)];rfl
 rw[h4];by_cases hlt:f+j<t.length
 ·have hlc:=gj hlt;by_cases hj:j<9
  ·have hjc:decide (((f+j:Nat):Int)<((f+9:Nat):Int))=true:=decide_eq_true (by omega);have he:=sQ t hlt;have hw:=fj (i:=f+j) (by omega);have hd:t.drop (f+j)=t[f+j]::t.drop (f+j+1):=List.drop_eq_getElem_cons hlt;rw[hd,show 9-j=(9-(j+1))+1 by omega,gl];generalize t[f+j]=c at *;have hc:=c.toNat_lt;by_cases q1:c.toNat=32
   ·have qe:((c.toNat:Int)==32)=true:=by simp;omega
    have qg:decide (((f+j:Nat):Int)>(f:Int))=decide (f<f+j):=by rw[decide_eq_decide];omega
    rw[if_pos q1];have R:=y6 @hl (y6 @hlc (y6 @hjc (y6 @hw9 (y6 @he (y6 @hw (y6 @qe (y6 @qg (y6 @bj aH))))))))
    repeat' ((first |(with_reducible refine .guard (fun hb =>?_) (fun hb =>?_) <;>try simp only[hb])|refine U.aL (by decide +kernel) rfl fun K hK =>?_|(refine .aI [0,1,4,5,6,7,8,19,25,41] hK ?_;clear hK K)|(with_reducible refine .done (hK _ ?_);clear hK K)|refine U.of rfl ?_|(with_reducible refine aB.aJ (fun h =>?_) (fun h =>?_) <;>try simp only[h])) <;>try simp only[aM,R,simprocAttr])
    all_goals clear R
    all_goals rfl
   have qe:((c.toNat:Int)==32)=false:=by simp;omega
   rw[if_neg q1];by_cases q2:(c.toNat:Int)<48
   ·rw[if_neg (by simp[fL];omega)];have qd:decide ((c.toNat:Int)<48)=true:=decide_eq_true q2;have R:=y6 @hl (y6 @hlc (y6 @hjc (y6 @hw9 (y6 @he (y6 @hw (y6 @qe (y6 @qd (y6 @bj aH))))))))
    repeat' ((first |(with_reducible refine .guard (fun hb =>?_) (fun hb =>?_) <;>try simp only[hb])|refine U.aL (by decide +kernel) rfl fun K hK =>?_|(refine .aI [0,1,4,5,6,7,8,19,25,41] hK ?_;clear hK K)|(with_reducible refine .done (hK _ ?_);clear hK K)|refine U.of rfl ?_|(with_reducible refine aB.aJ (fun h =>?_) (fun h =>?_) <;>try simp only[h])) <;>try simp only[aM,R,simprocAttr])
    all_goals clear R
    all_goals rfl
   have qd:decide ((c.toNat:Int)<48)=false:=decide_eq_false q2;by_cases q3:(c.toNat:Int)>57
   ·rw[if_neg (by simp[fL];omega)];have qf:decide ((c.toNat:Int)>57)=true:=decide_eq_true q3;have R:=y6 @hl (y6 @hlc (y6 @hjc (y6 @hw9 (y6 @he (y6 @hw (y6 @qe (y6 @qd (y6 @qf (y6 @bj aH)))))))))
    repeat' ((first |(with_reducible refine .guard (fun hb =>?_) (fun hb =>?_) <;>try simp only[hb])|refine U.aL (by decide +kernel) rfl fun K hK =>?_|(refine .aI [0,1,4,5,6,7,8,19,25,41] hK ?_;clear hK K)|(with_reducible refine .done (hK _ ?_);clear hK K)|refine U.of rfl ?_|(with_reducible refine aB.aJ (fun h =>?_) (fun h =>?_) <;>try simp only[h])) <;>try simp only[aM,R,simprocAttr])
    all_goals clear R
    all_goals rfl
   have qf:decide ((c.toNat:Int)>57)=false:=decide_eq_false q3;rw[if_pos (by simp[fL];omega)];have g1:IntKind.i64.wrap (10*(n:Int))=10*(n:Int):=dH _ (by omega) (by omega);have g2:IntKind.u8.wrap ((c.toNat:Int)-48)=(c.toNat:Int)-48:=DW (by omega);have g3:IntKind.i64.wrap ((c.toNat:Int)-48)=(c.toNat:Int)-48:=dH _ (by omega) (by omega);have g4:IntKind.i64.wrap (10*(n:Int)+((c.toNat:Int)-48))=((10*n+(c.toNat-48):Nat):Int):=by rw[dH _ (by omega) (by omega)];omega
   have R:=y6 @hl (y6 @hlc (y6 @hjc (y6 @hw9 (y6 @he (y6 @hw (y6 @qe (y6 @qd (y6 @qf (y6 @g1 (y6 @g2 (y6 @g3 (y6 @g4 (y6 @bj aH)))))))))))))
   repeat' ((first |(with_reducible refine .guard (fun hb =>?_) (fun hb =>?_) <;>try simp only[hb])|refine U.aL (by decide +kernel) rfl fun K hK =>?_|(refine .aI [0,1,4,5,6,7,8,19,25,41] hK ?_;clear hK K)|(with_reducible refine .done (hK _ ?_);clear hK K)|refine U.of rfl ?_|(with_reducible refine aB.aJ (fun h =>?_) (fun h =>?_) <;>try simp only[h])) <;>try simp only[aM,R,simprocAttr])
   all_goals clear R
   refine ⟨(j+1,10*n+(c.toNat-48)),⟨by simp only;omega,by simp only;omega,by simp only;omega,?_⟩,by simp only;omega,?_⟩
   ·rw[h4,hd,show 9-j=(9-(j+1))+1 by omega,gl,if_neg q1,if_pos (by simp[fL];omega)];rfl
   ·simp only[];clear hd h4;refine bG.df ?_ ?_ ?_ ?_ <;>simp[cG,cN,cL,cg,cF,I.only,bN]
    all_goals rfl
  ·have hjc:decide (((f+j:Nat):Int)<((f+9:Nat):Int))=false:=decide_eq_false (by omega);have hd:t.drop (f+j)=t[f+j]::t.drop (f+j+1):=List.drop_eq_getElem_cons hlt;rw[hd,show 9-j=0 by omega,gl];have R:=y6 @hl (y6 @hlc (y6 @hjc (y6 @hw9 (y6 @bj aH))))
   repeat' ((first |(with_reducible refine .guard (fun hb =>?_) (fun hb =>?_) <;>try simp only[hb])|refine U.aL (by decide +kernel) rfl fun K hK =>?_|(refine .aI [0,1,4,5,6,7,8,19,25,41] hK ?_;clear hK K)|(with_reducible refine .done (hK _ ?_);clear hK K)|refine U.of rfl ?_|(with_reducible refine aB.aJ (fun h =>?_) (fun h =>?_) <;>try simp only[h])) <;>try simp only[aM,R,simprocAttr])
   all_goals clear R
   all_goals rfl
 ·have hlc:=gO hlt;rw[List.drop_eq_nil_of_le (by omega),gl];have R:=y6 @hl (y6 @hlc (y6 @bj aH))
  repeat' ((first |(with_reducible refine .guard (fun hb =>?_) (fun hb =>?_) <;>try simp only[hb])|refine U.aL (by decide +kernel) rfl fun K hK =>?_|(refine .aI [0,1,4,5,6,7,8,19,25,41] hK ?_;clear hK K)|(with_reducible refine .done (hK _ ?_);clear hK K)|refine U.of rfl ?_|(with_reducible refine aB.aJ (fun h =>?_) (fun h =>?_) <;>try simp only[h])) <;>try simp only[aM,R,simprocAttr])
  all_goals clear R
  all_goals rfl
theorem vp(f:Nat):∀ (k n i:Nat) (u w v:List UInt8) (m:Nat),cE 32 u=some (w,v)→dW n w=some m→w.length<k→gl f k n i u=((m:Int),((i+w.length+1:Nat):Int),decide (f<i+w.length))
 |0,_,_,_,_,_,_,_,_,h=>by omega
 |k+1,n,i,[],w,v,m,h,_,_=>by simp[cE] at h
 |k+1,n,i,c::u,w,v,m,h,hd,hk=>by
  rw[gl];rw[cE] at h;by_cases q:c=32
  ·rw[if_pos q] at h;cases h;rw[if_pos (by rw[q];rfl)];simp only[dW,v6] at hd;subst hd;simp
  ·rw[if_neg q] at h;have q':¬ c.toNat=32:=fun e=>q (UInt8.toNat_inj.1 e);rw[if_neg q'];cases h2:cE 32 u with
   |none=>rw[h2] at h;cases h
   |some p =>
    obtain ⟨w2,v2⟩:=p;rw[h2,Z7] at h;cases h;rw[dW] at hd;by_cases q2:fL c=true
    ·rw[if_pos q2] at hd ⊢;rw[Nat.mul_comm] at hd;rw[vp f k _ (i+1) u w2 _ m h2 hd (by simp only[Y5] at hk;omega)];simp only[Y5,Prod.mk.injEq,true_and,decide_eq_decide];exact ⟨by omega,by omega⟩
    ·rw[if_neg q2] at hd;cases hd
theorem Bc(f:Nat):∀ (k n i:Nat) (u:List UInt8),(gl f k n i u).2.2=true→∃ w v m,cE 32 u=some (w,v)∧dW n w=some m∧w.length<k∧f<i+w.length
 |k,n,i,[],h=>by cases k <;>simp[gl] at h
 |0,n,i,c::u,h=>by simp[gl] at h
 |k+1,n,i,c::u,h=>by
  rw[gl] at h;by_cases q:c.toNat=32
  ·rw[if_pos q] at h;have hc:c=32:=UInt8.toNat_inj.1 q;exact ⟨[],u,n,by rw[cE,if_pos hc],rfl,by simp,by simpa using h⟩
  ·rw[if_neg q] at h;by_cases q2:fL c=true
   ·rw[if_pos q2] at h;obtain ⟨w,v,m,h1,h2,h3,h4⟩:=Bc f k _ _ u h;refine ⟨c::w,v,m,?_,?_,by simp only[Y5];omega,by simp only[Y5];omega⟩
    ·rw[cE,if_neg (fun e=>q (by rw[e];rfl)),h1];rfl
    ·rw[dW,if_pos q2,Nat.mul_comm];exact h2
   ·rw[if_neg q2] at h;cases h
theorem J3(t:List UInt8)(f:Nat):(∃ w v m,cE 32 (t.drop f)=some (w,v)∧gU w=some m∧gl f 9 0 f (t.drop f)=(m,((f+w.length+1:Nat):Int),true)∧v=t.drop (f+w.length+1)∧f+w.length+1≤t.length) ∨
  ((∀ w v,cE 32 (t.drop f)=some (w,v)→gU w=none)∧∃ a b,gl f 9 0 f (t.drop f)=(a,b,false)):=by
 cases h:(gl f 9 0 f (t.drop f)).2.2
 ·refine .inr ⟨fun w v hw =>?_,_,_,by rw[←h]⟩;rw[gU];split
  ·rfl
  rename_i hl;cases hd:dW 0 w with
  |none=>rfl
  |some m =>
   rw[vp f 9 0 f _ w v m hw hd (by omega)] at h;have:w.length≠0:=fun e=>hl (.inl (List.length_eq_zero_iff.1 e));have h':=of_decide_eq_false h;omega
 ·obtain ⟨w,v,m,h1,h2,h3,h4⟩:=Bc f _ _ _ _ h;refine .inl ⟨w,v,(m:Int),h1,?_,?_,?_⟩
  ·rw[gU,if_neg,h2];rfl;rintro (e | e)
   ·subst e;simp at h4
   ·omega
  ·rw[vp f 9 0 f _ w v m h1 h2 h3,decide_eq_true h4]
  ·rcases oS 32 (t.drop f) with ⟨e,_⟩ | ⟨i,h0,h5,e⟩
   ·rw[e] at h1;cases h1
   ·rw[e] at h1;cases h1;have hw:(List.take i (t.drop f)).length=i:=by rw[Y0];omega
    rw[hw,List.drop_drop];refine ⟨congrArg (fun k=>t.drop k) (by omega),?_⟩;rw[List.length_drop] at h0;omega
def dE(l:List Int):dP 8 Int:=⟨(l++List.replicate 8 0).take 8,by simp⟩
theorem Vs{l:List Int}(h:l.length<8)(v:Int):(⟨(dE l).l.set l.length v,by simp[(dE l).h]⟩:dP 8 Int)=dE (l++[v]):=by
 simp only[dE,dP.mk.injEq];refine List.ext_getElem (by simp) fun i h1 h2 =>?_;simp only[Y0,Z1,List.length_replicate,List.length_set,Y5,X9] at h1 h2;simp only[List.getElem_set,List.getElem_take,List.getElem_append];by_cases e:l.length=i
 ·subst e;simp
 ·by_cases k:i<l.length
  ·rw[if_neg e,dif_pos k,dif_pos (by simp;omega),dif_pos k]
  ·rw[if_neg e,dif_neg k,dif_neg (by simp;omega)];simp only[List.getElem_replicate]
theorem Ky:I.agg [.int .i64 0,.int .i64 0,.int .i64 0,.int .i64 0,.int .i64 0,.int .i64 0,.int .i64 0,.int .i64 0]=enc (dE []):=rfl
theorem Vr{l:List Int}(h:l.length=8)(k:Nat):(dE l).g k=l.getD k 0:=by
 simp only[dP.g,dE];rw[List.take_left' h]
theorem Wz{l:List Int}(h:l.length<8)(v:Int):(enc (dE l):I).dh [l.length] (.int .i64 v)=enc (dE (l++[v])):=by
 have h1:(enc (dE l):I).cX=some ((dE l).l.map enc):=rfl;rw[sR,h1];simp only[mN,uR (dE l) h,oi,fg];rw[←Vs h]
 change I.agg _=I.agg (((dE l).l.set l.length v).map enc)
 rw[List.map_set];rfl
theorem WJ{A:ab}{n:Nat}{l:List Int}(h:l.length<8){v u:Int}{rest:List ar} : ep A none n [l.length] (enc (dE l)) (.int .i64 v) rest (some (.int .i64 u))=ao rest (A.aP n (.box (enc (dE (l++[v]))))):=by
 rw[fh (s:=none) (v:=.int .i64 v) (old:=.int .i64 u) rfl rfl rfl,Wz h]
theorem Kv{l:List Int}{u:List UInt8}(h:l.length=8):I.agg [.agg [.int .i64 ((dE l).g 1),.int .i64 ((dE l).g 2)],.int .i64 ((dE l).g 3),.int .i64 ((dE l).g 4),.int .i64 ((dE l).g 5),.agg [.int .i64 ((dE l).g 6),.int .i64 ((dE l).g 7)],enc (ak.of u)]=enc (fp l u):=by
 simp only[Vr h];rfl
theorem VT{s:Int}{t u:List UInt8}{l:List Int}(hp:eT gU 8 t=some (l,u)) :
  jf bg s t=if t.getLast?=some 10∧u≠[] then (if bg (fp l u.dropLast)=true∧cQ s (fp l u.dropLast)=t then some (fp l u.dropLast,cH s (cu (fp l u.dropLast))) else none) else none:=by
 rw[jf,hp,zz0];rfl
def n9(s:Int)(t:List UInt8):ai×Int×Int:=match jf bg s t with
 |some (r,n)=>(r,n,0)
 |none=>(default,0,87)
theorem pP{s:Int}{t:List UInt8}(h:jf bg s t=none):n9 s t=(default,0,87):=by rw[n9,h]
theorem VR{s:Int}(hs:dA 0 1000002 s=true)(t:List UInt8):fF s t=n9 s t:=by
 rw[fF,if_neg (by simp[hs]),VV (ok:=bg) (by have:=kQ.1 hs;omega) (fun r h=>nW h),n9];all_goals (cases jf bg s t <;>rfl)
def wJ(x:ai×Int×Int):I:=.tuple [enc x.1,enc x.2.1,enc x.2.2]
def tw(s:Int)(t:List UInt8)(x:List Int×Nat):ab:=aw [(0,enc s),(1,enc (ak.of t)),(4,.ptr 4 []),(7,.ptr 7 []),(8,.int .i64 (x.2:Int)),(9,.int .i64 (x.1.length:Int))] [(4,.box (enc (default:ai))),(7,.box (enc (dE x.1)))]
def Eb(t:List UInt8)(x:List Int×Nat):Prop:=x.1.length≤8∧x.2≤t.length∧eT gU 8 t=(eT gU (8-x.1.length) (t.drop x.2)).map fun p=>(x.1++p.1,p.2)
theorem EE(s:Int)(t:List UInt8)(ht:t.length≤281474976710656):aR Tryz.prog 32 [enc s,enc (ak.of t)] (wJ (fF s t)):=by
 refine aR.bO Tryz.func32 GL HR I6 (t8 rfl) (fun hwf W0 bF E1 =>?_);simp only[yh,Cp,bC,Z8];clear hwf;have f1:=kl s 0 1000002;cases q1:dA 0 1000002 s
 ·rw[q1] at f1;have e:fF s t=(default,0,1):=by rw[fF,if_pos q1]
  rw[e];have R:=y6 @ec (y6 @dL aH)
  repeat' ((first |(with_reducible refine .guard (fun hb =>?_) (fun hb =>?_) <;>try simp only[hb])|refine U.aL (by decide +kernel) rfl fun K hK =>?_|refine .flat _ (f1) rfl ?_|(refine .aI [0,1,4,5,6,7,8,9,10,11,12,13,14,15,18,21,32,50,77,87] hK ?_;clear hK K)|(with_reducible refine .done (hK _ ?_);clear hK K)|refine U.of rfl ?_|(with_reducible refine aB.aJ (fun h =>?_) (fun h =>?_) <;>try simp only[h])) <;>try simp only[aM,R,simprocAttr])
  all_goals clear R
  all_goals rfl
 rw[q1] at f1;rw[VR q1];have hs:=kQ.1 q1;have R:=y6 @ec (y6 @Ky (y6 @dL aH))
 repeat' ((first |(with_reducible refine .guard (fun hb =>?_) (fun hb =>?_) <;>try simp only[hb])|refine U.aL (by decide +kernel) rfl fun K hK =>?_|refine .flat _ (f1) rfl ?_|(refine .aI [0,1,4,5,6,7,8,9,10,11,12,13,14,15,18,21,32,50,77,87] hK ?_;clear hK K)|(with_reducible refine .done (hK _ ?_);clear hK K)|refine U.of rfl ?_|(with_reducible refine aB.aJ (fun h =>?_) (fun h =>?_) <;>try simp only[h])) <;>try simp only[aM,R,simprocAttr])
 all_goals clear R
 refine U.loop (tw s t) (Eb t) (fun x=>8-x.1.length) ([],0) ⟨by simp,by simp,by simp⟩ ?_ ?_
 ·simp only[tw];refine bG.df ?_ ?_ ?_ ?_ <;>simp[cG,cN,cL,cg,aC,cF,eB,I.only,ah.only,bN,qY]
  all_goals rfl
 rintro ⟨l,p⟩ ⟨hl8,hp,htk⟩;simp only at hl8 hp htk;simp only[tw];by_cases hlt8:l.length<8
 ·have hlc:decide ((l.length:Int)<8)=true:=decide_eq_true (by omega);have hib:=fun {y:Option I} =>ph 1 (dE l) (y:=y) (show (0:Int)≤(l.length:Int)∧(l.length:Int)<(8:Nat) by omega) rfl;have hat:=fun p=>fY (p:=p) (dE l) hlt8;have hst:=fun A n v u rest=>WJ (A:=A) (n:=n) hlt8 (v:=v) (u:=u) (rest:=rest);have hws:=fj (i:=l.length) (by omega);have e8:8-l.length=(8-(l++[(0:Int)]).length)+1:=by simp;omega
  have f84:=EL t ht p hp;rcases J3 t p with ⟨w,v,m,hw1,ho1,hn1,hv1,hle⟩ | ⟨hno,a,b,hn1⟩
  ·rw[hn1,wK] at f84;have R:=y6 @hlc (y6 @hib (y6 @hat (y6 @hst (y6 @hws (y6 @Int.toNat_natCast (y6 @ec (y6 @dL aH)))))))
   repeat' ((first |(with_reducible refine .guard (fun hb =>?_) (fun hb =>?_) <;>try simp only[hb])|refine U.aL (by decide +kernel) rfl fun K hK =>?_|refine .lead _ (f84) ?_|(refine .aI [0,1,4,5,6,7,8,9,10,11,12,13,14,15,18,21,32,50,77,87] hK ?_;clear hK K)|(with_reducible refine .done (hK _ ?_);clear hK K)|refine U.of rfl ?_|(with_reducible refine aB.aJ (fun h =>?_) (fun h =>?_) <;>try simp only[h])) <;>try simp only[aM,R,simprocAttr])
   all_goals clear R
   refine ⟨(l++[m],p+w.length+1),⟨by simp;omega,hle,?_⟩,by simp;omega,?_⟩
   ·rw[htk,e8,wE hw1 ho1,hv1];simp only[Z1,Y5,X9,Option.map_map]
    congr 1
    funext p
    simp
   ·have el:((l++[m]).length:Int)=((l.length+1:Nat):Int):=by simp
    simp only[el];refine bG.df ?_ ?_ ?_ ?_ <;>simp[cG,cN,cL,cg,aC,cF,eB,I.only,ah.only,bN]
    all_goals rfl
  ·rw[hn1,wK] at f84;rw[pP (by rw[jf,htk,e8,wC hno];rfl)];have R:=y6 @hlc (y6 @hib (y6 @hat (y6 @hst (y6 @hws (y6 @Int.toNat_natCast (y6 @ec (y6 @dL aH)))))))
   repeat' ((first |(with_reducible refine .guard (fun hb =>?_) (fun hb =>?_) <;>try simp only[hb])|refine U.aL (by decide +kernel) rfl fun K hK =>?_|refine .lead _ (f84) ?_|(refine .aI [0,1,4,5,6,7,8,9,10,11,12,13,14,15,18,21,32,50,77,87] hK ?_;clear hK K)|(with_reducible refine .done (hK _ ?_);clear hK K)|refine U.of rfl ?_|(with_reducible refine aB.aJ (fun h =>?_) (fun h =>?_) <;>try simp only[h])) <;>try simp only[aM,R,simprocAttr])
   all_goals clear R
   all_goals rfl
 ·have hlc:decide ((l.length:Int)<8)=false:=decide_eq_false (by omega);have h8:l.length=8:=by omega
  have hib:=fun {k:Int} {y:Option I} (h:(0:Int)≤k∧k<(8:Nat))=>ph 1 (dE l) (y:=y) h rfl;have hi1:=fun {y:Option I} =>hib (k:=1) (y:=y) (by decide);have hi2:=fun {y:Option I} =>hib (k:=2) (y:=y) (by decide);have hi3:=fun {y:Option I} =>hib (k:=3) (y:=y) (by decide);have hi4:=fun {y:Option I} =>hib (k:=4) (y:=y) (by decide);have hi5:=fun {y:Option I} =>hib (k:=5) (y:=y) (by decide);have hi6:=fun {y:Option I} =>hib (k:=6) (y:=y) (by decide);have hi7:=fun {y:Option I} =>hib (k:=7) (y:=y) (by decide);have ha1:=fun p=>fY (p:=p) (dE l) (show 1<8 by decide);have ha2:=fun p=>fY (p:=p) (dE l) (show 2<8 by decide);have ha3:=fun p=>fY (p:=p) (dE l) (show 3<8 by decide);have ha4:=fun p=>fY (p:=p) (dE l) (show 4<8 by decide);have ha5:=fun p=>fY (p:=p) (dE l) (show 5<8 by decide);have ha6:=fun p=>fY (p:=p) (dE l) (show 6<8 by decide);have ha7:=fun p=>fY (p:=p) (dE l) (show 7<8 by decide);rw[h8,Nat.sub_self,eT,Z7,List.append_nil] at htk;have hT:=VT (s:=s) htk;have hne:t≠[]:=fun e=>by rw[e] at htk;cases htk
  have hpos:0<t.length:=List.length_pos_iff.2 hne;have hlen:=lQ t;have hw1:IntKind.i64.wrap ((t.length:Int)-1)=((t.length-1:Nat):Int):=by rw[dH _ (by omega) (by omega)];omega
  have he:=sQ t (i:=t.length-1) (by omega);have hgl:t.getLast?=some (t[t.length-1]'(by omega)):=by rw[List.getLast?_eq_getElem?,Y6]
  rw[hgl] at hT;generalize (t[t.length-1]'(by omega))=c at *;by_cases qc:c=10
  ·have q2:((c.toNat:Int) != 10)=false:=by rw[qc];rfl
   by_cases qp:p<t.length
   ·have q3:decide ((p:Int)>((t.length-1:Nat):Int))=false:=decide_eq_false (by omega);rw[if_pos ⟨by rw[qc],by simp;omega⟩] at hT;have hss:=Ws (ak.of t) (i:=p) (j:=t.length-1) (by omega) (by rw[ak.dm];omega);have hdl:(t.drop p).take (t.length-1-p)=(t.drop p).dropLast:=by rw[List.dropLast_eq_take,List.length_drop];congr 1;omega
    rw[ak.dm,hdl] at hss;generalize (t.drop p).dropLast=u at *;have hmk:=Kv (u:=u) h8;generalize fp l u=r at *;have f34:=tm r;have hstr:=fun A n b rest=>dL.2 A n b rest r _ hmk;cases ho:bg r
    ·rw[show fk r=80 by simp[fk,ho]] at f34;rw[if_neg (by simp[ho])] at hT;rw[pP hT];have R:=y6 @hlc (y6 @hlen (y6 @hw1 (y6 @he (y6 @q2 (y6 @q3 (y6 @hi1 (y6 @hi2 (y6 @hi3 (y6 @hi4 (y6 @hi5 (y6 @hi6 (y6 @hi7 (y6 @ha1 (y6 @ha2 (y6 @ha3 (y6 @ha4 (y6 @ha5 (y6 @ha6 (y6 @ha7 (y6 @hss (y6 @ky (y6 @hstr (y6 @ec (y6 @dL (y6 @bj aH)))))))))))))))))))))))))
     repeat' ((first |(with_reducible refine .guard (fun hb =>?_) (fun hb =>?_) <;>try simp only[hb])|refine U.aL (by decide +kernel) rfl fun K hK =>?_|refine .flat _ (f34) rfl ?_|(refine .aI [0,1,4,5,6,7,8,9,10,11,12,13,14,15,18,21,32,50,77,87] hK ?_;clear hK K)|(with_reducible refine .done (hK _ ?_);clear hK K)|refine U.of rfl ?_|(with_reducible refine aB.aJ (fun h =>?_) (fun h =>?_) <;>try simp only[h])) <;>try simp only[aM,R,simprocAttr])
     all_goals clear R
     all_goals rfl
    rw[show fk r=0 by simp[fk,ho]] at f34;have f83:=tn s (by omega) r ho;by_cases hq:cQ s r=t
    ·rw[if_pos ⟨ho,hq⟩] at hT;rw[show n9 s t=(r,cH s (cu r),0) by rw[n9,hT]];have d2:(decide (cQ s r=t))=true:=decide_eq_true hq;have R:=y6 @hlc (y6 @hlen (y6 @hw1 (y6 @he (y6 @q2 (y6 @q3 (y6 @hi1 (y6 @hi2 (y6 @hi3 (y6 @hi4 (y6 @hi5 (y6 @hi6 (y6 @hi7 (y6 @ha1 (y6 @ha2 (y6 @ha3 (y6 @ha4 (y6 @ha5 (y6 @ha6 (y6 @ha7 (y6 @hss (y6 @d2 (y6 @gq (y6 @ky (y6 @hstr (y6 @ec (y6 @dL (y6 @bj aH)))))))))))))))))))))))))))
     repeat' ((first |(with_reducible refine .guard (fun hb =>?_) (fun hb =>?_) <;>try simp only[hb])|refine U.aL (by decide +kernel) rfl fun K hK =>?_|refine .flat _ (f34) rfl ?_|refine .lead _ (f83) ?_|(refine .aI [0,1,4,5,6,7,8,9,10,11,12,13,14,15,18,21,32,50,77,87] hK ?_;clear hK K)|(with_reducible refine .done (hK _ ?_);clear hK K)|refine U.of rfl ?_|(with_reducible refine aB.aJ (fun h =>?_) (fun h =>?_) <;>try simp only[h])) <;>try simp only[aM,R,simprocAttr])
     all_goals clear R
     all_goals rfl
    ·rw[if_neg (fun k=>hq k.2)] at hT;rw[pP hT];have d2:(decide (cQ s r=t))=false:=decide_eq_false hq;have R:=y6 @hlc (y6 @hlen (y6 @hw1 (y6 @he (y6 @q2 (y6 @q3 (y6 @hi1 (y6 @hi2 (y6 @hi3 (y6 @hi4 (y6 @hi5 (y6 @hi6 (y6 @hi7 (y6 @ha1 (y6 @ha2 (y6 @ha3 (y6 @ha4 (y6 @ha5 (y6 @ha6 (y6 @ha7 (y6 @hss (y6 @d2 (y6 @gq (y6 @ky (y6 @hstr (y6 @ec (y6 @dL (y6 @bj aH)))))))))))))))))))))))))))
     repeat' ((first |(with_reducible refine .guard (fun hb =>?_) (fun hb =>?_) <;>try simp only[hb])|refine U.aL (by decide +kernel) rfl fun K hK =>?_|refine .flat _ (f34) rfl ?_|refine .lead _ (f83) ?_|(refine .aI [0,1,4,5,6,7,8,9,10,11,12,13,14,15,18,21,32,50,77,87] hK ?_;clear hK K)|(with_reducible refine .done (hK _ ?_);clear hK K)|refine U.of rfl ?_|(with_reducible refine aB.aJ (fun h =>?_) (fun h =>?_) <;>try simp only[h])) <;>try simp only[aM,R,simprocAttr])
     all_goals clear R
     all_goals rfl
   ·have q3:decide ((p:Int)>((t.length-1:Nat):Int))=true:=decide_eq_true (by omega);rw[if_neg (fun k=>k.2 (List.drop_eq_nil_of_le (by omega)))] at hT;rw[pP hT];have R:=y6 @hlc (y6 @hlen (y6 @hw1 (y6 @he (y6 @q2 (y6 @q3 (y6 @ec (y6 @dL (y6 @bj aH))))))))
    repeat' ((first |(with_reducible refine .guard (fun hb =>?_) (fun hb =>?_) <;>try simp only[hb])|refine U.aL (by decide +kernel) rfl fun K hK =>?_|(refine .aI [0,1,4,5,6,7,8,9,10,11,12,13,14,15,18,21,32,50,77,87] hK ?_;clear hK K)|(with_reducible refine .done (hK _ ?_);clear hK K)|refine U.of rfl ?_|(with_reducible refine aB.aJ (fun h =>?_) (fun h =>?_) <;>try simp only[h])) <;>try simp only[aM,R,simprocAttr])
    all_goals clear R
    all_goals rfl
  ·have q2:((c.toNat:Int) != 10)=true:=by
    have:¬ c.toNat=10:=fun e=>qc (UInt8.toNat_inj.1 e);simp;omega
   rw[if_neg (fun k=>qc (Option.some.inj k.1))] at hT;rw[pP hT];have R:=y6 @hlc (y6 @hlen (y6 @hw1 (y6 @he (y6 @q2 (y6 @ec (y6 @dL (y6 @bj aH)))))))
   repeat' ((first |(with_reducible refine .guard (fun hb =>?_) (fun hb =>?_) <;>try simp only[hb])|refine U.aL (by decide +kernel) rfl fun K hK =>?_|(refine .aI [0,1,4,5,6,7,8,9,10,11,12,13,14,15,18,21,32,50,77,87] hK ?_;clear hK K)|(with_reducible refine .done (hK _ ?_);clear hK K)|refine U.of rfl ?_|(with_reducible refine aB.aJ (fun h =>?_) (fun h =>?_) <;>try simp only[h])) <;>try simp only[aM,R,simprocAttr])
   all_goals clear R
   all_goals rfl
theorem lq{α:Type}{l:List α}{i:Nat}(h:i<l.length):l.take (i+1)=l.take i++[l[i]]:=List.take_succ_eq_append_getElem h
theorem sZ(a:List ai):0≤er 1 a∧er 1 a<1000003:=DO a (by omega)
theorem pz{s:Int}(hs:0≤s∧s<1000003){r:ai}(h:bg r=true):(cQ s r).length≤240:=by
 have h1:=tM (k:=160) (sj h) (nW h);have h2:=mW hs (cu r);have h3:=pq (k:=7) (n:=cH s (cu r)) (by omega);simp only[cQ,c6,List.flatMap_cons,List.flatMap_nil,Z1,Y5,X9];omega
theorem s7:∀ (l:List ai) {s:Int},0≤s∧s<1000003→(∀ r∈l,bg r=true)→(eO s l).length≤240*l.length
 | [],_,_,_=>by simp[eO]
 |r::l,s,hs,h=>by
  have h1:=pz hs (h r (by simp));have h2:=s7 l (mW hs (cu r)) fun q hq=>h q (by simp[hq]);simp only[eO,Z1,Y5];omega
theorem Er(l:List ai)(hl:l.length≤1000000000)(h:∀ r∈l,bg r=true):aR Tryz.prog 137 [enc l] (enc (er 1 l)):=by
 refine aR.bO Tryz.func137 Gp Hw IK (t8 rfl) (fun hwf W0 bF E1 =>?_);simp only[xQ,B5,bC];clear hwf;have R:=aH
 repeat' ((first |refine U.aL (by decide +kernel) rfl fun K hK =>?_|(refine .aI [0,2,3,5,6,7,8,9] hK ?_;clear hK K)|(with_reducible refine .done (hK _ ?_);clear hK K)|refine U.of rfl ?_|(with_reducible refine aB.aJ (fun h =>?_) (fun h =>?_) <;>try simp only[h])) <;>try simp only[aM,R,simprocAttr])
 all_goals clear R
 refine U.loop (fun i:Nat=>aw [(0,enc l),(3,.int .i64 (er 1 (l.take i))),(6,enc l),(7,.int .i64 l.length),(8,.int .i64 i)] []) (fun i=>i≤l.length) (fun i=>l.length-i) 0 (Nat.zero_le _) ?_ ?_
 ·refine bG.df ?_ ?_ ?_ ?_ <;>simp[cG,cN,cL,cg,cF,I.only,bN]
  all_goals rfl
 intro i hi;by_cases hlt:i<l.length
 ·have hlc:=gj hlt;have he:=fun A=>gP (A:=A) 8 hlt rfl;have hw:=fj (i:=i) (by omega);have hsn:=(wG (l.take i) l[i] 1).2;rw[←lq hlt] at hsn;have hok:=h l[i] (List.getElem_mem hlt);have hst:=sZ (l.take i);generalize l[i]=r at *;generalize er 1 (l.take i)=z at *;have f:=oB z hst r hok;have R:=y6 @hlc (y6 @he (y6 @hw (y6 @ec (y6 @dL aH))))
  repeat' ((first |refine U.aL (by decide +kernel) rfl fun K hK =>?_|refine .lead _ (f) ?_|(refine .aI [0,2,3,5,6,7,8,9] hK ?_;clear hK K)|(with_reducible refine .done (hK _ ?_);clear hK K)|refine U.of rfl ?_|(with_reducible refine aB.aJ (fun h =>?_) (fun h =>?_) <;>try simp only[h])) <;>try simp only[aM,R,simprocAttr])
  all_goals clear R
  refine ⟨i+1,by omega,by omega,?_⟩;rw[hsn];refine bG.df ?_ ?_ ?_ ?_ <;>simp[cG,cN,cL,cg,cF,I.only,bN]
  all_goals rfl
 ·have hlc:=gO hlt;have hge:i=l.length:=by omega
  subst hge;rw[List.take_length];have R:=y6 @hlc aH
  repeat' ((first |refine U.aL (by decide +kernel) rfl fun K hK =>?_|(refine .aI [0,2,3,5,6,7,8,9] hK ?_;clear hK K)|(with_reducible refine .done (hK _ ?_);clear hK K)|refine U.of rfl ?_|(with_reducible refine aB.aJ (fun h =>?_) (fun h =>?_) <;>try simp only[h])) <;>try simp only[aM,R,simprocAttr])
  all_goals clear R
  all_goals rfl
theorem Xh(l:List ai)(hl:l.length≤1000000000)(h:∀ r∈l,bg r=true):aR Tryz.prog 90 [enc l] (enc (ak.of (eO 1 l))):=by
 refine aR.bO Tryz.func90 G8 Ie Js (t8 rfl) (fun hwf W0 bF E1 =>?_);simp only[yD,CK,bC];clear hwf;have R:=aH
 repeat' ((first |refine U.aL (by decide +kernel) rfl fun K hK =>?_|(refine .aI [0,2,3,4,5,6,7,11] hK ?_;clear hK K)|(with_reducible refine .done (hK _ ?_);clear hK K)|refine U.of rfl ?_|(with_reducible refine aB.aJ (fun h =>?_) (fun h =>?_) <;>try simp only[h])) <;>try simp only[aM,R,simprocAttr])
 all_goals clear R
 refine U.loop (fun i:Nat=>aw [(0,enc l),(3,enc (ak.of (eO 1 (l.take i)))),(4,.int .i64 (er 1 (l.take i))),(5,.int .i64 i)] []) (fun i=>i≤l.length) (fun i=>l.length-i) 0 (Nat.zero_le _) ?_ ?_
 ·refine bG.df ?_ ?_ ?_ ?_ <;>simp[cG,cN,cL,cg,cF,I.only,bN]
  all_goals exact ⟨rfl,rfl⟩
 intro i hi;by_cases hlt:i<l.length
 ·have hlc:=gj hlt;have he:=fun A=>gP (A:=A) 8 hlt rfl;have hw:=fj (i:=i) (by omega);have hsn:=wG (l.take i) l[i] 1;rw[←lq hlt] at hsn;have hok:=h l[i] (List.getElem_mem hlt);have hst:=sZ (l.take i);have hln:=s7 (l.take i) (s:=1) (by omega) fun q hq=>h q (List.mem_of_mem_take hq);have hli:(l.take i).length=i:=by rw[Y0];omega
  generalize l[i]=r at *;have hll:=pz hst hok;generalize er 1 (l.take i)=z at *;generalize eO 1 (l.take i)=u at *;have f:=tn z hst r hok;have ha:=eE u (cQ z r) (by omega);have R:=y6 @hlc (y6 @he (y6 @hw (y6 @ha aH)))
  repeat' ((first |refine U.aL (by decide +kernel) rfl fun K hK =>?_|refine .lead _ (f) ?_|(refine .aI [0,2,3,4,5,6,7,11] hK ?_;clear hK K)|(with_reducible refine .done (hK _ ?_);clear hK K)|refine U.of rfl ?_|(with_reducible refine aB.aJ (fun h =>?_) (fun h =>?_) <;>try simp only[h])) <;>try simp only[aM,R,simprocAttr])
  all_goals clear R
  refine ⟨i+1,by omega,by omega,?_⟩;rw[hsn.1,hsn.2];clear hsn;refine bG.df ?_ ?_ ?_ ?_ <;>simp[cG,cN,cL,cg,cF,I.only,bN]
  all_goals rfl
 ·have hlc:=gO hlt;have hge:i=l.length:=by omega
  subst hge;rw[List.take_length];have R:=y6 @hlc aH
  repeat' ((first |refine U.aL (by decide +kernel) rfl fun K hK =>?_|(refine .aI [0,2,3,4,5,6,7,11] hK ?_;clear hK K)|(with_reducible refine .done (hK _ ?_);clear hK K)|refine U.of rfl ?_|(with_reducible refine aB.aJ (fun h =>?_) (fun h =>?_) <;>try simp only[h])) <;>try simp only[aM,R,simprocAttr])
  all_goals clear R
  all_goals rfl
def dN(l:List ai):dP 6 Int:=⟨(List.range 6).map fun m=>(fm l (m:Nat):Int),by simp⟩
theorem tZ(l:List ai){k:Nat}(h:k<6):(dN l).g k=fm l k:=by
 have:∀ j:Fin 6,(dN l).g j=fm l (j:Nat):=fun j=>by
  match j with
  |0=>rfl
  |1=>rfl
  |2=>rfl
  |3=>rfl
  |4=>rfl
  |5=>rfl
 exact this ⟨k,h⟩
theorem Kt:I.agg [.int .i64 0,.int .i64 0,.int .i64 0,.int .i64 0,.int .i64 0,.int .i64 0]=enc (dN []):=rfl
theorem Iw(l:List ai)(r:ai){k:Nat}(h:k<6)(hm:r.bf=(k:Int)):(⟨(dN l).l.set k ((dN l).g k+1),by simp[(dN l).h]⟩:dP 6 Int)=dN (l++[r]):=by
 rw[tZ l h];simp only[dN,dP.mk.injEq];refine List.ext_getElem (by simp) fun i h1 h2 =>?_;simp only[List.getElem_set,List.getElem_map,List.getElem_range,oR,hm];by_cases e:k=i
 ·subst e;simp
 ·rw[if_neg e,if_neg (by omega)];simp
theorem Wx(l:List ai)(r:ai){k:Nat}(h:k<6)(hm:r.bf=(k:Int)):(enc (dN l):I).dh [k] (.int .i64 ((dN l).g k+1))=enc (dN (l++[r])):=by
 have h1:(enc (dN l):I).cX=some ((dN l).l.map enc):=rfl;rw[sR,h1];simp only[mN,uR (dN l) h,oi,fg];rw[←Iw l r h hm]
 change I.agg _=I.agg (((dN l).l.set k ((dN l).g k+1)).map enc)
 rw[List.map_set];rfl
theorem WH(l:List ai)(r:ai){k:Nat}(h:k<6)(hm:r.bf=(k:Int))(A:ab)(n:Nat)(u:Int)(rest:List ar):ep A none n [k] (enc (dN l)) (.int .i64 ((dN l).g k+1)) rest (some (.int .i64 u))=ao rest (A.aP n (.box (enc (dN (l++[r]))))):=by
 rw[fh (s:=none) (v:=.int .i64 ((dN l).g k+1)) (old:=.int .i64 u) rfl rfl rfl,Wx l r h hm]
theorem oj:(∀ A n b rest (q r:dP 6 Int),ep A (some 6) n [] b (enc q) rest (some (enc r))=ao rest (A.aP n (.box (enc q))))∧(∀ q:dP 6 Int,bQ (some 6) (enc q)=true) :=
 ⟨fun A n b rest q r=>by rw[fh (eY _) (by rw[gM];rfl) ((eh _).trans (eh _).symm),fg],fun q=>by rw[gM];rfl⟩
theorem Iy(l:List ai)(m:Int):fm l m≤l.length:=List.countP_le_length
def uW(l:List ai):Prop:=∀ r∈l,0≤r.bf∧r.bf≤5
theorem wP(l:List ai)(hl:l.length≤1000000000)(h:uW l):aR Tryz.prog 100 [enc l] (enc (dN l)):=by
 refine aR.bO Tryz.func100 F9 Hm Iz (t8 rfl) (fun hwf W0 bF E1 =>?_);simp only[xG,BS,bC];clear hwf;have R:=y6 @Kt aH
 repeat' ((first |refine U.aL (by decide +kernel) rfl fun K hK =>?_|(refine .aI [0,2,3,5,6,7,8,9] hK ?_;clear hK K)|(with_reducible refine .done (hK _ ?_);clear hK K)|refine U.of rfl ?_|(with_reducible refine aB.aJ (fun h =>?_) (fun h =>?_) <;>try simp only[h])) <;>try simp only[aM,R,simprocAttr])
 all_goals clear R
 refine U.loop (fun i:Nat=>aw [(0,enc l),(2,.ptr 2 []),(3,.ptr 3 []),(6,enc l),(7,.int .i64 l.length),(8,.int .i64 i)] [(2,.box (enc (dN []))),(3,.box (enc (dN (l.take i))))]) (fun i=>i≤l.length) (fun i=>l.length-i) 0 (Nat.zero_le _) ?_ ?_
 ·refine bG.df ?_ ?_ ?_ ?_ <;>simp[cG,cN,cL,cg,aC,cF,eB,I.only,ah.only,bN]
  all_goals rfl
 intro i hi;by_cases hlt:i<l.length
 ·have hlc:=gj hlt;have he:=fun A=>gP (A:=A) 8 hlt rfl;have hw:=fj (i:=i) (by omega);have hsn:=lq hlt;have hin:=h l[i] (List.getElem_mem hlt);have hle:=Iy (l.take i);have hli:(l.take i).length=i:=by rw[Y0];omega
  generalize l[i]=r at *;obtain ⟨k,hk⟩:=Y2 hin.1;have hk6:k<6:=by omega
  have hib:=fun {y:Option I} =>ph 1 (dN (l.take i)) (y:=y) (show (0:Int)≤(k:Int)∧(k:Int)<(6:Nat) by omega) rfl;have hat:=fun p=>fY (p:=p) (dN (l.take i)) hk6;have hst:=WH (l.take i) r hk6 hk;have hw1:IntKind.i64.wrap ((dN (l.take i)).g k+1)=(dN (l.take i)).g k+1:=by
   have:=hle k;rw[tZ _ hk6];exact dH _ (by omega) (by omega)
  rw[←hsn] at hst;have R:=y6 @hlc (y6 @he (y6 @hw (y6 @hk (y6 @hib (y6 @hat (y6 @hst (y6 @hw1 (y6 @Int.toNat_natCast (y6 @ec (y6 @dL aH))))))))))
  repeat' ((first |refine U.aL (by decide +kernel) rfl fun K hK =>?_|(refine .aI [0,2,3,5,6,7,8,9] hK ?_;clear hK K)|(with_reducible refine .done (hK _ ?_);clear hK K)|refine U.of rfl ?_|(with_reducible refine aB.aJ (fun h =>?_) (fun h =>?_) <;>try simp only[h])) <;>try simp only[aM,R,simprocAttr])
  all_goals clear R
  refine ⟨i+1,by omega,by omega,?_⟩;clear hsn;refine bG.df ?_ ?_ ?_ ?_ <;>simp[cG,cN,cL,cg,aC,cF,eB,I.only,ah.only,bN]
  all_goals rfl
 ·have hlc:=gO hlt;have hge:i=l.length:=by omega
  subst hge;rw[List.take_length];have R:=y6 @hlc (y6 @oj aH)
  repeat' ((first |refine U.aL (by decide +kernel) rfl fun K hK =>?_|(refine .aI [0,2,3,5,6,7,8,9] hK ?_;clear hK K)|(with_reducible refine .done (hK _ ?_);clear hK K)|refine U.of rfl ?_|(with_reducible refine aB.aJ (fun h =>?_) (fun h =>?_) <;>try simp only[h])) <;>try simp only[aM,R,simprocAttr])
  all_goals clear R
  all_goals rfl
theorem AB(l:List ai){m:Int}(h:0≤m∧m≤5):mg 6 1 none m (some ((dN l).l.map enc))=some (.int .i64 (fm l m)):=by
 obtain ⟨k,rfl⟩:=Y2 h.1;have hk:k<6:=by omega
 rw[Tu (x:=dN l) 1 (k:=(k:Int)) ⟨h.1,by simpa using hk⟩ rfl];have e:enc ((dN l).l[((k:Int)).toNat]'((dN l).lt (by simpa using hk)))=I.int .i64 (fm l k):=by
  have:=tZ l hk;rw[←dP.uQ _ hk] at this;rw[←this];rfl
 rw[e];rfl
theorem w8(l:List ai)(r:ai)(hl:l.length≤1000000000)(h:uW l)(hr:0≤r.bf∧r.bf≤5):aR Tryz.prog 71 [enc l,enc r] (enc (dY l r)):=by
 refine aR.bO Tryz.func71 GU HY Je (t8 rfl) (fun hwf W0 bF E1 =>?_);simp only[yn,Cw,bC,Z8];clear hwf;have hF:=wP l hl h;have hix:=AB l hr;rw[show dY l r=(decide ((l.length:Int)<60)&&((fm l r.bf:Int)==r.no)) by
  simp only[dY];congr 1;rw[decide_eq_decide];omega]
 cases q1:decide ((l.length:Int)<60)
 ·have R:=y6 @q1 (y6 @hix (y6 @oj aH))
  repeat' ((first |(with_reducible refine .guard (fun hb =>?_) (fun hb =>?_) <;>try simp only[hb])|refine U.aL (by decide +kernel) rfl fun K hK =>?_|refine .lead _ (hF) ?_|(refine .aI [0,1,3,4] hK ?_;clear hK K)|(with_reducible refine .done (hK _ ?_);clear hK K)|refine U.of rfl ?_|(with_reducible refine aB.aJ (fun h =>?_) (fun h =>?_) <;>try simp only[h])) <;>try simp only[aM,R,simprocAttr])
  all_goals clear R
  all_goals rfl
 ·have R:=y6 @q1 (y6 @hix (y6 @oj aH))
  repeat' ((first |(with_reducible refine .guard (fun hb =>?_) (fun hb =>?_) <;>try simp only[hb])|refine U.aL (by decide +kernel) rfl fun K hK =>?_|refine .lead _ (hF) ?_|(refine .aI [0,1,3,4] hK ?_;clear hK K)|(with_reducible refine .done (hK _ ?_);clear hK K)|refine U.of rfl ?_|(with_reducible refine aB.aJ (fun h =>?_) (fun h =>?_) <;>try simp only[h])) <;>try simp only[aM,R,simprocAttr])
  all_goals clear R
  all_goals rfl
def gI:List ai→List ai→Bool
 |_,[]=>true
 |out,r::l=>bg r&&dY out r&&gI (out++[r]) l
theorem wN:∀ (l out:List ai),gI out l=true↔iO bg dY out l
 | [],_=>by simp[gI,iO]
 |r::l,out=>by simp only[gI,iO,Z0,wN l,and_assoc]
theorem Xa{l:List ai}{i:Nat}(h:i<l.length):gI (l.take i) (l.drop i)=(bg l[i]&&dY (l.take i) l[i]&&gI (l.take (i+1)) (l.drop (i+1))):=by
 rw[List.drop_eq_getElem_cons h,gI,←lq h]
theorem nV{r:ai}(h:bg r=true):0≤r.bf∧r.bf≤5:=(pI (pJ h)).1
theorem Bo{l:List ai}{i:Nat}(hi:i<l.length)(h:∀ r∈l.take i,bg r=true)(h2:bg l[i]=true):∀ r∈l.take (i+1),bg r=true:=fun r hr=>by
 rw[lq hi] at hr;rcases zz2.1 hr with h1 | h1
 ·exact h r h1
 ·rw[List.mem_singleton.1 h1];exact h2
theorem ET(l:List ai)(hl:l.length≤1000000000):aR Tryz.prog 98 [enc l] (enc (gI [] l)):=by
 refine aR.bO Tryz.func98 Hc Ii Jw (t8 rfl) (fun hwf W0 bF E1 =>?_);simp only[yH,CO,bC];clear hwf;have R:=aH
 repeat' ((first |(with_reducible refine .guard (fun hb =>?_) (fun hb =>?_) <;>try simp only[hb])|refine U.aL (by decide +kernel) rfl fun K hK =>?_|(refine .aI [0,2,3,4,5,6,7,8,22] hK ?_;clear hK K)|(with_reducible refine .done (hK _ ?_);clear hK K)|refine U.of rfl ?_|(with_reducible refine aB.aJ (fun h =>?_) (fun h =>?_) <;>try simp only[h])) <;>try simp only[aM,R,simprocAttr])
 all_goals clear R
 refine U.loop (fun i:Nat=>aw [(0,enc l),(5,enc l),(6,.int .i64 l.length),(7,.int .i64 i)] []) (fun i=>i≤l.length∧(∀ r∈l.take i,bg r=true)∧gI [] l=gI (l.take i) (l.drop i)) (fun i=>l.length-i) 0 ⟨Nat.zero_le _,by simp,by simp⟩ ?_ ?_
 ·refine bG.df ?_ ?_ ?_ ?_ <;>simp[cG,cN,cL,cg,cF,I.only,bN]
  all_goals rfl
 rintro i ⟨hi,hk,heq⟩;by_cases hlt:i<l.length
 ·have hlc:=gj hlt;have he:=fun A=>gP (A:=A) 8 hlt rfl;have hw:=fj (i:=i) (by omega);have hnx:=Bo hlt hk;rw[Xa hlt] at heq;rw[heq];have hsl:=fun A=>Dy (l:=l) (k:=i) A (esz:=8) rfl (by omega);have hli:(l.take i).length=i:=by rw[Y0];omega
  generalize l[i]=r at *;have f80:=nd r;cases q1:bg r
  ·rw[q1] at f80;have R:=y6 @hlc (y6 @he (y6 @hw (y6 @ec (y6 @dL aH))))
   repeat' ((first |(with_reducible refine .guard (fun hb =>?_) (fun hb =>?_) <;>try simp only[hb])|refine U.aL (by decide +kernel) rfl fun K hK =>?_|refine .flat _ (f80) rfl ?_|(refine .aI [0,2,3,4,5,6,7,8,22] hK ?_;clear hK K)|(with_reducible refine .done (hK _ ?_);clear hK K)|refine U.of rfl ?_|(with_reducible refine aB.aJ (fun h =>?_) (fun h =>?_) <;>try simp only[h])) <;>try simp only[aM,R,simprocAttr])
   all_goals clear R
   all_goals rfl
  rw[q1] at f80;have f71:=w8 (l.take i) r (by omega) (fun q hq=>nV (hk q hq)) (nV q1);cases q2:dY (l.take i) r
  ·rw[q2] at f71;have R:=y6 @hlc (y6 @he (y6 @hw (y6 @hsl (y6 @ec (y6 @dL aH)))))
   repeat' ((first |(with_reducible refine .guard (fun hb =>?_) (fun hb =>?_) <;>try simp only[hb])|refine U.aL (by decide +kernel) rfl fun K hK =>?_|refine .flat _ (f80) rfl ?_|refine .flat _ (f71) rfl ?_|(refine .aI [0,2,3,4,5,6,7,8,22] hK ?_;clear hK K)|(with_reducible refine .done (hK _ ?_);clear hK K)|refine U.of rfl ?_|(with_reducible refine aB.aJ (fun h =>?_) (fun h =>?_) <;>try simp only[h])) <;>try simp only[aM,R,X6,simprocAttr])
   all_goals clear R
   all_goals rfl
  rw[q2] at f71;have R:=y6 @hlc (y6 @he (y6 @hw (y6 @hsl (y6 @ec (y6 @dL aH)))))
  repeat' ((first |(with_reducible refine .guard (fun hb =>?_) (fun hb =>?_) <;>try simp only[hb])|refine U.aL (by decide +kernel) rfl fun K hK =>?_|refine .flat _ (f80) rfl ?_|refine .flat _ (f71) rfl ?_|(refine .aI [0,2,3,4,5,6,7,8,22] hK ?_;clear hK K)|(with_reducible refine .done (hK _ ?_);clear hK K)|refine U.of rfl ?_|(with_reducible refine aB.aJ (fun h =>?_) (fun h =>?_) <;>try simp only[h])) <;>try simp only[aM,R,X6,simprocAttr])
  all_goals clear R
  refine ⟨i+1,⟨by omega,hnx q1,?_⟩,by omega,?_⟩
  ·rfl
  refine bG.df ?_ ?_ ?_ ?_ <;>simp[cG,cN,cL,cg,cF,I.only,bN]
  all_goals rfl
 ·have hlc:=gO hlt;rw[heq,List.drop_eq_nil_of_le (by omega),gI];have R:=y6 @hlc aH
  repeat' ((first |(with_reducible refine .guard (fun hb =>?_) (fun hb =>?_) <;>try simp only[hb])|refine U.aL (by decide +kernel) rfl fun K hK =>?_|(refine .aI [0,2,3,4,5,6,7,8,22] hK ?_;clear hK K)|(with_reducible refine .done (hK _ ?_);clear hK K)|refine U.of rfl ?_|(with_reducible refine aB.aJ (fun h =>?_) (fun h =>?_) <;>try simp only[h])) <;>try simp only[aM,R,simprocAttr])
  all_goals clear R
  all_goals rfl
end Go.Proofs.YtoffnnjbplgnaaaGreatDoor
namespace Go.Proofs.YtoffnnjbplgnaaaGreatDoor
open Go Go.Abs Go.Shelf Go.RowKit
open Go.Abs.Enc (enc)
def lz(r:ai):List Value:=[.int .i64 r.bf,.int .i64 r.no,.int .i64 r.kind,.int .i64 r.dV,.int .i64 r.known,.int .i64 r.eS,.int .i64 r.fe,.string ⟨r.text.toArray⟩]
theorem VN{w:World}{D:aD}{E:aN}{r:ai}{cs:List Value}(h:ae w D E (enc r) cs):cs=lz r:=by
 obtain ⟨h1,_⟩:=CV (fb (v:=.agg cs.toArray) (by simp[aW,show (enc r:I).isAgg=true from rfl]) h);simp only[Value.agg.injEq] at h1;have:=congrArg Array.toList h1;simpa[lz] using this
theorem Ax{n:Int}(h:0≤n∧n<100000000):IntKind.i64.min≤n∧n≤IntKind.i64.max:=by
 have a:IntKind.i64.min=-9223372036854775808:=rfl;have b:IntKind.i64.max=9223372036854775807:=rfl;omega
theorem VW{w:World}{D:aD}{E:aN}{r:ai}(h:bg r=true):ae w D E (enc r) (lz r):=by
 have hn:=nW h;have ht:=sj h
 show ae w D E (.agg [.agg [.int .i64 r.bf,.int .i64 r.no],.int .i64 r.kind,.int .i64 r.dV,.int .i64 r.known,.agg [.int .i64 r.eS,.int .i64 r.fe],.aj ⟨r.text.toArray⟩]) _
 have g:∀ n∈dv r,ae w D E (.int .i64 n) [.int .i64 n]:=fun n hn'=>⟨rfl,Ax (hn n hn')⟩
 simp only[ae,ay];refine ⟨[.int .i64 r.bf,.int .i64 r.no],_,rfl,⟨[.int .i64 r.bf],_,rfl,by simpa only[ae] using g r.bf (by simp[dv]),[.int .i64 r.no],[],rfl,by simpa only[ae] using g r.no (by simp[dv]),rfl⟩,
  [.int .i64 r.kind],_,rfl,by simpa only[ae] using g r.kind (by simp[dv]),[.int .i64 r.dV],_,rfl,by simpa only[ae] using g r.dV (by simp[dv]),[.int .i64 r.known],_,rfl,by simpa only[ae] using g r.known (by simp[dv]),
  [.int .i64 r.eS,.int .i64 r.fe],_,rfl,⟨[.int .i64 r.eS],_,rfl,by simpa only[ae] using g r.eS (by simp[dv]),[.int .i64 r.fe],[],rfl,by simpa only[ae] using g r.fe (by simp[dv]),rfl⟩,
  [.string ⟨r.text.toArray⟩],[],rfl,⟨rfl,?_⟩,rfl⟩
 show r.text.toArray.size≤maxLen
 simp only[List.size_toArray,maxLen];omega
theorem Hh{z:Int}(hz:0≤z∧z<1000003){r:ai}(h:bg r=true)(W:World)(hl:ev Tryz.prog W (fun _=>False)):Calls Tryz.prog 81 #[.int .i64 z,.agg (lz r).toArray] W fun e w'=>e=.returned (.tuple #[.string ⟨(cQ z r).toArray⟩,.int .i64 (cH z (cu r))])∧Below W.heap.size W w':=by
 have hc:=oB z hz r h;refine (hc.2 W (fun _ _=>False) [.int .i64 z,.agg (lz r).toArray] hl (fun _ _ h=>h.elim) ?_).mono ?_
 ·simp only[al];refine ⟨_,_,[.int .i64 z],rfl,rfl,?_,_,_,lz r,rfl,by simp[aW,show (enc r:I).isAgg=true from rfl],VW h,rfl⟩
  show ae _ _ _ (.int .i64 z) _
  simp only[ae];exact ⟨trivial,Ax (by omega)⟩
 ·rintro e w' ⟨v,D',rfl,hv,hb,_⟩;refine ⟨?_,hb⟩;have hv':∃ vs:List Value,v=.tuple vs.toArray∧al w' D' cd [enc (ak.of (cQ z r)),enc (cH z (cu r))] vs:=hv;obtain ⟨vs,rfl,h2⟩:=hv';simp only[al] at h2;obtain ⟨v1,_,c1,rfl,p1,r1,v2,_,c2,rfl,p2,iu,rfl⟩:=h2;have r1':ae w' D' cd (.aj ⟨(cQ z r).toArray⟩) c1:=r1;have r2':ae w' D' cd (.int .i64 (cH z (cu r))) c2:=iu;simp only[ae] at r1' r2';obtain ⟨rfl,_⟩:=r1';obtain ⟨rfl,_⟩:=r2';simp[aW,show (enc (ak.of (cQ z r)):I).isAgg=false from rfl,show (enc (cH z (cu r)):I).isAgg=false from rfl] at p1 p2;subst p1 p2;rfl
def oF(w:World)(a:Option Addr)(l:List ai):Prop:=∀ (j:Nat) (h:j<l.length),∃ b off,a=some ⟨b,off,none⟩∧w.rangeAt b (off+j*8) (lz l[j])∧b<w.heap.size
theorem oF.later{w w':World}{a:Option Addr}{l:List ai}(h:oF w a l)(hb:Below w.heap.size w w'):oF w' a l:=by
 intro j hj;obtain ⟨b,off,h1,h2,h3⟩:=h j hj;refine ⟨b,off,h1,fun k v hk =>?_,Nat.lt_of_lt_of_le h3 hb.size⟩;have:=h2 k v hk;simp only[World.cell?] at this ⊢;rw[hb.block b h3];exact this
theorem Wm{w:World}{D:aD}(hD:∀ b o,D b o→b<w.heap.size){l:List ai}{v:Value}(h:aO w D cd (enc l) v):∃ a cap,v=.slice a l.length cap∧oF w a l:=by
 have h':aO w D cd (.slice 8 (l.map enc)) v:=h;obtain ⟨a,cap,h1,h2,h3,h4,h5⟩:=kc h';refine ⟨a,cap,by rw[h1,Z2],fun j hj =>?_⟩;rcases h4 with h4 | ⟨b,off,cs,rfl,h6,h7⟩
 ·rw[List.map_eq_nil_iff] at h4;rw[h4] at hj;exact absurd hj (by simp)
 ·obtain ⟨c2,k1,k2⟩:=uj (k:=j) (x:=enc l[j]) h6 h7 h5 (by simp[hj]);have e:=VN k2;subst e;refine ⟨b,off,rfl,fun k v hk=>(k1 k v hk).1,hD b (off+j*8+0) (k1 0 _ rfl).2⟩
theorem WU(l:List ai)(hl:l.length≤1000000)(h:∀ r∈l,bg r=true)(a:Option Addr)(cap:Nat)(w:World)(hL:ev Tryz.prog w (fun _=>False))(hR:oF w a l) :
  Calls Tryz.prog 135 #[.slice a l.length cap] w fun e w'=>e=.returned (.string ⟨(eO 1 l).toArray⟩)∧Below w.heap.size w w':=by
 go_enter Tryz.func135,Tryz.ntmps135
 go_wp2
 go_loopw [4,10] (fun s i wr=>∃ j:Nat,j≤l.length∧i=.int .i64 j∧s=.int .i64 (er 1 (l.take j))∧km w.heap.size w.heap.size (eO 1 (l.take j)) wr∧Below w.heap.size w wr) (fun _ i _=>l.length-(RowKit.intOf i).toNat)
 case atStart =>
  refine ⟨0,by omega,rfl,rfl,.inl ⟨by omega,.slice none 0 0,heap_alloc_new w _,⟨rfl,.inl ⟨rfl,rfl⟩⟩,by simp[Value.ownBlock]⟩,iR w _⟩
 case round =>
  obtain ⟨j,hj,rfl,rfl,hI,hbw⟩:=hrel;have hB1:w.heap.size≤wr.heap.size:=hbw.size;by_cases hlt:j<l.length
  ·obtain ⟨b,off,ha,hr,hb⟩:=hR.later hbw j hlt;subst ha;have hok:=h l[j] (List.getElem_mem hlt);have hst:=sZ (l.take j);have hsn:=wG (l.take j) l[j] 1;rw[←lq hlt] at hsn;generalize l[j]=r at *;have hcall:=Hh hst hok;have k0:wr.cell? ⟨b,off+j*8,none⟩=some (.int .i64 r.bf):=hr 0 _ rfl;have k1:wr.cell? ⟨b,off+j*8+1,none⟩=some (.int .i64 r.no):=hr 1 _ rfl;have k2:wr.cell? ⟨b,off+j*8+2,none⟩=some (.int .i64 r.kind):=hr 2 _ rfl;have k3:wr.cell? ⟨b,off+j*8+3,none⟩=some (.int .i64 r.dV):=hr 3 _ rfl;have k4:wr.cell? ⟨b,off+j*8+4,none⟩=some (.int .i64 r.known):=hr 4 _ rfl;have k5:wr.cell? ⟨b,off+j*8+5,none⟩=some (.int .i64 r.eS):=hr 5 _ rfl;have k6:wr.cell? ⟨b,off+j*8+6,none⟩=some (.int .i64 r.fe):=hr 6 _ rfl;have k7:wr.cell? ⟨b,off+j*8+7,none⟩=some (.string ⟨r.text.toArray⟩):=hr 7 _ rfl;simp only[lz] at hcall;have hw:=fj (i:=j) (by omega);have hlt':decide ((j:Int)<(l.length:Int))=true:=gj hlt;have hll:=pz hst hok;have htl:=s7 (l.take j) (s:=1) (by omega) fun q hq=>h q (List.mem_of_mem_take hq);have hli:(l.take j).length=j:=by rw[Y0];omega
   have hsz:(⟨(cQ (er 1 (l.take j)) r).toArray⟩:ByteArray).size=(cQ (er 1 (l.take j)) r).length:=by show (cQ _ r).toArray.size=_;simp
   go_wp2_with (first | (go_at_call 81;refine (hcall _ (AG hL (hbw.trans ((iR wr _).mono hB1)))).mono ?_;rintro e W1 ⟨rfl,hb1⟩) | (go_at_call 156;refine (D0 w.heap.size w.heap.size _ _ _ (rJ (rJ hI (iR wr _)) hb1) (by rw[hsz];omega) (by have:=hb1.size;simp at this;omega)).mono ?_;rintro e W2 ⟨rfl,hI2,hb2,hk2⟩))
   refine ⟨⟨j+1,by omega,rfl,?_,?_,?_⟩,by simp only[RowKit.intOf];omega⟩
   ·rw[hsn.2]
   ·rw[hsn.1];exact hI2
   ·exact ((hbw.trans ((iR wr _).mono hB1)).trans (hb1.mono (by simp;omega))).trans hb2
  ·have hge:j=l.length:=by omega
   subst hge;have hlt':decide ((l.length:Int)<(l.length:Int))=false:=by simp
   rw[List.take_length] at hI
   go_wp2_with (go_at_call 157;refine (xA w.heap.size w.heap.size _ _ hI hB1).mono ?_;rintro e W2 ⟨rfl,hI2,hb2,hk2⟩)
   go_ret
   exact ⟨rfl,hbw.trans hb2⟩
theorem wU(l:List ai)(hl:l.length≤1000000)(h:∀ r∈l,bg r=true):aR Tryz.prog 135 [enc l] (enc (ak.of (eO 1 l))):=by
 refine ⟨Gm,fun w D vs hL hD hv =>?_⟩;simp only[al] at hv;obtain ⟨v,rest,cs,rfl,h1,h2,rfl⟩:=hv;obtain ⟨a,cap,rfl,hR⟩:=Wm hD (fb h1 h2);refine (WU l hl h a cap w hL hR).mono ?_;rintro e w' ⟨rfl,hbl⟩;have hlen:=s7 l (s:=1) (by omega) h;exact ⟨_,D,rfl,Db (l:=eO 1 l) (by unfold maxLen;omega),hbl,fun b o hd=>Nat.lt_of_lt_of_le (hD b o hd) hbl.size,fun _ _ h _=>h⟩
end Go.Proofs.YtoffnnjbplgnaaaGreatDoor
namespace Go.Proofs.YtoffnnjbplgnaaaGreatDoor
open Go Go.Abs
open Go.Abs.Enc (enc)
theorem y9{c:UInt8} : ∀ {l:List UInt8},cE c l=none→∀ b∈l,b≠c
 | [],_=>by simp
 |b::l,h=>by
  rw[cE] at h;by_cases e:b=c
  ·rw[if_pos e] at h;cases h
  ·rw[if_neg e] at h;cases h2:cE c l with
   |some p=>rw[h2] at h;cases h
   |none =>
    intro x hx;rcases zz1.1 hx with rfl | hx
    ·exact e
    ·exact y9 h2 x hx
theorem qU{c:UInt8} : ∀ {l w v:List UInt8},cE c l=some (w,v)→l=w++c::v∧∀ b∈w,b≠c
 | [],_,_,h=>by simp[cE] at h
 |b::l,w,v,h=>by
  rw[cE] at h;by_cases e:b=c
  ·rw[if_pos e] at h;cases h;exact ⟨by rw[e];rfl,by simp⟩
  ·rw[if_neg e] at h;cases h2:cE c l with
   |none=>rw[h2] at h;cases h
   |some p =>
    obtain ⟨w2,v2⟩:=p;rw[h2,Z7] at h;cases h;obtain ⟨h3,h4⟩:=qU h2;refine ⟨by rw[h3];rfl,fun x hx =>?_⟩;rcases zz1.1 hx with rfl | hx
    ·exact e
    ·exact h4 x hx
theorem u9{u:List UInt8}(h:cE 10 u=none):dB u=[]:=AS (y9 h)
theorem rV{u w v:List UInt8}(h:cE 10 u=some (w,v)):dB u=(w++[10])::dB v:=by
 obtain ⟨rfl,h2⟩:=qU h;exact TT v h2
def ff:Nat→List UInt8→List UInt8
 |0,t=>t
 |k+1,t=>match cE 10 t with
  |none=>t
  |some p=>ff k p.2
theorem vR:∀ {k:Nat} {t w v:List UInt8},cE 10 (ff k t)=some (w,v)→ff (k+1) t=v
 |0,t,w,v,h=>by rw[ff] at h;rw[ff,h];rfl
 |k+1,t,w,v,h=>by
  rw[ff] at h ⊢;cases h2:cE 10 t with
  |none=>rw[h2] at h;simp only at h;rw[h2] at h;cases h
  |some p=>rw[h2] at h;exact vR h
theorem vQ:∀ {k:Nat} {t:List UInt8},k≤(dB t).length→dB (ff k t)=(dB t).drop k
 |0,t,_=>rfl
 |k+1,t,h=>by
  rw[ff];cases h2:cE 10 t with
  |none=>rw[u9 h2] at h;simp at h
  |some p =>
   obtain ⟨w,v⟩:=p;rw[rV h2] at h ⊢;simp only[Y5] at h;exact vQ (k:=k) (t:=v) (by omega)
theorem C2:∀ (k:Nat) (t:List UInt8),(ff k t).length≤t.length
 |0,_=>Z5 _
 |k+1,t=>by
  rw[ff];cases h2:cE 10 t with
  |none=>exact Z5 _
  |some p =>
   have:=qV h2;have:=C2 k p.2;simp only;omega
def dn(u:List UInt8)(out:List ai)(s:Int)(z:Nat):List (Nat×ah):=[(1000001,.box (enc (ak.of u))),(1000004,.box (.own 1000080 out.length)),(1000080,.bE 50 8 (out.map enc)),(1000005,.box (.int .i64 s)),(1000006,.box (.int .i64 (z:Int)))]
theorem mR(u:List UInt8)(out:List ai)(s:Int)(z:Nat)(u':List UInt8)(out':List ai)(s':Int)(z':Nat):eV (dn u out s z) (dn u' out' s' z'):=by
 refine ⟨fun n=>by simp only[dn,aC,aE];(repeat' split) <;>rfl,fun n x h =>?_,fun n h =>?_⟩
 ·simp only[dn,aE] at h
  repeat' split at h
  all_goals first | (cases h;done) | (simp only[v6] at h;subst h;exact ⟨by simp[dn,aC,aE,ah.only,bN,I.only,sq],rfl⟩)
 ·simp only[dn,aC,aE] at h
  repeat' split at h
  all_goals first | omega | (simp at h;done)
section
variable (t:List UInt8) (P:Nat→List ai→Int→Nat→Prop) (bl:List ai→Nat→Prop)
def rH(k:Nat)(os:List (Nat×ah)):Prop:=∃ out s z,os=dn (ff k t) out s z∧P k out s z
def rI(k:Nat)(os:List (Nat×ah)):Prop:=∃ out s z,os=dn (ff k t) out s z∧P (k+1) out s z
def pk(e:Option Nat)(os:List (Nat×ah)):Prop:=e=some 0∧∃ u out s z,os=dn u out s z∧bl out z
def nJ(k:Nat):List I:=[enc (ak.of ((dB t).getD k []))]
end
def Dj(o:Obj)(v:Value)(t:List UInt8)(x:Nat×List ai×Int×Nat):ab:=aw [(0,.raw v),(1,.ptr 1000001 [])] (bK o (dn (ff x.1 t) x.2.1 x.2.2.1 x.2.2.2))
theorem Ao{o:Obj}{u:List UInt8}{out:List ai}{s:Int}{z:Nat}{ts:List (Nat×I)} : ∀ n x,aE (bK o (dn u out s z)) n=some x→(aw ts (bK o (dn u out s z))).o n=some x∧x.only (aC (bK o (dn u out s z)))=true∧x.ed=true:=fun n x h =>
 ⟨h,(((mR u out s z u out s z).bK o o).ok n x h)⟩
theorem WL:∀ A n b rest (x y:List UInt8),ep A none n [] b (enc (ak.of x)) rest (some (enc (ak.of y)))=ao rest (A.aP n (.box (enc (ak.of x)))) :=
 fun A n b rest x y=>by rw[fh (s:=none) (v:=enc (ak.of x)) (old:=enc (ak.of y)) (eY _) rfl rfl,fg]
theorem TU{t:List UInt8}(ht:t.length≤281474976710656){P:Nat→List ai→Int→Nat→Prop}{bl:List ai→Nat→Prop}{out0:List ai}{s0:Int}{z0:Nat}(h0:P 0 out0 s0 z0)
  (Y:Value→List I→List (Nat×ah)→bV→Prop) (v:Value) (o:Obj) (oX:Option Nat→Obj) (hv:v.oneCell'=true)
  (hY:∀ k osb post,k<(dB t).length→rH t P k osb→(∀ r os2,(r=.bool true∧∃ osb2,os2=bK o osb2∧rI t P k osb2)∨(r=.bool false∧∃ e osb2,os2=bK (oX e) osb2∧pk bl e osb2)→post r os2)→Y v (nJ t k) (bK o osb) post) :
  iM Tryz.prog 122 Y [.raw v,.ptr 1000001 []] (bK o (dn t out0 s0 z0)) (fun r os'=>r=.tuple []∧((∃ osb,os'=bK o osb∧rH t P (dB t).length osb)∨∃ e osb,os'=bK (oX e) osb∧pk bl e osb)):=by
 refine iM.bO Tryz.func122 yK Hp IC (t8 rfl) (t8 rfl) (((mR t out0 s0 z0 t out0 s0 z0).bK o o).lD) (fun hwf W0 bF E1 =>?_);simp only[xJ,BV,bC,Z8];clear hwf;refine U.block (U.loop (Dj o v t) (fun x=>x.1≤(dB t).length∧P x.1 x.2.1 x.2.2.1 x.2.2.2) (fun x=>(dB t).length-x.1) (0,out0,s0,z0) ⟨by simp,h0⟩ ?_ ?_)
 ·exact bG.refl _
 rintro ⟨k,out,s,z⟩ ⟨hk,hP⟩;simp only at hk hP;have hrl:=C2 k t;have hrd:=vQ hk;have hrn:=fun w v=>vR (k:=k) (t:=t) (w:=w) (v:=v);obtain ⟨u,hu⟩:∃ u,u=ff k t:=⟨_,rfl⟩
 have hfin:dB u=[]→∃ osb,bK o (dn u out s z)=bK o osb∧rH t P (dB t).length osb:=fun e=>by
  rw[hu,hrd,List.drop_eq_nil_iff] at e;have:k=(dB t).length:=by omega
  exact ⟨_,rfl,out,s,z,by rw[←this,←hu],by rw[←this];exact hP⟩
 simp only[Dj,←hu];rw[←hu] at hrl hrd hrn;have heldF:=fun ts=>Ao (o:=o) (u:=u) (out:=out) (s:=s) (z:=z) (ts:=ts);rcases hq:decide (u=[])
 rotate_left
 ·have hu0:u=[]:=of_decide_eq_true hq;have hf:=hfin (by rw[hu0];exact AS (by simp));simp only[bK,dn] at hf heldF ⊢;have R:=y6 @ij (y6 @gq (y6 @hq (y6 @bj aH)))
  repeat' ((first |(with_reducible refine .guard (fun hb =>?_) (fun hb =>?_) <;>try simp only[hb])|refine U.aL (by decide +kernel) rfl fun K hK =>?_|(refine .aI [0,1,3,5,18] hK ?_;clear hK K)|(with_reducible refine .done (hK _ ?_);clear hK K)|refine U.of rfl ?_|(with_reducible refine aB.aJ (fun h =>?_) (fun h =>?_) <;>try simp only[h])) <;>try simp only[aM,R,simprocAttr])
  all_goals clear R
  rw[Wc];exact ⟨_,[],heldF _,trivial,rfl,.inl hf⟩
 have hF:=Eg (ak.of u) 10;rw[ak.dm] at hF;rcases oS 10 u with ⟨h1,h2⟩ | ⟨i,hi,h2,h1⟩
 ·have hf:=hfin (u9 h1);obtain ⟨n,hn1⟩:∃ n:Int,n=-1:=⟨_,rfl⟩
  rw[h2,←hn1] at hF;have hneg:decide (n<0)=true:=by rw[hn1];rfl
  simp only[bK,dn] at hf heldF ⊢;have R:=y6 @ij (y6 @gq (y6 @hq (y6 @hneg (y6 @bj aH))))
  repeat' ((first |(with_reducible refine .guard (fun hb =>?_) (fun hb =>?_) <;>try simp only[hb])|refine U.aL (by decide +kernel) rfl fun K hK =>?_|refine .flat _ (hF) rfl ?_|(refine .aI [0,1,3,5,18] hK ?_;clear hK K)|(with_reducible refine .done (hK _ ?_);clear hK K)|refine U.of rfl ?_|(with_reducible refine aB.aJ (fun h =>?_) (fun h =>?_) <;>try simp only[h])) <;>try simp only[aM,R,simprocAttr])
  all_goals clear R
  rw[jH];exact ⟨_,[],heldF _,trivial,rfl,.inl hf⟩
 rw[h2] at hF;have hlt:k<(dB t).length:=by
  have:=congrArg List.length hrd;rw[rV h1,List.length_drop] at this;simp only[Y5] at this;omega
 have jw:nJ t k=[enc (ak.of (u.take (i+1)))]:=by
  have e:(dB t)[k]=u.take i++[10]:=by
   have h3:=hrd;rw[rV h1,List.drop_eq_getElem_cons hlt] at h3;exact (List.cons.inj h3).1.symm
  have h10:u[i]=10:=by
   obtain ⟨e1,_⟩:=qU h1;have:=congrArg (fun l=>l[i]?) e1;simp only[Y6 hi] at this;rw[List.getElem?_append_right (by rw[Y0];omega),Y0,show i-min i u.length=0 by omega] at this;exact Option.some.inj this
  rw[nJ,Y8,Y6 hlt,Option.getD_some,e,lq hi,h10]
 have hlz:decide ((i:Int)<0)=false:=decide_eq_false (by omega);have hw:=fj (i:=i) (by omega);have hsh:=p8 (ak.of u) (j:=i+1) (by rw[ak.dm];omega);have hsl:=wa (ak.of u) (i:=i+1) (by rw[ak.dm];omega);rw[ak.dm] at hsh hsl;have hyy:=hY k (dn u out s z) _ hlt ⟨out,s,z,by rw[←hu],hP⟩ (fun r os2 h=>h);rw[jw] at hyy;simp only[bK,dn] at hyy ⊢;have R:=y6 @ij (y6 @gq (y6 @hq (y6 @hlz (y6 @hw (y6 @hsh (y6 @Hi (y6 @bj aH)))))))
 repeat' ((first |(with_reducible refine .guard (fun hb =>?_) (fun hb =>?_) <;>try simp only[hb])|refine U.aL (by decide +kernel) rfl fun K hK =>?_|refine .flat _ (hF) rfl ?_|(refine .aI [0,1,3,5,18] hK ?_;clear hK K)|(with_reducible refine .done (hK _ ?_);clear hK K)|refine U.of rfl ?_|(with_reducible refine aB.aJ (fun h =>?_) (fun h =>?_) <;>try simp only[h])) <;>try simp only[aM,R,simprocAttr])
 all_goals clear R
 refine aX.Xc (ow:=[]) (In:=fun os2=>∃ osb2,os2=bK o osb2∧rI t P k osb2) (Ix:=fun os2=>∃ e osb2,os2=bK (oX e) osb2∧pk bl e osb2) hyy ((mR t out0 s0 z0 u out s z).bK o o) (fun os' h =>?_) (fun os' h =>?_) (by simp[I.b6,jV]) (fun m h=>by simp[aC,aE] at h) (fun os2 h =>?_) (fun os2 h =>?_)
 ·obtain ⟨_,rfl,out',s',z',rfl,_⟩:=h;exact (mR ..).bK _ _
 ·obtain ⟨e,_,rfl,_,u',out',s',z',rfl,_⟩:=h;exact (mR ..).bK _ _
 ·obtain ⟨_,rfl,out',s',z',rfl,hP'⟩:=h;rw[←hu]
  try simp only[bK,dn,X4,aZ,simprocAttr]
  refine .done (hK _ ?_);clear hK K;have hn:=hrn _ _ h1;have R:=y6 @hw (y6 @hsl (y6 @hlz (y6 @WL (y6 @bj aH))))
  repeat' ((first |(with_reducible refine .guard (fun hb =>?_) (fun hb =>?_) <;>try simp only[hb])|refine U.aL (by decide +kernel) rfl fun K hK =>?_|(refine .aI [0,1,3,5,18] hK ?_;clear hK K)|(with_reducible refine .done (hK _ ?_);clear hK K)|refine U.of rfl ?_|(with_reducible refine aB.aJ (fun h =>?_) (fun h =>?_) <;>try simp only[h])) <;>try simp only[aM,R,simprocAttr])
  all_goals clear R
  refine ⟨(k+1,out',s',z'),⟨by simp only;omega,hP'⟩,by simp only;omega,?_⟩;simp only[hn];refine bG.slots ?_ (fun n =>?_)
  ·simp[cG,cF]
  ·simp only[eB];(repeat' split) <;>simp_all
 ·obtain ⟨e,_,rfl,he,u',out',s',z',rfl,hF'⟩:=h
  try simp only[bK,dn,X4,aZ,simprocAttr]
  refine .done (hK _ ?_);clear hK K;have R:=y6 @bj aH
  repeat' ((first |(with_reducible refine .guard (fun hb =>?_) (fun hb =>?_) <;>try simp only[hb])|refine U.aL (by decide +kernel) rfl fun K hK =>?_|(refine .aI [0,1,3,5,18] hK ?_;clear hK K)|(with_reducible refine .done (hK _ ?_);clear hK K)|refine U.of rfl ?_|(with_reducible refine aB.aJ (fun h =>?_) (fun h =>?_) <;>try simp only[h])) <;>try simp only[aM,R,simprocAttr])
  all_goals clear R
  rw[jH];exact ⟨_,[],Ao (o:=oX e) (u:=u') (out:=out') (s:=s') (z:=z'),trivial,rfl,.inr ⟨e,_,rfl,he,u',out',s',z',rfl,hF'⟩⟩
def Vv(t:List UInt8):bV:=fun r os'=>r=.func 122 [.ptr 1 []]∧os'=[(1,.box (enc (ak.of t)))]
theorem EJ(t:List UInt8):eG Tryz.prog 69 [enc (ak.of t)] [] (Vv t):=by
 refine eG.bO Tryz.func69 GR HX Jc (t8 rfl) (t8 rfl) (fun m hm=>by simp[aC,aE] at hm) (fun hwf W0 bF E1 =>?_);simp only[ym,Cv,bC];clear hwf;have hall:([I.ptr 1 []].all fun y=>y.cq)=true:=rfl;have R:=y6 @hall (y6 @bj aH)
 repeat' ((first |refine U.aL (by decide +kernel) rfl fun K hK =>?_|(refine .aI [0,1,2] hK ?_;clear hK K)|(with_reducible refine .done (hK _ ?_);clear hK K)|refine U.of rfl ?_|(with_reducible refine aB.aJ (fun h =>?_) (fun h =>?_) <;>try simp only[h])) <;>try simp only[aM,R,simprocAttr])
 all_goals clear R
 exact ⟨[(1,.box (enc (ak.of t)))],[.func 122 [.ptr 1 []]],nG rfl (fun p=>bN _ _),⟨⟨_,rfl,.inl ⟨rfl,rfl,rfl⟩⟩,trivial⟩,rfl,rfl⟩
end Go.Proofs.YtoffnnjbplgnaaaGreatDoor
namespace Go.Abs
open Go Go.RowKit
open Enc (enc)
def EZ(P:Program)(nn:Nat)(x y:bm)(ps:List Nat)(tsR:List (Nat×I))(N:Nat)(item:Nat→List I)(aY J:Nat→List (Nat×ah)→Prop)(Ix:Option Nat→List (Nat×ah)→Prop):Prop :=
 ∀ k osb,k<N→aY k osb→∀ (w:World) (D:aD) (E:aN) (l:Nat) (o1 o2:Obj),
  U ⟨P,w,D,nn,bM E,E,fq,some l,none⟩ x (cO (fun B=>B.o 1999999=some (.cZ o1)∧U ⟨P,w,D,nn,bM E,E,fq,some l,none⟩ y (C4 o2 (J k) Ix) (B.aP 1999999 (.cZ o2))) (fun _ _=>False)) (aw (sx ps (item k) tsR) (bK o1 osb))
theorem xq{aA:Bool}{A0:ab}{ρ:List (Nat×Nat)}{os:List (Nat×ah)} : ∀ {caps:List I},(∀ x∈caps,x.only (aC os)=true∧x.cq=true)→fI aA A0 ρ os (caps.map fun x=>x.aQ (bp ρ)) caps
 | [],_=>trivial
 |x::xs,h=>⟨.inl ⟨rfl,(h x (by simp)).1,(h x (by simp)).2⟩,xq fun y hy=>h y (by simp[hy])⟩
theorem Fy{aA:Bool}{A0:ab}{ρ:List (Nat×Nat)}{os:List (Nat×ah)}{v:Value}{caps0 caps:List I}(hc:caps0=caps.map fun x=>x.aQ (bp ρ))(h:∀ x∈caps,x.only (aC os)=true∧x.cq=true):fI aA A0 ρ os (.raw v::caps0) (.raw v::caps):=by
 subst hc;exact ⟨.inl ⟨by simp[I.aQ],by simp[I.only],rfl⟩,xq h⟩
section
variable {c:b8} {Q:Exit→ab→Prop}
theorem U.Wh{f:av}{ps:List Nat}{x y:bm}{ts tsR:List (Nat×I)}{os0 osb0:List (Nat×ah)}{ρ:List (Nat×Nat)}{g:FuncId}{caps0 caps:List I}{N:Nat}{item:Nat→List I}
  (aY J:Nat→List (Nat×ah)→Prop) (Ix:Option Nat→List (Nat×ah)→Prop) (hr0:c.pY=none∧c.dQ=none) (hn6:c.n≤1000000)
  (hf:af (aw ts os0) f=.func g caps0) (hc0:caps0=caps.map fun x=>x.aQ (bp ρ)) (hcp:∀ x∈caps,x.only (aC osb0)=true∧x.cq=true) (hcb:dJ c.P g=true)
  (jw:∀ (Y:Value→List I→List (Nat×ah)→bV→Prop) (v:Value) (o:Obj) (oX:Option Nat→Obj),v.oneCell'=true →
   (∀ k osb post,k<N→aY k osb→(∀ r os2,(r=.bool true∧∃ osb2,os2=bK o osb2∧J k osb2)∨(r=.bool false∧∃ e osb2,os2=bK (oX e) osb2∧Ix e osb2)→post r os2)→Y v (item k) (bK o osb) post) →
   iM c.P g Y (.raw v::caps) (bK o osb0) (fun r os'=>r=.tuple []∧((∃ osb,os'=bK o osb∧aY N osb)∨∃ e osb,os'=bK (oX e) osb∧Ix e osb))) (hlen:∀ k,(item k).length=ps.length)
  (hfree:aE os0 999999=none) (h19:aC osb0 1999999=false) (hρ:bp ρ 1999999=999999)
  (hgv:∀ o,eH ρ (bK o osb0) ((999999,.cZ o)::os0)) (hts:lS ρ (aC osb0) ts tsR)
  (hI:∀ k os,aY k os→eV osb0 os) (hIx:∀ e os,Ix e os→eV osb0 os) (h0:aY 0 osb0)
  (hround:EZ c.P c.n x y ps tsR N item aY J Ix)
  (hdone:∀ os,aY N os→Q .normal (aw ts (cV ρ os++os0))) (hexit:∀ e os,Ix e os→Q (uu e) (aw ts (cV ρ os++os0))) :
  U c (.mI f ps x y) Q (aw ts os0):=by
 obtain ⟨hr,hbase⟩:=hr0;intro code hc a w hs;cases code <;>simp only[dI] at hc <;>try (first | (cases hc;done) | ((repeat' split at hc) <;>cases hc;done))
 rename_i cf cps cx cy;split at hc
 case h_2=>cases hc
 rename_i f' x' y' hcf hcx hcy;split at hc
 case isFalse=>cases hc
 rename_i hpn;simp only[v6,bm.mI.injEq] at hc;obtain ⟨rfl,rfl,rfl,rfl⟩:=hc;obtain ⟨D,E,hs⟩:=hs;have hF:c.bl=Fence.wide:=by unfold b8.bl;rw[hr]
 have hE0:c.cd 999999=none:=hs.ju (.inr (by decide));have hval:∃ vs:List Value,a.eval cf=.func (.func g) #[] vs.toArray∧al w D E caps0 vs:=by
  have hv:=bo hs hcf;rw[hf] at hv;obtain ⟨cs,q1,q2⟩:=hv;simp only[ae] at q2;obtain ⟨vs,q3,q4⟩:=q2;exact ⟨vs,by rw[←lC (yQ hcb)];simpa[aW,I.isAgg,q3] using q1.symm,q4⟩
 obtain ⟨vs,hval,hvs⟩:=hval;rw[hF];refine wpIn_rangeFunc fun fn hfn =>?_;obtain ⟨rec,hrec⟩:∃ rec:LoopState→Option Code→Loop,rec=fun aV pe => { state:=aV,pending:=pe,fn,tmps:=a.tmps,params:=cps,assign:=cx,body:=cy,defers:=w.heap.size } :=⟨_,rfl⟩
 obtain ⟨E1,hs1,hE1,hup⟩:=hs.enter hbase hfree hE0 (o:=.loop (rec .ready none)) rfl;obtain ⟨W1,hW1⟩:∃ W1,(w.alloc (.deferred (some []))).alloc (.loop (rec .ready none))=W1:=⟨_,rfl⟩
 rw[hW1] at hs1 hup;obtain ⟨l,hl⟩:∃ l,l=w.heap.size+1:=⟨_,rfl⟩
 rw[←hl] at hE1;obtain ⟨yv,hyv⟩:∃ yv:Value,yv=.func (.yield l) #[] #[]:=⟨_,rfl⟩
 obtain ⟨a1,ha1⟩:∃ a1:Act,a1 = { a with defers := { target:=.collected w.heap.size,args := #[] } :: a.defers } :=⟨_,rfl⟩
 rw[←ha1] at hs1;refine ⟨l,[{ target:=.collected w.heap.size,args := #[] }],W1,{ target:=.fn (.func g) vs.toArray,args := #[yv] },W1,g,#[yv]++vs.toArray,W1,?_,?_,?_,?_,fun _=>by decide,?_⟩
 ·rw[←hW1,hrec,hl];exact run_enterLoop_outer _ _ _ _ _
 ·simp only[resolve,hval,hyv];simp[go_sem]
 ·intro f' _;trivial
 ·simp only[invoke,lP hcb]
 ·-- the iterator's own bargain
  have hG0:=hI 0 osb0 h0;obtain ⟨I',hI'⟩:∃ I':Nat→List (Nat×ah)→Prop,I'=fun k os=>∃ osb,os=bK (.loop (rec .ready none)) osb∧aY k osb:=⟨_,rfl⟩
  obtain ⟨J',hJ'⟩:∃ J':Nat→List (Nat×ah)→Prop,J'=fun k os=>∃ osb,os=bK (.loop (rec .ready none)) osb∧J k osb:=⟨_,rfl⟩
  obtain ⟨Ix',hIx'⟩:∃ Ix':List (Nat×ah)→Prop,Ix'=fun os=>∃ e osb,os=bK (.loop (rec .done (some (rL e)))) osb∧Ix e osb:=⟨_,rfl⟩
  obtain ⟨os1,hos1⟩:∃ os1,os1=bK (.loop (rec .ready none)) osb0:=⟨_,rfl⟩
  obtain ⟨Y,hY⟩:∃ Y:Value→List I→List (Nat×ah)→bV→Prop,Y=fun v args os post=>v=yv∧∃ k,args=item k∧k<N∧I' k os∧∀ r os2,(r=.bool true∧J' k os2)∨(r=.bool false∧Ix' os2)→post r os2:=⟨_,rfl⟩
  have jv:∀ k os',I' k os'→eV os1 os':=fun k os' h=>by
   rw[hI'] at h;obtain ⟨osb,rfl,h⟩:=h;rw[hos1];exact (hI k osb h).bK _ _
  have goodx:∀ os',Ix' os'→eV os1 os':=fun os' h=>by
   rw[hIx'] at h;obtain ⟨e,osb,rfl,h⟩:=h;rw[hos1];exact (hIx e osb h).bK _ _
  have hctr:iM c.P g Y (.raw yv::caps) os1 (fun r os'=>r=.tuple []∧(I' N os'∨Ix' os')):=by
   rw[hI',hIx',hos1];refine jw Y yv (.loop (rec .ready none)) (fun e=>.loop (rec .done (some (rL e)))) (by rw[hyv];rfl) (fun k osb post hk h1 h2 =>?_);rw[hY];refine ⟨rfl,k,rfl,hk,by rw[hI'];exact ⟨osb,rfl,h1⟩,fun r os2 h3=>h2 r os2 ?_⟩;rw[hJ',hIx'] at h3;exact h3
  have hgv1:eH ρ os1 ((999999,.cZ (.loop (rec .ready none)))::os0):=by rw[hos1];exact hgv _
  obtain ⟨A0,hA0⟩:∃ A0:ab,A0=aw ts ((999999,.cZ (.loop (rec .ready none)))::os0):=⟨_,rfl⟩
  have hand:lX (Calls c.P g) (fun w D E=>∀ n,nh ⟨c.P,w,D,n,bM E,E,Y,none,none⟩) (.raw yv::caps) os1 (fun r os'=>r=.tuple []∧(I' N os'∨Ix' os')):=fun w D E vs hy hlive hheld hv=>by
   refine (hctr.2 w D E vs hy hlive hheld hv).mono fun e w' ⟨v,he,D',E',r,os',q⟩=>⟨v,D',E',r,os',he,q⟩
  have hshare:=hs1.mO;obtain ⟨Dh,hDh⟩:∃ Dh,Dh=mK (aw ts ((999999,.cZ (.loop (rec .ready none)))::os0)) D E1:=⟨_,rfl⟩
  rw[←hDh] at hshare;have hsh:=hshare.1;obtain ⟨Eh,hEh⟩:∃ Eh,Eh=aq ρ os1 E1:=⟨_,rfl⟩
  have isrec:aC os1 1999999=true:=by rw[hos1,jy];simp
  have hEl:Eh 1999999=some (.op l):=by rw[hEh];simp only[aq,isrec,if_true,hρ];exact hE1
  have EhIn:∀ n e,Eh n=some e→aC os1 n=true:=fun n e h=>by
   rw[hEh] at h;simp only[aq] at h;split at h
   ·assumption
   ·cases h
  have hyok:∀ n,nh ⟨c.P,W1,Dh,n,bM Eh,Eh,Y,none,none⟩:=by
   refine fun n=>⟨by rw[hEh];exact hs1.nL,?_⟩
   intro v' args os' post' hYv w2 D2 E2 vs2 hsince hlive hheld hrvs;rw[hY] at hYv;obtain ⟨rfl,k,rfl,hkN,hIk,hpost⟩:=hYv;have hIk0:=hIk;rw[hI'] at hIk;obtain ⟨osb,rfl,hIk⟩:=hIk;have gk:=jv k _ hIk0;have gkb:=hI k osb hIk;have in2:∀ m,aC os1 m=true→E2 m≠none:=fun m hm=>by
    rw[←gk.same m] at hm;cases hx:aE (bK (.loop (rec .ready none)) osb) m with
    |none=>simp[aC,hx] at hm
    |some x=>have:=hheld.bx m;rw[hx] at this;exact pH this
   have same2:∀ m e,Eh m=some e→e.ed=true→E2 m=some e:=fun m e he hfx=>by
    rcases hsince.dp m e he with h | ⟨e',h,hle⟩
    ·exact absurd h (in2 m (EhIn m e he))
    ·rw[hle.eq hfx] at h;exact h
   have hEl2:E2 1999999=some (.op l):=same2 _ _ hEl rfl;have hob:=hheld.bx 1999999;rw[nO,if_pos rfl] at hob;obtain ⟨b,j1,_,j3,_,_⟩:=hob;rw[hEl2] at j1;cases j1;have hsz:vs2.toArray.size=cps.size:=by have:=p6 hrvs;rw[hlen] at this;simpa using this
   have hyr:=run_yield (P:=c.P) (args:=vs2.toArray) j3 (by rw[hrec];exact hsz);rw[hrec] at hyr;refine ⟨l,hyv,fn,_,cx,cy,hyr,roundIn_of_wpIn trivial ?_⟩;clear hyr
   -- the round's own frame
   obtain ⟨cr,hcr⟩:∃ cr:b8,cr=⟨c.P,w2,D2,c.n,bM E2,E2,fq,some l,none⟩:=⟨_,rfl⟩
   have hFr:cr.bl=Fence.wide.inRound l:=by rw[hcr];rfl
   have hlat:dc W1 Dh Eh w2 D2 E2:=by
    refine ⟨hsince.cj,hsince.fi.cell,fun m b aF he=>same2 m _ he rfl,fun m az l he =>?_,fun m b he=>same2 m _ he rfl,fun m b he=>same2 m _ he rfl,hsince.fi.il⟩;rcases hsince.dp m _ he with h | ⟨e',h,hle⟩
    ·exact absurd h (in2 m (EhIn m _ he))
    ·rcases hle with rfl | ⟨_,_,blk',l',e,rfl,k1,k2⟩
     ·exact ⟨az,l,h,Z5 _,fun _=>rfl⟩
     ·cases e;exact ⟨blk',l',h,k1,k2⟩
   have hslots:lS ρ (aC os1) ts tsR:=by
    have:∀ tsR:List (Nat×I),lS ρ (aC osb0) ts tsR→lS ρ (aC os1) ts tsR:=by
     intro tsR
     induction tsR with
     |nil=>exact fun h=>h
     |cons q r ih =>
      intro h;obtain ⟨h1,h2,h3⟩:=h;exact ⟨h1,jd (fun n hn=>by rw[hos1,jy,hn];simp) _ h2,ih h3⟩
    exact this tsR hts
   have hsr:aG cr (aw tsR (bK (.loop (rec .ready none)) osb)) { tmps:=a.tmps,defers:=[] } w2 D2 E2:=by
    rw[hcr];refine ⟨hs.sz,⟨[],rfl,.nil,fun _ h=>by simp at h⟩,fun t =>?_,eg.refl _ _,fun _ _ h _=>h,hlive,fun m=>(hheld.bx m).jb fun e b he hb=>.inr ⟨m,e,he,hb⟩,hheld.ct,fun _ e h=>.inr ⟨e,h,.refl e⟩,fun m hm =>?_,fun _ _ h=>h,⟨hsince.px,fun _ _ _ _ h=>h.elim⟩,.refl _ _⟩
    ·rcases DB hslots t with h | ⟨h1,h2⟩
     ·simp only[aw];rw[h];simp[aO]
     ·have h3:=hsh.dw t;rw[ha1] at h3;simp only[aw] at h3 ⊢;rw[h1] at h3;have h4:=(aO.aQ (w:=W1) (D:=Dh) (p:=aC os1) (ρ:=bp ρ) (E:=Eh) (E':=E1) (fun n hn=>by rw[hEh];simp only[aq,hn,if_true]) h2).1 h3;exact aO.later hlat h4
    ·have hmi:aC os1 m=true:=by
      rw[←gk.same m];have:=hheld.bx m;cases hx:aE (bK (.loop (rec .ready none)) osb) m with
      |none=>rw[hx] at this;exact absurd this hm
      |some x=>simp[aC,hx]
     have:=gk.lD m hmi;exact ⟨Nat.le_trans hn6 this,this⟩
   have hsp:=aG.BR cps.toList vs2 (item k) tsR _ hsr (fun p hp=>by rw[hcr];have:=X3.1 hpn p hp;simpa using this) hrvs (by have:=hsz;simpa using this.symm);have htm:(cps.zip vs2.toArray).foldl (fun t (q:Tmp×Value)=>t.setIfInBounds q.1 q.2) a.tmps=(cps.toList.zip vs2).foldl (fun t q=>t.setIfInBounds q.1 q.2) a.tmps:=by
    rw[←Array.foldl_toList];simp
   have hx:=hround k osb hkN hIk w2 D2 E2 l (.loop (rec .ready none)) (.loop { rec .ready none with state:=.busy });rw[←hcr] at hx;have hx1:=hx cx (by rw[hcr];exact hcx) _ w2 ⟨D2,E2,hsp⟩;rw[hFr] at hx1;simp only[←htm] at hx1;rw[hcr] at hx1;refine wpIn_mono hx1 ?_;rintro e ax wx ⟨B,hq,hsx⟩;rw[←hcr] at hq hsx;cases e <;>simp only[cO] at hq <;>try exact hq.elim
   simp only[Exit.then];obtain ⟨hB1,hB2⟩:=hq;obtain ⟨Dx,Ex,hsx⟩:=hsx;have hElx:Ex 1999999=some (.op l):=by
    have ho:=hsx.bx 1999999;rw[hB1] at ho;rcases hsx.uH (n:=1999999) (by rw[hcr];exact hEl2) rfl with h | h
    ·exact absurd h (pH ho)
    ·exact h
   have hLx:wx.heap[l]?=some (.loop (rec .ready none)):=by
    have ho:=hsx.bx 1999999;rw[hB1] at ho;obtain ⟨b,k1,_,k3,_⟩:=ho;rw[hElx] at k1;cases k1;exact k3
   refine ⟨_,run_beginRound hLx (by rw[hrec]),?_⟩;have hsb:=hsx.we (o':=.loop { rec .ready none with state:=.busy }) hB1 hElx rfl;have hy1:=hB2 cy (by rw[hcr];exact hcy) _ _ ⟨Dx,Ex,hsb⟩;rw[hFr] at hy1;rw[hcr] at hy1;refine wpIn_mono hy1 ?_;rintro e a3 w3 ⟨A3,hq3,D3,E3,hs3⟩;rw[←hcr] at hs3
   -- the end of the round
   have ba:∀ (os:List (Nat×ah)) (jump:Option Code),ox (.loop { rec .ready none with state:=.busy }) A3 os→(post' (.bool jump.isNone) (bK (.loop (rec (if jump.isNone then .ready else .done) jump)) os)) →
     ∃ v w',(Instr.endRound l jump).run c.P w3=.ok v w'∧(fun e w'=>∃ v D' E' r os',e=Ending.returned v∧post' r os'∧aO w' D' E' r v∧iN (fun b=>w2.heap.size≤b∨bM E2 b) w' D' E' (aE os') ∧
      eg (fun b=>w2.heap.size≤b∨bM E2 b) w2 w'∧(∀ b o,D2 b o→D' b o)∧(∀ b o,D' b o→b<w'.heap.size)∧(∀ b o,D' b o→b<w2.heap.size→¬ bM E2 b→D2 b o) ∧
      (∀ n e,E2 n=some e→aC os' n=true→∃ e',E' n=some e'∧e.eZ e')∧fH w2 D2 w') (.returned v) w':=fun os jump hbk hp=>by
    have hA3:A3.o 1999999=some (.cZ (.loop { rec .ready none with state:=.busy })):=(hbk 1999999 _ (by rw[nO,if_pos rfl])).1;have hEl3:E3 1999999=some (.op l):=by
     have ho:=hs3.bx 1999999;rw[hA3] at ho;rcases hs3.uH (n:=1999999) (by rw[hcr];exact hEl2) rfl with h | h
     ·exact absurd h (pH ho)
     ·exact h
    have hL3:w3.heap[l]?=some (.loop { rec .ready none with state:=.busy }):=by
     have ho:=hs3.bx 1999999;rw[hA3] at ho;obtain ⟨b,k1,_,k3,_⟩:=ho;rw[hEl3] at k1;cases k1;exact k3
    have hend:=run_endRound (P:=c.P) jump hL3;have erec:({ rec .ready none with state:=if jump.isNone then LoopState.ready else .done,pending:=jump } : Loop)=rec (if jump.isNone then .ready else .done) jump:=by rw[hrec]
    have hend':(Instr.endRound l jump).run c.P w3=.ok (.bool jump.isNone) (w3.putObj l (.loop (rec (if jump.isNone then .ready else .done) jump))):=by
     rw[hend];rw[hrec]
    have hs4:=hs3.we (o':=.loop (rec (if jump.isNone then .ready else .done) jump)) hA3 hEl3 rfl;rw[hcr] at hs4;obtain ⟨D',E',_,_,_,q1,q2,q3,q4,q5,q6⟩:=hs4.u7 (Tc hbk _);exact ⟨_,_,hend',_,D',E',.bool jump.isNone,_,rfl,hp,⟨[.bool jump.isNone],by simp[aW,I.isAgg],by simp[ae]⟩,q1,q2,q3,q4,q5,q6⟩
   cases e with
   |normal =>
    obtain ⟨os,hbk,hin⟩:=hq3;exact ba os none hbk (hpost _ _ (.inl ⟨rfl,by rw[hJ'];exact ⟨os,rfl,hin⟩⟩))
   |ret =>
    obtain ⟨os,hbk,hin⟩:=hq3;exact ba os (some .ret) hbk (hpost _ _ (.inr ⟨rfl,by rw[hIx'];exact ⟨none,os,rfl,hin⟩⟩))
   |exit id =>
    obtain ⟨os,hbk,hin⟩:=hq3;exact ba os (some (.exit id)) hbk (hpost _ _ (.inr ⟨rfl,by rw[hIx'];exact ⟨some id,os,rfl,hin⟩⟩))
   |goto t=>exact hq3.elim
   |panic ch=>exact hq3.elim
   |outgrown=>exact hq3.elim
  -- the call
  have hargs:dR (aO W1 D E1) (.raw yv::caps0) (yv::vs):=by
   exact .cons ⟨[yv],by simp[aW,I.isAgg],by rw[hyv];exact ⟨rfl,rfl⟩⟩ (od (hup caps0 vs hvs))
  have hus:=hand.use (ρ:=ρ) hs1 false (fun h=>h.mono) ⟨(fun h=>by cases h),fun _=>by rw[←hDh,←hEh];exact hyok⟩ hgv1 (Fy hc0 fun x hx=>⟨jd (fun n hn=>by rw[hos1,jy,hn];simp) _ (hcp x hx).1,(hcp x hx).2⟩)
   (fun r os' hp=>by
    have gg:eV os1 os':=by
     rcases hp.2 with h | h
     ·exact jv _ _ h
     ·exact goodx _ h
    refine ⟨fun m x hx=>⟨(gg.ok m x hx).1,(gg.ok m x hx).2,fun h=>by cases h⟩,fun m m' h1 h2=>hgv1.inj m m' (by rw[←gg.same];exact h1) (by rw[←gg.same];exact h2),fun m hm=>by rw[gg.same];exact hm,fun m h1 h2=>(by rw[gg.same,h2] at h1;cases h1),(by rw[hp.1];simp[I.only,I.cD]),fun h=>by cases h⟩) hargs
  have ecl : #[yv]++vs.toArray=(yv::vs).toArray:=by simp
  rw[ecl];refine CallsIn.mono (callsIn_wide.2 hus) ?_;rintro e w3 ⟨v,r,os',D2,E2,rfl,hp,hs2,_,hE2⟩;have key:∀ (o3:Obj) (osb:List (Nat×ah)),os'=bK o3 osb→nI o3=true→E2 999999=some (.op l)∧w3.heap[l]?=some o3∧∀ o4,nI o4=true→bw c (aw ts (cV ρ osb++os0)) a1 (w3.putObj l o4):=fun o3 osb he h3=>by
   subst he;have hn2:E2 999999=some (.op l):=by
    obtain ⟨e',h1,h2⟩:=hE2 1999999 (.op l) (by rw[←hEh];exact hEl) (by rw[jy];simp);rw[hρ] at h1;rw[h1,h2.eq rfl]
   have eos:cV ρ (bK o3 osb)=(999999,.cZ o3)::cV ρ osb:=by simp only[bK,cV,Z3,hρ,ah.aQ]
   rw[eos] at hs2;have ha:(aw ts ((999999,ah.cZ o3)::cV ρ osb++(999999,.cZ (.loop (rec .ready none)))::os0)).o 999999=some (.cZ o3):=by simp[aw,aE]
   have hgb:∀ m,aC osb m=true→bp ρ m≠999999:=fun m hm e=>by
    have h5:aC (bK o3 osb) m=true:=by rw[jy,hm];simp
    have g5:eV os1 (bK o3 osb):=by
     rcases hp.2 with h | h
     ·exact jv _ _ h
     ·exact goodx _ h
    have h6:=hgv1.inj m 1999999 (by rw[←g5.same];exact h5) isrec (by rw[hρ];exact e);subst h6;have h7:eV osb0 osb:=by
     rcases hp.2 with h | h
     ·rw[hI'] at h;obtain ⟨osb',h8,h9⟩:=h;simp only[bK,Y7] at h8;rw[h8.2];exact hI _ _ h9
     ·rw[hIx'] at h;obtain ⟨e,osb',h8,h9⟩:=h;simp only[bK,Y7] at h8;rw[h8.2];exact hIx _ _ h9
    rw[h7.same,h19] at hm;cases hm
   refine ⟨hn2,?_,fun o4 h4 =>?_⟩
   ·have ho:=hs2.bx 999999;rw[ha] at ho;obtain ⟨b,k1,_,k3,_⟩:=ho;rw[hn2] at k1;cases k1;exact k3
   ·have h5:=(hs2.we (o':=o4) ha hn2 h4).Kr hn2;have hst:(⟨((aw ts ((999999,ah.cZ o3)::cV ρ osb++(999999,.cZ (.loop (rec .ready none)))::os0)).aP 999999 (.cZ o4)).t,fun m=>if m=999999 then none else
      ((aw ts ((999999,ah.cZ o3)::cV ρ osb++(999999,.cZ (.loop (rec .ready none)))::os0)).aP 999999 (.cZ o4)).o m⟩:ab)=aw ts (cV ρ osb++os0):=by
     simp only[aw,ab.aP]
     congr 1
     funext m
     by_cases hm:m=999999
     ·subst hm;simp only[if_true,rY];cases hq:pre ρ osb 999999 with
      |none=>exact hfree.symm
      |some k=>exact absurd (kS hq).2 (hgb k (kS hq).1)
     ·simp only[if_neg hm,Y3,aE,rY]
    rw[hst] at h5;exact ⟨D2,_,h5⟩
  rcases hp.2 with h | h
  ·rw[hI'] at h;obtain ⟨osb,he,hin⟩:=h;obtain ⟨k1,k2,k3⟩:=key _ osb he rfl;refine ⟨none,_,(by have:=run_endLoop (P:=c.P) k2 (by rw[hrec];simp);rw[hrec] at this;exact this),_,hdone osb hin,?_⟩;have:=k3 (.loop { rec .ready none with state:=.exhausted }) rfl;rw[ha1] at this;rw[hrec] at this;exact this
  ·rw[hIx'] at h;obtain ⟨e,osb,he,hin⟩:=h;obtain ⟨k1,k2,k3⟩:=key _ osb he rfl;refine ⟨some (rL e),_,(by have:=run_endLoop (P:=c.P) k2 (by rw[hrec];simp);rw[hrec] at this;exact this),?_⟩;have:=k3 (.loop { rec .done (some (rL e)) with state:=.exhausted }) rfl;rw[ha1] at this;rw[hrec] at this;have hq:rR c Q (uu e) { a with defers := { target:=.collected w.heap.size,args := #[] } :: a.defers } _:=⟨_,hexit e osb hin,this⟩
   cases e with
   |none=>exact wpIn_ret hq
   |some id=>exact wpIn_exit hq
end
end Go.Abs
