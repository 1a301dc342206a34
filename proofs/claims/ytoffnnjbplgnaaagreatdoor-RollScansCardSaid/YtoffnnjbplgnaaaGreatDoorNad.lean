/-
  A part of the proof that the law RollScans returns true for every input; five variables of Go's library start as the text lays them (the card ties them); conditions: none beyond the statement's own. (part 4 of 6)
-/
import Derived.Lib.SplitLaws
import Derived.Lib.AtoiAll
import Derived.Lib.ItoaMem
import Derived.Shelf.Strings.Split
import Derived.Shelf.Small.Wraps
import Derived.Shelf.Strconv.ErrVarAll
import Derived.Lib.FieldsP
import Derived.Laws.RangeAny
import Derived.Shelf.Strconv.Itoa3
import Derived.Lib.ItoaLen
import Derived.Shelf.Strings.Prefix
import Derived.Shelf.Strings.Cut
import Derived.Shelf.Small.Strs
import Derived.Shelf.Strconv.Clone
import Derived.Shelf.Strings.FieldsFuncAny
import Derived.WalkKit
import Derived.Tactics
import Derived.Tactics2
import Derived.RecoverIn
import Derived.Deep.MidRow
import Derived.Shelf.Strings.BuilderK
import Derived.BigCall
import Derived.Deep.RegionWith
import Derived.Test.YtoffnnjbplgnaaaGreatDoorNac
set_option linter.unusedSimpArgs false
set_option linter.unusedVariables false
set_option maxHeartbeats 16000000
set_option maxRecDepth 100000
namespace Go.Abs
open Go Go.RowKit
open Enc (enc)
structure aj where
 b:ByteArray
 deriving DecidableEq,Inhabited
instance:Enc aj where
 enc s:=.ak s.b
 sz:=1
 aK:=.one
 gz:=false
 done _:=rfl
 size _:=by simp[I.size]
 ir _:=by simp[I.aK]
 agg _:=rfl
instance:Enc UInt8 where
 enc b:=.int .u8 b.toNat
 sz:=1
 aK:=.one
 gz:=false
 done _:=rfl
 size _:=by simp[I.size]
 ir _:=by simp[I.aK]
 agg _:=rfl
def aj.l(s:aj):List UInt8:=s.b.data.toList
def aj.of(l:List UInt8):aj:=⟨⟨l.toArray⟩⟩
theorem aj.sa(s:aj):aj.of s.l=s:=by obtain ⟨⟨⟨l⟩⟩⟩:=s;rfl
theorem aj.c6(l:List UInt8):(aj.of l).l=l:=rfl
theorem aj.KR{s t:aj}(h:s.l=t.l):s=t:=by rw[←aj.sa s,←aj.sa t,h]
theorem aj.r9{s t:List UInt8} : aj.of s=aj.of t↔s=t:=⟨fun h=>by rw[←aj.c6 s,h,aj.c6],fun h=>by rw[h]⟩
theorem aj.size(s:aj):s.b.size=s.l.length:=Lib.size_eq s.b
theorem wh(s t:ByteArray):(s.toList==t.toList)=decide ((⟨s⟩:aj)=⟨t⟩):=by
 obtain ⟨⟨l⟩⟩:=s;obtain ⟨⟨m⟩⟩:=t;simp;by_cases h:l=m <;>simp[h]
def C3(a b:aj):aj:=⟨a.b++b.b⟩
theorem sH(s:aj):enc s=I.ak s.b:=rfl
theorem WI(a b:aj)(h:a.l.length+b.l.length≤9223372036854775807):bE .add (enc a) (enc b)=some (enc (C3 a b)):=by
 rw[←aj.size,←aj.size] at h;simp only[sH,bE,if_pos h,C3]
theorem vN(a b:aj):bE .eql (enc a) (enc b)=some (.bool (decide (a=b))):=by
 simp only[sH,bE,wh]
theorem vO(a b:aj):bE .neq (enc a) (enc b)=some (.bool (!decide (a=b))):=by
 simp only[sH,bE,wh]
theorem p9(a:aj):lD (enc a)=some (.int .i64 a.l.length):=by
 simp only[sH,lD,aj.size]
theorem C9(a:aj){i:Nat}(h:i<a.l.length):dU .dm [enc a,.int .i64 (i:Int)]=some (.int .u8 (a.l[i].toNat:Int)):=by
 show (if 0≤(i:Int) then (a.b.data.toList[(i:Int).toNat]?).map fun b=>I.int .u8 b.toNat else none)=_
 rw[if_pos (by omega),Int.toNat_natCast,Y8 (show i<a.b.data.toList.length from h)];rfl
theorem ui(s:ByteArray)(i j:Nat):(⟨s.extract i j⟩:aj)=aj.of ((s.data.toList.drop i).take (j-i)):=aj.KR (Lib.extract_data s i j)
theorem Da(a:aj){i j:Nat}(h:i≤j)(h2:j≤a.l.length):dU (.ss true true) [enc a,.int .i64 (i:Int),.int .i64 (j:Int)]=some (enc (aj.of ((a.l.drop i).take (j-i)))):=by
 show (if 0≤(i:Int)∧(i:Int)≤j∧(j:Int)≤a.b.size then some (I.ak (a.b.extract (i:Int).toNat (j:Int).toNat)) else none)=_
 rw[if_pos ⟨by omega,by omega,by rw[aj.size];omega⟩,Int.toNat_natCast,Int.toNat_natCast];exact congrArg (fun s:aj=>some (enc s)) (ui a.b i j)
theorem vQ(a:aj){i:Nat}(h2:i≤a.l.length):dU (.ss true false) [enc a,.int .i64 (i:Int)]=some (enc (aj.of (a.l.drop i))):=by
 show (if 0≤(i:Int)∧(i:Int)≤a.b.size then some (I.ak (a.b.extract (i:Int).toNat a.b.size)) else none)=_
 rw[if_pos ⟨by omega,by rw[aj.size];omega⟩,Int.toNat_natCast];refine (congrArg (fun s:aj=>some (enc s)) (ui a.b i a.b.size)).trans ?_;rw[aj.size,List.take_of_length_le (by simp[aj.l])];rfl
theorem oi(a:aj){j:Nat}(h2:j≤a.l.length):dU (.ss false true) [enc a,.int .i64 (j:Int)]=some (enc (aj.of (a.l.take j))):=by
 show (if 0≤(j:Int)∧(j:Int)≤a.b.size then some (I.ak (a.b.extract 0 (j:Int).toNat)) else none)=_
 rw[if_pos ⟨by omega,by rw[aj.size];omega⟩,Int.toNat_natCast];exact congrArg (fun s:aj=>some (enc s)) (ui a.b 0 j)
theorem C6(n:Int):gw 1 (some [.int .u8 n])=some (.slice 1 [.int .u8 n]):=by
 simp[gw,I.size,I.b9,I.bu]
theorem C5(A:ab)(n:Int):ku (cO A 1 (.slice 1 [.int .u8 n]))=some (enc (aj.of [UInt8.ofNat n.toNat])):=rfl
theorem qa(b:UInt8):enc b=I.int .u8 (b.toNat:Int):=rfl
theorem C8(s:aj):kW (enc s)=some (s.l.map enc):=rfl
theorem C2{A:ab}{d:Nat}{k:ab→bW}{l:List UInt8}(hd:A.o d=none) :
  ∃ p:Nat→Prop,gW A (some d) k (some (l.map enc))=.any p fun m=>k ((A.aP d (.box (.agg ((l++List.replicate m 0).map enc)))).aM (some d) (.view d [] 1 0 l.length)):=by
 refine ⟨fun m=>(l.map enc).length+m≤maxLen,?_⟩;have e:∀ m,(l++List.replicate m (0:UInt8)).map enc=l.map enc++List.replicate m (I.int .u8 0):=fun m=>by
  rw[X4,List.map_replicate];rfl
 simp only[gW,hd,e,Z2]
theorem aX.eC{P:Program}{Y:Value→List I→List (Nat×ah)→bY→Prop}{K:ab→Prop}{ts:List (Nat×I)}{os:List (Nat×ah)}{d:Nat}{rest:List ar}{l:List UInt8}(hd:aJ os d=none)
  (h:∀ m,aX P Y false K (ao rest (ay ((d,.view d [] 1 0 l.length)::ts) ((d,.box (.agg ((l++List.replicate m 0).map enc)))::os)))):aX P Y false K (gW (ay ts os) (some d) (ao rest) (some (l.map enc))):=by
 obtain ⟨p,e⟩:=C2 (A:=ay ts os) (k:=ao rest) (l:=l) hd;rw[e];exact .any rfl fun m _=>h m
theorem zr{A:ab}{n:Nat}{l q:List UInt8}(h:A.o n=some (.box (.agg ((l++q).map enc)))):ba true A (.view n [] 1 0 l.length)=some (enc l):=by
 have h1:ba true A (.view n [] 1 0 l.length)=kI 1 0 l.length (some ((l++q).map enc)):=by
  rw[uw,h];rfl
 have e:kI 1 0 l.length (some ((l++q).map enc))=some (enc ((l++q).take l.length)):=qY rfl;rw[h1,e,List.take_left]
theorem bH.eC{P:Program}{Y:Value→List I→List (Nat×ah)→bY→Prop}{hs:List FuncId}{K:ab→Prop}{ts:List (Nat×I)}{os:List (Nat×ah)}{d:Nat}{rest:List ar}{l:List UInt8}(hd:aJ os d=none)
  (h:∀ m,bH P Y hs K (ao rest (ay ((d,.view d [] 1 0 l.length)::ts) ((d,.box (.agg ((l++List.replicate m 0).map enc)))::os)))):bH P Y hs K (gW (ay ts os) (some d) (ao rest) (some (l.map enc))):=by
 obtain ⟨p,e⟩:=C2 (A:=ay ts os) (k:=ao rest) (l:=l) hd;rw[e];exact .any fun m _=>h m
theorem C7(a:aj):bU none (enc a)=true:=rfl
theorem bg :
  (∀ d rest A p xs,bn A d (.prim p xs) rest=b7 (dU p (xs.map (ae A))) (cB d rest A))∧(∀ d rest A x,bn A d (.b2s x) rest=b7 (ku (cO A 1 (ae A x))) (cB d rest A)) ∧
  (∀ b,dU (.mn b) [.cM]=some (.bool (!b)))∧(∀ b t v,dU (.mn b) [.iface t v]=some (.bool b))∧(type_of% @vN)∧(type_of% @vO)∧(type_of% @p9)∧(type_of% @C6)∧(type_of% @C5)∧(type_of% @C7)∧(∀ d rest A x,bn A d (.eC x) rest=gW A d (ao rest) (kW (ae A x)))∧(type_of% @C8)∧(∀ a b,dU .min2 [.int .i64 a,.int .i64 b]=some (.int .i64 (if b<a then b else a))) ∧
  (∀ a b,bE .eql (.int .u8 a) (.int .u8 b)=some (.bool (a==b)))∧(∀ a b,bE .neq (.int .u8 a) (.int .u8 b)=some (.bool (a != b)))∧(∀ a b,bE .lss (.int .u8 a) (.int .u8 b)=some (.bool (decide (a<b))))∧(∀ a b,bE .gtr (.int .u8 a) (.int .u8 b)=some (.bool (decide (a>b)))) ∧
  (∀ a b,bE .leq (.int .u8 a) (.int .u8 b)=some (.bool (decide (a≤b))))∧(∀ a b,bE .geq (.int .u8 a) (.int .u8 b)=some (.bool (decide (a≥b))))∧(∀ a b,bE .sub (.int .u8 a) (.int .u8 b)=some (.int .u8 (IntKind.u8.wrap (a-b)))) :=
 ⟨fun _ _ _ _ _=>rfl,fun _ _ _ _=>rfl,fun _=>rfl,fun _ _ _=>rfl,vN,vO,p9,C6,C5,C7,fun _ _ _ _=>rfl,C8,fun _ _=>rfl,fun _ _=>rfl,fun _ _=>rfl,fun _ _=>rfl,fun _ _=>rfl,fun _ _=>rfl,fun _ _=>rfl,fun _ _=>rfl⟩
end Go.Abs
namespace Go.Abs
open Go
open Enc (enc)
def iS(c:UInt8)(gK:Bool):List UInt8→List (List UInt8)
 | []=>[[]]
 |b::l=>if b=c then (if gK then [b] else [])::iS c gK l else match iS c gK l with
  |h::t=>(b::h)::t
  | []=>[[b]]
theorem JE(c:UInt8)(gK:Bool)(l:List UInt8):iS c gK l≠[]:=by
 cases l with
 |nil=>simp[iS]
 |cons b l =>
  simp only[iS];split
  ·simp
  ·split <;>simp
theorem yU{c:UInt8}{gK:Bool} : ∀ {l:List UInt8},(∀ b∈l,b≠c)→iS c gK l=[l]
 | [],_=>rfl
 |b::l,h=>by
  simp only[iS,if_neg (h b (by simp)),yU (l:=l) fun x hx=>h x (by simp[hx])]
theorem yT{c:UInt8}{gK:Bool} : ∀ {x:List UInt8} (y:List UInt8),(∀ b∈x,b≠c)→iS c gK (x++c::y)=(x++if gK then [c] else [])::iS c gK y
 | [],y,_=>by cases gK <;>simp[iS]
 |b::x,y,h=>by
  simp only[Y3,iS,if_neg (h b (by simp)),yT (x:=x) y fun z hz=>h z (by simp[hz])]
def fM(b:UInt8):Bool:=decide (48≤b.toNat∧b.toNat≤57)
def ea(acc:Nat):List UInt8→Option Nat
 | []=>some acc
 |b::l=>if fM b then ea (acc*10+(b.toNat-48)) l else none
def r6(most:Nat)(w:List UInt8):Option Nat:=if w=[]∨most<w.length∨(w.head?=some 48∧1<w.length) then none else ea 0 w
theorem yW(x y:List UInt8):∀ acc,ea acc (x++y)=(ea acc x).bind fun n=>ea n y:=by
 induction x with
 |nil=>intro acc;rfl
 |cons b x ih =>
  intro acc;simp only[Y3,ea];split
  ·exact ih _
  ·rfl
theorem yX:∀ (l:List UInt8) (acc n:Nat),ea acc l=some n→n<(acc+1)*10^l.length
 | [],acc,n,h=>by simp only[ea,v6] at h;simp;omega
 |b::l,acc,n,h=>by
  simp only[ea] at h;split at h
  case isFalse=>cases h
  rename_i hd;simp only[fM,decide_eq_true_eq] at hd;have:=yX l _ n h;have h2:(acc*10+(b.toNat-48)+1)*10^l.length≤((acc+1)*10)*10^l.length:=Nat.mul_le_mul_right _ (by omega);rw[Y4,Nat.pow_succ]
  calc n<_:=this
   _≤_:=h2
   _=_:=by rw[Nat.mul_assoc,Nat.mul_comm 10 (10^l.length)]
theorem J8{l:List UInt8}{n k:Nat}(h:ea 0 l=some n)(hl:l.length≤k):n<10^k:=by
 have:=yX l 0 n h;have h2:10^l.length≤10^k:=Nat.pow_le_pow_right (by omega) hl;omega
theorem Bn:∀ (l:List UInt8) (acc:Nat),(acc+1)*10^l.length≤1000000000000000000→Lib.parseUint10 acc l=match ea acc l with | some n=>.ok n | none=>Lib.parseUint10 0 [97]
 | [],acc,_=>rfl
 |b::l,acc,h=>by
  have hp:1≤10^l.length:=Nat.one_le_pow _ _ (by decide);rw[Y4,Nat.pow_succ] at h;have hacc:(acc+1)*10≤1000000000000000000:=by
   calc (acc+1)*10=(acc+1)*(1*10):=by omega
    _≤(acc+1)*(10^l.length*10):=Nat.mul_le_mul_left _ (Nat.mul_le_mul_right _ hp)
    _≤_:=h
  simp only[Lib.parseUint10,ea,fM,decide_eq_true_eq];split
  ·rename_i hd;rw[if_neg (by omega),if_neg (by omega)];refine Bn l _ ?_
   calc (acc*10+(b.toNat-48)+1)*10^l.length≤((acc+1)*10)*10^l.length:=Nat.mul_le_mul_right _ (by omega)
    _=(acc+1)*(10^l.length*10):=by rw[Nat.mul_assoc,Nat.mul_comm 10 (10^l.length)]
    _≤_:=h
  ·rfl
theorem z8{x y:List UInt8}(h:x≠[]):(x++y).head?=x.head?:=by cases x with
 |nil=>exact absurd rfl h
 |cons _ _=>rfl
theorem y5(d:Nat)(h:d<10):(UInt8.ofNat (48+d)).toNat=48+d:=by simp;omega
theorem qT{u:Nat}(h:¬ u<10):Lib.decDigits u=Lib.decDigits (u / 10)++[UInt8.ofNat (48+u%10)]:=by
 rw[Lib.decDigits,dif_neg h]
theorem oT:∀ u:Nat,ea 0 (Lib.decDigits u)=some u∧Lib.decDigits u≠[]∧((Lib.decDigits u).head?=some 48→u=0)
 |u=>by
  by_cases h:u<10
  ·rw[Lib.decDigits_one h];have e:=y5 u h;refine ⟨?_,by simp,fun h0 =>?_⟩
   ·have hd:fM (UInt8.ofNat (48+u))=true:=by simp only[fM,e,decide_eq_true_eq];omega
    simp only[ea,hd,if_true,e]
    congr 1;omega
   ·simp only[List.head?_cons,v6] at h0;have:=congrArg UInt8.toNat h0;rw[e] at this;simpa using this
  ·obtain ⟨h1,h2,h3⟩:=oT (u / 10);rw[qT h];have e:=y5 (u%10) (by omega);refine ⟨?_,by simp,fun h0 =>?_⟩
   ·rw[yW,h1];have hd:fM (UInt8.ofNat (48+u%10))=true:=by simp only[fM,e,decide_eq_true_eq];omega
    simp only[zz0,ea,hd,if_true,e]
    congr 1;omega
   ·rw[z8 h2] at h0;have:=h3 h0;omega
termination_by u=>u
decreasing_by omega
theorem yZ:∀ (k:Nat) (w:List UInt8) (n:Nat),w.length≤k→w≠[]→¬ (w.head?=some 48∧1<w.length)→ea 0 w=some n→Lib.decDigits n=w
 |0,w,n,hk,hne,_,_=>absurd (X8 (by omega)) hne
 |k+1,w,n,hk,hne,hz,h=>by
  have hw:=List.dropLast_concat_getLast hne;generalize w.getLast hne=b at hw;generalize w.dropLast=x at hw;subst hw;rw[yW] at h;cases hx:ea 0 x with
  |none=>rw[hx] at h;cases h
  |some m =>
   rw[hx] at h;simp only[zz0,ea] at h;split at h
   case isFalse=>cases h
   rename_i hd;simp only[v6] at h;simp only[fM,decide_eq_true_eq] at hd;have hb:UInt8.ofNat (48+(b.toNat-48))=b:=by
    rw[show 48+(b.toNat-48)=b.toNat by omega];simp
   by_cases hx0:x=[]
   ·subst hx0;simp only[ea,v6] at hx;subst hx;have hn:n=b.toNat-48:=by omega
    rw[Lib.decDigits_one (show n<10 by omega),hn,hb];rfl
   ·have hl:x.length+1≤k+1:=by simpa using hk
    have hz':¬ (x.head?=some 48):=fun e=>hz ⟨by rw[z8 hx0];exact e,by have:=List.length_pos_iff.2 hx0;simp;omega⟩;have ih:=yZ k x m (by omega) hx0 (fun e=>hz' e.1) hx;have hm:m≠0:=fun e=>by
     subst e;rw[Lib.decDigits_one (by omega)] at ih;rw[←ih] at hz';exact hz' rfl
    rw[qT (show ¬ n<10 by omega),show n / 10=m by omega,ih,show n%10=b.toNat-48 by omega,hb]
theorem UE{most:Nat}(hm:most≤18){w:List UInt8}{n:Nat}(h:r6 most w=some n):Lib.atoiAll w=.ok (n:Int)∧w.length≤most∧Lib.itoa (n:Int)=w∧n<10^most:=by
 simp only[r6] at h;split at h
 ·cases h
 rename_i hc;rw[not_or,not_or] at hc;obtain ⟨h1,h2,h3⟩:=hc;have hs:=J8 h (show w.length≤most by omega);have hb:n<9223372036854775808:=by
  have h5:10^most≤10^18:=Nat.pow_le_pow_right (by omega) hm;omega
 have hd:=yZ w.length w n (Z3 _) h1 h3 h;refine ⟨?_,by omega,by rw[Lib.itoa_nonneg];exact hd,hs⟩;cases w with
 |nil=>exact absurd rfl h1
 |cons c r =>
  have hdc:fM c=true:=by
   simp only[ea] at h;split at h
   ·assumption
   ·cases h
  simp only[fM,decide_eq_true_eq] at hdc;have hp:=Bn (c::r) 0 (by
   have:10^(c::r).length≤10^18:=Nat.pow_le_pow_right (by omega) (by omega);omega)
  rw[h] at hp;simp only[Lib.atoiAll];rw[if_neg (by omega),Lib.parseMag,if_neg (by simp),hp];simp only;rw[if_neg (by omega),if_neg (by omega),if_neg (by omega)]
theorem Kb{n:Int}(h:0≤n){c:UInt8}(hc:c.toNat<48):∀ b∈Lib.itoa n,b≠c:=by
 obtain ⟨m,rfl⟩:=Y1 h;rw[Lib.itoa_nonneg];have key:∀ (l:List UInt8) (acc:Nat),ea acc l≠none→∀ b∈l,b≠c:=by
  intro l
  induction l with
  |nil=>intro _ _ b hb;cases hb
  |cons x l ih =>
   intro acc hne b hb;simp only[ea] at hne;split at hne
   case isFalse=>exact absurd rfl hne
   rename_i hd;simp only[fM,decide_eq_true_eq] at hd;rcases zz3.1 hb with rfl | hb
   ·intro e;rw[e] at hd;omega
   ·exact ih _ hne b hb
 exact key _ 0 (by rw[(oT m).1];simp)
theorem Dl{α:Type}[Enc α](A:ab){l:List α}{esz:Nat}{k:Nat}(hs:Enc.sz α=esz)(h:k≤l.length):ji A esz none (some (.int .i64 (k:Int))) none (enc l)=some (enc (l.take k)):=by
 simp only[ji,iU,hs,if_true,iu,gM,Z2];rw[if_pos (by omega)];simp only[Option.isSome_none,Z5,false_and,if_false,Int.toNat_natCast,Int.toNat_zero,List.drop_zero];rw[List.map_take]
end Go.Abs
namespace Go.Abs
open Go Go.Shelf Go.Proofs
open Enc (enc)
theorem Ft{w:World}{D:aI}{x y:aj}{vs:List Value}(hv:al w D cG [enc x,enc y] vs):vs=[.string x.b,.string y.b]:=by
 have hv':al w D cG [.ak x.b,.ak y.b] vs:=hv;simp only[al] at hv';obtain ⟨v,rest,cs,rfl,h1,h2,v2,rest2,cs2,rfl,h3,h4,rfl⟩:=hv';rw[(fG (fg h1 h2)).1,(fG (fg h3 h4)).1]
theorem JB{P:Program}{ρ:Ren}(au:Lays.n104 P ρ)(hc:dM P (ρ.f 104)=true)(s p:aj):aQ P (ρ.f 104) [enc s,enc p] (.tuple [enc (aj.of (Lib.trimSuffix s.l p.l)),enc (Lib.hasSuffix s.l p.l)]):=by
 refine ⟨hc,fun w D vs hl hD hv =>?_⟩;have hsz:s.b.size≤maxLen:=by
  have hv':al w D cG [.ak s.b,.ak p.b] vs:=hv;simp only[al] at hv';obtain ⟨v,rest,cs,rfl,h1,h2,_⟩:=hv';exact (fG (fg h1 h2)).2
 rw[Ft hv];refine (Any.strings_CutSuffix au s.b p.b w (by unfold maxLen at hsz;omega)).mono ?_;rintro e w' ⟨rfl,rfl⟩;refine ⟨_,D,rfl,⟨[_,_],rfl,?_⟩,Go.RowKit.Below.refl _ w',hD,fun _ _ h _=>h⟩;simp only[al];refine ⟨_,_,[_],rfl,by simp[aW,I.isAgg,enc];rfl,?_,_,_,[_],rfl,by simp[aW,I.isAgg,enc];rfl,?_,rfl⟩
 ·show af _ _ _ (.ak _) _
  simp only[af];refine ⟨rfl,?_⟩
  show (Lib.trimSuffix s.l p.l).toArray.size≤maxLen
  have h1:(Lib.trimSuffix s.l p.l).length≤s.l.length:=by unfold Lib.trimSuffix;split <;>simp
  rw[aj.size] at hsz;simp only[List.size_toArray];omega
 ·show af _ _ _ (.bool _) _
  simp only[af];rfl
def gv(T:TypeId)(l:List UInt8):I:=match Lib.atoiAll l with
 | .ok v=>.tuple [enc v,.cM]
 | .range=>.tuple [enc (Lib.atoiSat l),.iface T .any]
 | _ =>.tuple [enc (0:Int),.iface T .any]
theorem Jz {P : Program} {ρ : Ren} (au : LaysC.n172 P ρ) (hc : dM P (ρ.f 172) = true) (g1 : P.globalNamed "strconv.ErrSyntax" = some (ρ.g 15)) (g2 : P.globalNamed "strconv.ErrRange" = some (ρ.g 16)) {T : TypeId} (hT : ρ.t 168 = T) (s : aj) (hs : s.l.length ≤ 281474976710656) : aQ P (ρ.f 172) [enc s] (gv T s.l) := by
 refine ⟨hc,fun w D vs hl hD hv =>?_⟩;subst hT;have hv':al w D cG [.ak s.b] vs:=hv;simp only[al] at hv';obtain ⟨v,rest,cs,rfl,h1,h2,rfl⟩:=hv';rw[(fG (fg h1 h2)).1];rw[←aj.size] at hs;obtain ⟨_, hv1, t1, p1, rfl⟩ := hl.rr (n := "strconv.ErrSyntax") (k := .ny) (by simp [mh]) g1
 obtain ⟨_, hv2, t2, p2, rfl⟩ := hl.rr (n := "strconv.ErrRange") (k := .ny) (by simp [mh]) g2
 have fail:∀ (n:Int) (w':World) (N:Nat),IntKind.i64.min≤n∧n≤IntKind.i64.max→Go.RowKit.Below w.heap.size w w' →
   ∃ v D',(Ending.returned (.tuple #[.int .i64 n,.iface (ρ.t 168) (.pointer (some ⟨N,0,none⟩))])=.returned v)∧aO w' D' cG (.tuple [enc n,.iface (ρ.t 168) .any]) v∧Go.RowKit.Below w.heap.size w w'∧(∀ b o,D' b o→b<w'.heap.size)∧∀ b o,D' b o→b<w.heap.size→D b o:=by
  intro n w' N hn hb;refine ⟨_,D,rfl,⟨[_,_],rfl,?_⟩,hb,fun b o hd=>Nat.lt_of_lt_of_le (hD b o hd) hb.size,fun _ _ h _=>h⟩;simp only[al];refine ⟨_,_,[_],rfl,by simp[aW,I.isAgg,enc];rfl,?_,_,_,[_],rfl,by simp[aW,I.isAgg];rfl,?_,rfl⟩
  ·show af _ _ _ (.int .i64 n) _
   simp only[af,true_and];exact hn
  ·simp only[af];exact ⟨_,[_],rfl,by simp[aW,I.isAgg];rfl,_,rfl,rfl⟩
 have hmin:IntKind.i64.min=-9223372036854775808:=by decide
 have hmax:IntKind.i64.max=9223372036854775807:=by decide
 cases hr:Lib.atoiAll s.b.data.toList with
 |ok n =>
  refine (Any.strconv_Atoi_ok au s.b (by omega) n hr w).mono ?_;rintro e w' ⟨rfl,hw⟩;have hb:Go.RowKit.Below w.heap.size w w':=by
   rcases hw with rfl | ⟨t,rfl⟩
   ·exact Go.RowKit.Below.refl _ _
   ·exact Lib.bytesWorld_below _ _ _
  have hn:=Lib.atoiAll_bounds hr;have e0:gv (ρ.t 168) s.l=.tuple [enc n,.cM]:=by
   show gv (ρ.t 168) s.b.data.toList=_
   simp only[gv,hr]
  rw[e0];refine ⟨_,D,rfl,⟨[_,_],rfl,?_⟩,hb,fun b o hd=>Nat.lt_of_lt_of_le (hD b o hd) hb.size,fun _ _ h _=>h⟩;simp only[al];refine ⟨_,_,[_],rfl,by simp[aW,I.isAgg,enc];rfl,?_,_,_,[_],rfl,by simp[aW,I.isAgg];rfl,?_,rfl⟩
  ·show af _ _ _ (.int .i64 n) _
   simp only[af,true_and];rw[hmin,hmax];omega
  ·simp only[af]
 |range =>
  have e0:gv (ρ.t 168) s.l=.tuple [enc (Lib.atoiSat s.l),.iface (ρ.t 168) .any]:=by
   show gv (ρ.t 168) s.b.data.toList=_
   simp only[gv,hr];rfl
  rw[e0];refine (Any.strconv_Atoi_range_var au s.b hs hr t2 p2 w hv2).mono ?_;rintro e w' ⟨N,rfl,_,_,hb⟩;have hn:=Lib.atoiSat_bounds s.b.data.toList;exact fail _ w' N (by rw[hmin,hmax];exact hn) hb
 | _ =>
  have e0:gv (ρ.t 168) s.l=.tuple [enc (0:Int),.iface (ρ.t 168) .any]:=by
   show gv (ρ.t 168) s.b.data.toList=_
   simp only[gv,hr]
  rw[e0];refine (Any.strconv_Atoi_syntax_var au s.b hs hr t1 p1 w hv1).mono ?_;rintro e w' ⟨N,rfl,_,_,hb⟩;exact fail 0 w' N (by rw[hmin,hmax];omega) hb
end Go.Abs
namespace Go.Abs
open Go Go.Shelf Go.Proofs
open Enc (enc)
def uS(n:Int):aj:=aj.of (Lib.itoa n)
open Go.Sort Go.RowKit in
theorem tz(w:World)(k:Nat)(os:Array Obj):Go.RowKit.Below w.heap.size w (grow (w.drewN k) os) :=
 ⟨rfl,rfl,rfl,by simp,fun i hi=>by rw[heap_grow_old _ _ (by simpa using hi)];rfl⟩
theorem JD{P:Program}{ρ:Ren}(au:LaysM.n171 P ρ)(hc:dM P (ρ.f 171)=true){g:Nat}(hg:P.globalNamed rG=some g)(n:Int):aQ P (ρ.f 171) [enc n] (enc (uS n)):=by
 refine ⟨hc,fun w D vs hl hD hv =>?_⟩;have hv':al w D cG [.int .i64 n] vs:=hv;simp only[al] at hv';obtain ⟨v,rest,cs,rfl,h1,h2,rfl⟩:=hv';obtain ⟨rfl,h3,h4⟩:=dk (fg h1 h2);have h3':-9223372036854775808≤n:=h3;have h4':n≤9223372036854775807:=h4;obtain ⟨_,htab,rfl⟩:=hl.rr (n:=rG) (k:=.sj) (by simp[mh]) hg;refine (Any.strconv_Itoa au n h3' h4' w htab).mono ?_;rintro e w' ⟨rfl,k,os,rfl⟩;refine ⟨_,D,rfl,⟨[.string ⟨(Lib.itoa n).toArray⟩],by simp[aW,I.isAgg,enc],?_⟩,tz w k os,fun b o hd=>Nat.lt_of_lt_of_le (hD b o hd) (tz w k os).size,fun _ _ h _=>h⟩;have hlen:=Lib.itoa_length_le n h3' h4'
 show af _ _ _ (.ak _) _
 simp only[af];refine ⟨rfl,?_⟩
 show (Lib.itoa n).toArray.size≤maxLen
 simp only[List.size_toArray,maxLen];omega
theorem wg{w:World}{D:aI}{s:aj}{p:List I}{vs:List Value}(hv:al w D cG (enc s::p) vs):∃ rest,vs=.string s.b::rest∧s.b.size≤maxLen∧al w D cG p rest:=by
 have hv':al w D cG (.ak s.b::p) vs:=hv;simp only[al] at hv';obtain ⟨v,rest,cs,rfl,h1,h2,h3⟩:=hv';obtain ⟨rfl,h4⟩:=fG (fg h1 h2);exact ⟨rest,rfl,h4,h3⟩
theorem CX{w:World}{D:aI}{E:aN}{l:List UInt8}(h:l.length≤maxLen):aO w D E (enc (aj.of l)) (.string ⟨l.toArray⟩):=by
 refine ⟨[.string ⟨l.toArray⟩],by simp[aW,I.isAgg,enc,aj.of],?_⟩
 show af _ _ _ (.ak _) _
 simp only[af];exact ⟨rfl,by show l.toArray.size≤maxLen;simpa using h⟩
theorem JC{P:Program}{ρ:Ren}(au:Lays.n137 P ρ)(hc:dM P (ρ.f 137)=true)(s:aj)(c:UInt8):aQ P (ρ.f 137) [enc s,.int .u8 c.toNat] (enc (Lib.indexByte s.l c)):=by
 refine ⟨hc,fun w D vs hl hD hv =>?_⟩;obtain ⟨rest,rfl,hsz,hv2⟩:=wg hv;simp only[al] at hv2;obtain ⟨v,rest2,cs,rfl,h1,h2,rfl⟩:=hv2;obtain ⟨rfl,_⟩:=dk (fg h1 h2);have key:=Any.strings_IndexByte au s.b (c.toNat:Int) w;have hcc:((c.toNat:Int)).toNat.toUInt8=c:=by simp
 rw[hcc] at key;refine Calls.mono key ?_;rintro e w' ⟨rfl,rfl⟩;refine ⟨_,D,rfl,⟨[_],by simp[aW,I.isAgg,enc];rfl,?_⟩,Go.RowKit.Below.refl _ w',hD,fun _ _ h _=>h⟩
 show af _ _ _ (.int .i64 (Lib.indexByte s.l c)) _
 simp only[af];refine ⟨rfl,?_⟩;have g1:=Lib.indexByte_ge s.l c;have g2:∀ l:List UInt8,Lib.indexByte l c≤l.length:=by
  intro l
  induction l with
  |nil=>simp[Lib.indexByte]
  |cons b l ih =>
   unfold Lib.indexByte
   (repeat' split) <;>simp only[Y4] <;>omega
 have g3:=g2 s.l;rw[aj.size] at hsz;have hmin:IntKind.i64.min=-9223372036854775808:=by decide
 have hmax:IntKind.i64.max=9223372036854775807:=by decide
 unfold maxLen at hsz;rw[hmin,hmax];omega
theorem JA{P:Program}{ρ:Ren}(au:LaysM.n316 P ρ)(hc:dM P (ρ.f 316)=true)(s:aj)(hs:s.l.length≤281474976710656):aQ P (ρ.f 316) [enc s] (enc s):=by
 refine ⟨hc,fun w D vs hl hD hv =>?_⟩;obtain ⟨rest,rfl,hsz,hv2⟩:=wg hv;simp only[al] at hv2;subst hv2;refine (Any.stringslite_Clone au s.b w (by rw[aj.size];exact hs)).mono ?_;rintro e w' ⟨rfl,hb⟩;refine ⟨_,D,rfl,⟨[_],by simp[aW,I.isAgg,enc];rfl,?_⟩,hb,fun b o hd=>Nat.lt_of_lt_of_le (hD b o hd) hb.size,fun _ _ h _=>h⟩
 show af _ _ _ (.ak s.b) _
 simp only[af,true_and];exact hsz
end Go.Abs
namespace Go.Abs
open Go
theorem tQ:∀ (k n:Nat),n<10^(k+1)→(Lib.decDigits n).length≤k+1
 |0,n,h=>by rw[Lib.decDigits_one (by omega)];simp
 |k+1,n,h=>by
  by_cases q:n<10
  ·rw[Lib.decDigits_one q];simp
  ·rw[qT q,Z1];have:=tQ k (n / 10) (by rw[Nat.pow_succ] at h;omega);simp only[Y4,X2];omega
theorem UD{k n:Nat}(h:n<10^(k+1)):r6 (k+1) (Lib.itoa (n:Int))=some n:=by
 rw[Lib.itoa_nonneg];obtain ⟨h1,h2,h3⟩:=oT n;have hl:=tQ k n h;simp only[r6];rw[if_neg,h1];rintro (h | h | ⟨h4,h5⟩)
 ·exact h2 h
 ·omega
 ·rw[h3 h4,Lib.decDigits_one (by omega)] at h5;simp at h5
theorem TK{n:Int}(h:0≤n):Lib.itoa n≠[]:=by
 obtain ⟨m,rfl⟩:=Y1 h;rw[Lib.itoa_nonneg];exact (oT m).2.1
theorem pt{k:Nat}{n:Int}(h:0≤n∧n<((10^(k+1):Nat):Int)):(Lib.itoa n).length≤k+1:=by
 obtain ⟨m,rfl⟩:=Y1 h.1;rw[Lib.itoa_nonneg];exact tQ k m (by omega)
end Go.Abs
namespace Go.Abs
open Go Go.RowKit
open Enc (enc)
def rF:Option Nat→Code
 |none=>.ret
 |some id=>.exit id
def ug:Option Nat→Exit
 |none=>.ret
 |some id=>.exit id
def oy(o:Obj)(A:ab)(os:List (Nat×ah)):Prop:=∀ n x,aJ (bL o os) n=some x→A.o n=some x∧x.only (aB (bL o os))=true∧x.ef=true
def CQ(o:Obj)(In:List (Nat×ah)→Prop)(Ix:Option Nat→List (Nat×ah)→Prop):Exit→ab→Prop
 | .normal,A=>∃ os,oy o A os∧In os
 | .ret,A=>∃ os,oy o A os∧Ix none os
 | .exit id,A=>∃ os,oy o A os∧Ix (some id) os
 |_,_=>False
section
variable {c:cd} {Q:Exit→ab→Prop}
theorem Tv{o:Obj}{A:ab}{os:List (Nat×ah)}(h:oy o A os)(o':Obj):∀ n x,aJ (bL o' os) n=some x→(A.aP 1999999 (.c8 o')).o n=some x∧x.only (aB (bL o' os))=true∧x.ef=true:=fun n x hx=>by
 have e:aB (bL o' os)=aB (bL o os):=by funext m;rw[jx,jx]
 rw[e];by_cases hn:n=1999999
 ·subst hn;rw[nQ,if_pos rfl,v6] at hx;subst hx;exact ⟨by simp[ab.aP],rfl,rfl⟩
 ·rw[nQ,if_neg hn] at hx;obtain ⟨h1,h2⟩:=h n x (by rw[nQ,if_neg hn];exact hx);exact ⟨by simp only[ab.aP,if_neg hn];exact h1,h2⟩
end
mutual
theorem mE{ρ:Nat→Nat}(h:∀ n,ρ n=n):∀ x:I,x.aR ρ=x
 | .agg fs | .tuple fs=>by simp only[I.aR];rw[kT h fs]
 | .slice _ es=>by simp only[I.aR];rw[kT h es]
 | .ref x=>by simp only[I.aR];rw[mE h x]
 | .func _ caps=>by simp only[I.aR];rw[kT h caps]
 | .iface _ v=>by simp only[I.aR];rw[mE h v]
 | .ptr _ _ | .own _ _ | .view _ _ _ _ _ | .mref _ | .cQ _=>by simp only[I.aR,h]
 | .cV ks vs=>by simp only[I.aR];rw[kT h ks,kT h vs]
 | .bool _ | .int _ _ | .ak _ | .nilp | .c7 | .cM | .any | .raw _ | .nils _ | .c0 _ | .undef | .cT=>by simp only[I.aR]
theorem kT{ρ:Nat→Nat}(h:∀ n,ρ n=n):∀ xs:List I,I.cS ρ xs=xs
 | []=>rfl
 |x::xs=>by simp only[I.cS];rw[mE h x,kT h xs]
end
theorem ah.mE{ρ:Nat→Nat}(h:∀ n,ρ n=n):∀ x:ah,x.aR ρ=x
 | .box x=>by simp only[ah.aR,Abs.mE h]
 | .bC _ _ es=>by simp only[ah.aR,kT h]
 | .c8 _=>rfl
 | .dJ _ _=>rfl
 | .bZ _ _=>by simp only[ah.aR,kT h]
 | .it _ _ _ _=>by simp only[ah.aR,kT h]
theorem Wj(os:List (Nat×ah)):cX [] os=os:=by
 simp only[cX];have:(fun q:Nat×ah=>(bp [] q.1,q.2.aR (bp [])))=id:=by
  funext q
  rw[ah.mE (ρ:=bp []) (fun n=>rfl)];rfl
 rw[this,List.map_id]
theorem AF(a b:List (Nat×ah))(n:Nat):aJ (a++b) n=match aJ a n with
  |some x=>some x
  |none=>aJ b n:=by
 induction a with
 |nil=>rfl
 |cons q a ih =>
  obtain ⟨k,v⟩:=q;simp only[Y3,aJ];split
  ·rfl
  ·exact ih
theorem eY.none{os os':List (Nat×ah)}(h:eY os os'){n:Nat}(hn:n<1000000):aJ os' n=none:=by
 cases hx:aJ os' n with
 |none=>rfl
 |some x =>
  have h1:aB os' n=true:=by simp[aB,hx]
  rw[h.same] at h1;exact absurd (h.lB n h1) (by omega)
theorem bw.slots{ts ts':List (Nat×I)}{os os':List (Nat×ah)}(h1:cj ts ts')(h2:∀ n,aJ os n=aJ os' n):bw (ay ts os) (ay ts' os'):=by
 have e:ay ts os=ay ts os':=by
  simp only[ay];congr 1;funext n;exact h2 n
 rw[e];rintro c a w ⟨D,E,hs⟩;refine ⟨D,E,hs.sz,hs.eb,fun t =>?_,hs.de,hs.cH,hs.cJ,hs.bx,hs.ct,hs.dv,hs.eB,hs.cq,hs.eF,hs.eV⟩;rcases wi h1 t with h | h
 ·simp only[ay];rw[h];simp[aO]
 ·have:=hs.dx t;simp only[ay] at *;rw[h];exact this
theorem xf{os osk os2 ow:List (Nat×ah)}{ts:List (Nat×I)}(h1:eY os osk)(h2:eY os os2)(how:∀ m,aB ow m=true→m<1000000):ay ts (cX [] os2++(ow++osk))=ay ts (ow++os2):=by
 simp only[ay,Wj]
 congr 1
 funext n
 simp only[AF];cases hw:aJ ow n with
 |none =>
  simp only;cases h3:aJ os2 n with
  |some x=>rfl
  |none =>
   simp only;cases h4:aJ osk n with
   |none=>rfl
   |some x =>
    have h5:aB osk n=true:=by simp[aB,h4]
    rw[h1.same,←h2.same] at h5;simp[aB,h3] at h5
 |some x =>
  simp only;rw[h2.none (how n (by simp[aB,hw]))]
theorem eJ.ju{os osk ow:List (Nat×ah)}(h1:eY os osk)(how:∀ m,aB ow m=true→m<1000000):eJ [] osk (ow++osk):=by
 refine ⟨fun m x hx =>?_,fun m m' _ _ h=>h⟩;have hm:aB osk m=true:=by simp[aB,hx]
 have hg:=h1.lB m (by rw[←h1.same];exact hm);obtain ⟨k1,k2⟩:=h1.ok m x hx;refine ⟨?_,k1,k2⟩;rw[ah.mE (ρ:=bp []) (fun n=>rfl)];simp only[bp,AF];cases hw:aJ ow m with
 |none=>exact hx
 |some y=>have:=how m (by simp[aB,hw]);omega
theorem dC.ju{os osk os2 os0:List (Nat×ah)}{r:I}(h1:eY os osk)(h2:eY os os2)(hr:r.bu=true):dC false [] osk os0 r os2:=by
 refine ⟨fun m x hx=>⟨(h2.ok m x hx).1,(h2.ok m x hx).2,fun h=>by cases h⟩,fun m m' _ _ h=>h,fun m hm=>by rw[h2.same,←h1.same];exact hm,fun m h3 h4 =>?_,lJ _ r hr,fun h=>by cases h⟩;rw[h2.same,←h1.same,h4] at h3;cases h3
theorem aX.Xo{P:Program}{Y:Value→List I→List (Nat×ah)→bY→Prop}{K:ab→Prop}{v:Value}{vs:List I}{dst:Option Nat}{rest:List ar}{ts:List (Nat×I)}{os osk ow:List (Nat×ah)}{In Ix:List (Nat×ah)→Prop}
  (hY:Y v vs osk (fun r os2=>(r=.bool true∧In os2)∨(r=.bool false∧Ix os2))) (hk:eY os osk) (hi:∀ os',In os'→eY os os') (hx:∀ os',Ix os'→eY os os') (hcl:I.b9 vs=true) (how:∀ m,aB ow m=true→m<1000000)
  (h1:∀ os2,In os2→aX P Y false K (ao rest ((ay ts (ow++os2)).aM dst (.bool true)))) (h2:∀ os2,Ix os2→aX P Y false K (ao rest ((ay ts (ow++os2)).aM dst (.bool false)))) :
  aX P Y false K (.kE v vs dst rest (ay ts (ow++osk))):=by
 refine .sW osk vs _ rfl hY (eJ.ju hk how) (xc vs hcl) ?_ ?_
 ·rintro r os' (⟨rfl,h⟩ | ⟨rfl,h⟩)
  ·exact dC.ju hk (hi _ h) rfl
  ·exact dC.ju hk (hx _ h) rfl
 ·rintro r os' (⟨rfl,h⟩ | ⟨rfl,h⟩)
  ·rw[xf hk (hi _ h) how];exact h1 os' h
  ·rw[xf hk (hx _ h) how];exact h2 os' h
theorem Hf(A:ab)(d:Option Nat)(args:List I)(rest:List ar)(v:Value):oQ A d args rest (.raw v)=.kE v args d rest A:=rfl
end Go.Abs
namespace Go.Proofs.YtoffnnjbplgnaaaGreatDoor
open Go Go.Abs
open Go.Abs.Enc (enc)
structure Item where
 bd:Int
 no:Int
 deriving DecidableEq,Inhabited
instance:Enc Item where
 enc x:=.agg [.int .i64 x.bd,.int .i64 x.no]
 sz:=2
 aK:=.eG [.one,.one]
 gz:=true
 done _:=rfl
 size _:=by simp[I.size,I.sizes]
 ir _:=by simp[I.aK,I.cI]
 agg _:=rfl
structure ai where
 bd:Int
 no:Int
 kind:Int
 dZ:Int
 known:Int
 eU:Int
 fh:Int
 text:List UInt8
 deriving DecidableEq,Inhabited
def ai.bA(r:ai):Item:=⟨r.bd,r.no⟩
def ai.fU(r:ai):Item:=⟨r.eU,r.fh⟩
instance:Enc ai where
 enc r:=.agg [enc r.bA,.int .i64 r.kind,.int .i64 r.dZ,.int .i64 r.known,enc r.fU,enc (aj.of r.text)]
 sz:=8
 aK:=.eG [.eG [.one,.one],.one,.one,.one,.eG [.one,.one],.one]
 gz:=true
 done e:=by simp only[I.done,I.iD,Enc.done,Bool.and_self]
 size e:=by simp only[I.size,I.sizes,ly];rfl
 ir e:=by simp only[I.aK,I.cI,eA];rfl
 agg _:=rfl
structure dh where
 bJ:List UInt8
 eh:List UInt8
 deriving DecidableEq,Inhabited
instance:Enc dh where
 enc r:=.agg [enc (aj.of r.bJ),enc (aj.of r.eh)]
 sz:=2
 aK:=.eG [.one,.one]
 gz:=true
 done e:=by simp only[I.done,I.iD,Enc.done,Bool.and_self]
 size e:=by simp only[I.size,I.sizes,ly];rfl
 ir e:=by simp only[I.aK,I.cI,eA];rfl
 agg _:=rfl
structure db where
 dn:dh
 copy:dh
 deriving DecidableEq,Inhabited
instance:Enc db where
 enc r:=.agg [enc r.dn,enc r.copy]
 sz:=4
 aK:=.eG [.eG [.one,.one],.eG [.one,.one]]
 gz:=true
 done e:=by simp only[I.done,I.iD,Enc.done,Bool.and_self]
 size e:=by simp only[I.size,I.sizes,ly];rfl
 ir e:=by simp only[I.aK,I.cI,eA];rfl
 agg _:=rfl
structure iK where
 l:List ai
 deriving DecidableEq,Inhabited
instance:Enc iK where
 enc b:=.agg [enc b.l]
 sz:=1
 aK:=.eG [.one]
 gz:=true
 done e:=by simp only[I.done,I.iD,Enc.done,Bool.and_self]
 size e:=by simp only[I.size,I.sizes,ly];rfl
 ir e:=by simp only[I.aK,I.cI,eA];rfl
 agg _:=rfl
theorem pJ{fs:List I}{f off:Nat}{v:I}(h1:f<fs.length)(h:I.sizes (fs.take f)=off):fE fs f off v=some v:=by simp[fE,h,h1]
theorem KD:Enc.sz Item=2:=rfl
theorem KF:Enc.sz aj=1:=rfl
theorem KE:Enc.sz dh=2:=rfl
theorem A7(x:I)(fs:List I)(v:I):fE (x::fs) 0 0 v=some v:=pJ (by simp) (by simp[I.sizes])
theorem A4(a b:Item)(n1 n2 n3:Int)(s:aj)(v:I) :
  (fE [enc a,.int .i64 n1,.int .i64 n2,.int .i64 n3,enc b,enc s] 1 2 v=some v)∧(fE [enc a,.int .i64 n1,.int .i64 n2,.int .i64 n3,enc b,enc s] 2 3 v=some v)∧(fE [enc a,.int .i64 n1,.int .i64 n2,.int .i64 n3,enc b,enc s] 3 4 v=some v) ∧
  (fE [enc a,.int .i64 n1,.int .i64 n2,.int .i64 n3,enc b,enc s] 4 5 v=some v)∧(fE [enc a,.int .i64 n1,.int .i64 n2,.int .i64 n3,enc b,enc s] 5 7 v=some v):=by
 refine ⟨?_,?_,?_,?_,?_⟩ <;>refine pJ (t8 rfl) ?_ <;>simp[I.sizes,I.size,ly,KD]
theorem A2(n1 n2:Int)(v:I):fE [.int .i64 n1,.int .i64 n2] 1 1 v=some v:=pJ (t8 rfl) (by simp[I.sizes,I.size])
theorem A6(a b:aj)(v:I):fE [enc a,enc b] 1 1 v=some v:=pJ (t8 rfl) (by simp[I.sizes,ly,KF])
theorem A5(a b:dh)(v:I):fE [enc a,enc b] 1 2 v=some v:=pJ (t8 rfl) (by simp[I.sizes,ly,KE])
theorem DK :
  (∀ x:Item,(enc x).cZ=some [.int .i64 x.bd,.int .i64 x.no])∧(∀ r:ai,(enc r).cZ=some [enc r.bA,.int .i64 r.kind,.int .i64 r.dZ,.int .i64 r.known,enc r.fU,enc (aj.of r.text)])∧(∀ r:dh,(enc r).cZ=some [enc (aj.of r.bJ),enc (aj.of r.eh)]) ∧
  (∀ r:db,(enc r).cZ=some [enc r.dn,enc r.copy])∧(∀ b:iK,(enc b).cZ=some [enc b.l])∧(type_of% @A7)∧(type_of% @A4)∧(type_of% @A2)∧(type_of% @A6)∧(type_of% @A5) ∧
  (∀ x:Item,bU (some 2) (enc x)=true)∧(∀ x:ai,bU (some 8) (enc x)=true)∧(∀ x:dh,bU (some 2) (enc x)=true)∧(∀ x:db,bU (some 4) (enc x)=true)∧(∀ x:iK,bU (some 1) (enc x)=true)∧(∀ x:aj,bU none (enc x)=true)∧(∀ x:List ai,bU none (enc x)=true) ∧
  (∀ r:ai,r.bA.bd=r.bd)∧(∀ r:ai,r.bA.no=r.no)∧(∀ r:ai,r.fU.bd=r.eU)∧(∀ r:ai,r.fU.no=r.fh) ∧
  (∀ (fs:List I) x,(x::fs)[0]?=some x)∧(∀ (fs:List I) x n,(x::fs)[n+1]?=fs[n]?)∧(∀ (fs:List I) x,(x::fs)[1]?=fs[0]?)∧(∀ (fs:List I) x,(x::fs)[2]?=fs[1]?)∧(∀ (fs:List I) x,(x::fs)[3]?=fs[2]?)∧(∀ (fs:List I) x,(x::fs)[4]?=fs[3]?)∧(∀ (fs:List I) x,(x::fs)[5]?=fs[4]?) :=
 ⟨fun _=>rfl,fun _=>rfl,fun _=>rfl,fun _=>rfl,fun _=>rfl,A7,A4,A2,A6,A5,fun _=>by rw[ib];rfl,fun _=>by rw[ib];rfl,fun _=>by rw[ib];rfl,fun _=>by rw[ib];rfl,fun _=>by rw[ib];rfl,fun _=>rfl,fun _=>rfl,
  fun _=>rfl,fun _=>rfl,fun _=>rfl,fun _=>rfl,fun _ _=>rfl,fun _ _ _=>rfl,fun _ _=>rfl,fun _ _=>rfl,fun _ _=>rfl,fun _ _=>rfl,fun _ _=>rfl⟩
theorem ud(x y:Item):bP (.aV [.i .i64,.i .i64]) (enc x) (enc y)=some (decide (x=y)):=by
 show bP (.aV [.i .i64,.i .i64]) (.agg [.int .i64 x.bd,.int .i64 x.no]) (.agg [.int .i64 y.bd,.int .i64 y.no])=_
 have:x=y↔x.bd=y.bd∧x.no=y.no:=by cases x;cases y;simp
 simp[bP,gh,hJ,this];rfl
theorem zg(x y:aj):bP .s (enc x) (enc y)=some (decide (x=y)):=by
 show bP .s (.ak x.b) (.ak y.b)=_
 simp only[bP];exact congrArg some (wh _ _)
theorem ze(x y:ai):bP (.aV [.aV [.i .i64,.i .i64],.i .i64,.i .i64,.i .i64,.aV [.i .i64,.i .i64],.s]) (enc x) (enc y)=some (decide (x=y)):=by
 show bP (.aV [.aV [.i .i64,.i .i64],.i .i64,.i .i64,.i .i64,.aV [.i .i64,.i .i64],.s]) (.agg [enc x.bA,.int .i64 x.kind,.int .i64 x.dZ,.int .i64 x.known,enc x.fU,enc (aj.of x.text)]) (.agg [enc y.bA,.int .i64 y.kind,.int .i64 y.dZ,.int .i64 y.known,enc y.fU,enc (aj.of y.text)])=_
 have:x=y↔x.bA=y.bA∧x.kind=y.kind∧x.dZ=y.dZ∧x.known=y.known∧x.fU=y.fU∧x.text=y.text:=by cases x;cases y;simp[ai.bA,ai.fU,and_assoc]
 rw[bP];simp only[gh,ud,zg,aj.r9];simp[bP,hJ,this];rfl
theorem ue(x y:dh):bP (.aV [.s,.s]) (enc x) (enc y)=some (decide (x=y)):=by
 show bP (.aV [.s,.s]) (.agg [enc (aj.of x.bJ),enc (aj.of x.eh)]) (.agg [enc (aj.of y.bJ),enc (aj.of y.eh)])=_
 have:x=y↔x.bJ=y.bJ∧x.eh=y.eh:=by cases x;cases y;simp
 rw[bP];simp only[gh,zg,aj.r9];simp[hJ,this]
theorem zf(x y:db):bP (.aV [.aV [.s,.s],.aV [.s,.s]]) (enc x) (enc y)=some (decide (x=y)):=by
 show bP (.aV [.aV [.s,.s],.aV [.s,.s]]) (.agg [enc x.dn,enc x.copy]) (.agg [enc y.dn,enc y.copy])=_
 have:x=y↔x.dn=y.dn∧x.copy=y.copy:=by cases x;cases y;simp
 rw[bP];simp only[gh,ue];simp[hJ,this]
theorem Bq:(∀ r:ai,(enc r).at [0,0]=some (.int .i64 r.bd))∧(∀ r:ai,(enc r).at [0,1]=some (.int .i64 r.no))∧(∀ r:ai,(enc r).at [4,0]=some (.int .i64 r.eU))∧(∀ r:ai,(enc r).at [4,1]=some (.int .i64 r.fh))∧(∀ zs,fy zs []=some zs) ∧
  (∀ (a b:Nat) (l:List Nat),[a]++(b::l)=a::b::l)∧(∀ (a b c:Nat) (l:List Nat),[a,b]++(c::l)=a::b::c::l) :=
 ⟨fun _=>rfl,fun _=>rfl,fun _=>rfl,fun _=>rfl,fun _=>rfl,fun _ _ _=>rfl,fun _ _ _ _=>rfl⟩
theorem aD:(type_of% @Bq)∧(type_of% @DK)∧(∀ {α:Type} [Enc α] (aA:Bool) (A:ab) (x:α),ba aA A (enc x)=some (enc x))∧(∀ {α:Type} [Enc α] (x:α),(enc x).cw=true)∧(type_of% @ud)∧(type_of% @ze)∧(type_of% @ue)∧(type_of% @zf)∧(type_of% @yJ)∧(type_of% @iJ)∧(type_of% @aZ) :=
 ⟨Bq,DK,@iT,@fe,ud,ze,ue,zf,yJ,iJ,aZ⟩
theorem eO{i n:Nat}(h:i<n):decide ((i:Int)<(n:Int))=true:=by simp;omega
theorem fm{i n:Nat}(h:¬ i<n):decide ((i:Int)<(n:Int))=false:=by simp;omega
theorem eE{i:Nat}(h:i<9223372036854775807):IntKind.i64.wrap ((i:Int)+1)=((i+1:Nat):Int):=by rw[dB _ (by omega) (by omega)];rfl
def dQ(lo hi n:Int):Bool:=decide (lo≤n)&&decide (n≤hi)
theorem lS(n lo hi:Int):aQ Tryz.prog 128 [enc n,enc lo,enc hi] (enc (dQ lo hi n)):=by
 refine aQ.bM Tryz.func128 Ga Ho IE (t8 rfl) (fun hwf W0 bF E1 =>?_);simp only[xw,BG,bB,Z8,Nat.reduceAdd];have R:=aD
 repeat' ((first |(with_reducible refine .guard (fun hb =>?_) (fun hb =>?_) <;>try simp only[hb])|refine U.aG (by decide +kernel) rfl fun K hK =>?_|(refine .aE [0,1,2,6] hK ?_;clear hK K)|(with_reducible refine .done (hK _ ?_);clear hK K)|refine U.of rfl ?_|(with_reducible refine aw.aF (fun h =>?_) (fun h =>?_) <;>try simp only[h])) <;>try simp only[aH,R,simprocAttr])
 all_goals clear R
 all_goals (simp at *;simp_all[dQ])
 all_goals omega
theorem lp(n lo hi:Int):aQ Tryz.prog 82 [enc n,enc lo,enc hi] (enc (dQ lo hi n)):=by
 refine aQ.bM Tryz.func82 GY H6 Jn (t8 rfl) (fun hwf W0 bF E1 =>?_);simp only[yh,Cn,bB,Z8,Nat.reduceAdd];have R:=aD
 repeat' ((first |(with_reducible refine .guard (fun hb =>?_) (fun hb =>?_) <;>try simp only[hb])|refine U.aG (by decide +kernel) rfl fun K hK =>?_|(refine .aE [0,1,2,6] hK ?_;clear hK K)|(with_reducible refine .done (hK _ ?_);clear hK K)|refine U.of rfl ?_|(with_reducible refine aw.aF (fun h =>?_) (fun h =>?_) <;>try simp only[h])) <;>try simp only[aH,R,simprocAttr])
 all_goals clear R
 all_goals (simp at *;simp_all[dQ])
 all_goals omega
theorem wF(n:Int):aQ Tryz.prog 105 [enc n] (enc (dQ 0 100000 n)):=by
 refine aQ.bM Tryz.func105 F5 Hl IA (t8 rfl) (fun hwf W0 bF E1 =>?_);simp only[xt,BC,bB];have R:=aD
 repeat' ((first |refine U.aG (by decide +kernel) rfl fun K hK =>?_|refine .flat _ (lS n 0 100000) rfl ?_|(refine .aE [0,2] hK ?_;clear hK K)|(with_reducible refine .done (hK _ ?_);clear hK K)|refine U.of rfl ?_|(with_reducible refine aw.aF (fun h =>?_) (fun h =>?_) <;>try simp only[h])) <;>try simp only[aH,R,simprocAttr])
 all_goals clear R
theorem wS(n:Int):aQ Tryz.prog 79 [enc n] (enc (dQ 0 1000002 n)):=by
 refine aQ.bM Tryz.func79 GV H3 Jk (t8 rfl) (fun hwf W0 bF E1 =>?_);simp only[yf,Ck,bB];have R:=aD
 repeat' ((first |refine U.aG (by decide +kernel) rfl fun K hK =>?_|refine .flat _ (lS n 0 1000002) rfl ?_|(refine .aE [0,2] hK ?_;clear hK K)|(with_reducible refine .done (hK _ ?_);clear hK K)|refine U.of rfl ?_|(with_reducible refine aw.aF (fun h =>?_) (fun h =>?_) <;>try simp only[h])) <;>try simp only[aH,R,simprocAttr])
 all_goals clear R
def ik(x:Item):Bool:=dQ 0 5 x.bd&&dQ 0 9999 x.no
theorem wH(x:Item):aQ Tryz.prog 129 [enc x] (enc (ik x)):=by
 refine aQ.bM Tryz.func129 Gb Hp IF (t8 rfl) (fun hwf W0 bF E1 =>?_);simp only[xy,BH,bB];cases q:dQ 0 5 x.bd
 ·simp only[ik,q,Bool.false_and];have R:=y6 @q aD
  repeat' ((first |(with_reducible refine .guard (fun hb =>?_) (fun hb =>?_) <;>try simp only[hb])|refine U.aG (by decide +kernel) rfl fun K hK =>?_|refine .flat _ (lS x.bd 0 5) rfl ?_|refine .flat _ (lS x.no 0 9999) rfl ?_|(refine .aE [0,1,2] hK ?_;clear hK K)|(with_reducible refine .done (hK _ ?_);clear hK K)|refine U.of rfl ?_|(with_reducible refine aw.aF (fun h =>?_) (fun h =>?_) <;>try simp only[h])) <;>try simp only[aH,R,simprocAttr])
  all_goals clear R
 ·simp only[ik,q,Bool.true_and];have R:=y6 @q aD
  repeat' ((first |(with_reducible refine .guard (fun hb =>?_) (fun hb =>?_) <;>try simp only[hb])|refine U.aG (by decide +kernel) rfl fun K hK =>?_|refine .flat _ (lS x.bd 0 5) rfl ?_|refine .flat _ (lS x.no 0 9999) rfl ?_|(refine .aE [0,1,2] hK ?_;clear hK K)|(with_reducible refine .done (hK _ ?_);clear hK K)|refine U.of rfl ?_|(with_reducible refine aw.aF (fun h =>?_) (fun h =>?_) <;>try simp only[h])) <;>try simp only[aH,R,simprocAttr])
  all_goals clear R
theorem wU(x:Item):aQ Tryz.prog 85 [enc x] (enc (ik x)):=by
 refine aQ.bM Tryz.func85 G1 H9 Jq (t8 rfl) (fun hwf W0 bF E1 =>?_);simp only[c85,Cq,bB];cases q:dQ 0 5 x.bd
 ·simp only[ik,q,Bool.false_and];have R:=y6 @q aD
  repeat' ((first |(with_reducible refine .guard (fun hb =>?_) (fun hb =>?_) <;>try simp only[hb])|refine U.aG (by decide +kernel) rfl fun K hK =>?_|refine .flat _ (lp x.bd 0 5) rfl ?_|refine .flat _ (lp x.no 0 9999) rfl ?_|(refine .aE [0,1,2] hK ?_;clear hK K)|(with_reducible refine .done (hK _ ?_);clear hK K)|refine U.of rfl ?_|(with_reducible refine aw.aF (fun h =>?_) (fun h =>?_) <;>try simp only[h])) <;>try simp only[aH,R,simprocAttr])
  all_goals clear R
 ·simp only[ik,q,Bool.true_and];have R:=y6 @q aD
  repeat' ((first |(with_reducible refine .guard (fun hb =>?_) (fun hb =>?_) <;>try simp only[hb])|refine U.aG (by decide +kernel) rfl fun K hK =>?_|refine .flat _ (lp x.bd 0 5) rfl ?_|refine .flat _ (lp x.no 0 9999) rfl ?_|(refine .aE [0,1,2] hK ?_;clear hK K)|(with_reducible refine .done (hK _ ?_);clear hK K)|refine U.of rfl ?_|(with_reducible refine aw.aF (fun h =>?_) (fun h =>?_) <;>try simp only[h])) <;>try simp only[aH,R,simprocAttr])
  all_goals clear R
end Go.Proofs.YtoffnnjbplgnaaaGreatDoor
namespace Go.Proofs.YtoffnnjbplgnaaaGreatDoor
open Go Go.Abs Go.Shelf
open Go.Abs.Enc (enc)
def TZ:Go.Shelf.Ren:=⟨fun | 104=>125 | 211=>153 | 207=>169 | n=>n,fun | 9=>9 | 4=>4 | 24=>42 | 3=>3 | n=>n,fun | n=>n⟩
theorem TY:Go.Proofs.Lays.n104 Tryz.prog TZ := {
 mixed:=by kernel_rfl
 f104:=Tryz.func125.trans (congrArg some (by kernel_rfl))
 f207:=Tryz.func169.trans (congrArg some (by kernel_rfl))
 f211:=Tryz.func153.trans (congrArg some (by kernel_rfl))
 t3:=Tryz.underlying3
 a3:=Tryz.isAgg3
 z3:=Tryz.sizeOf3
 v3:=Tryz.zeroValue3
 t4:=Tryz.underlying4
 a4:=Tryz.isAgg4
 z4:=Tryz.sizeOf4
 v4:=Tryz.zeroValue4
 t9:=Tryz.underlying9
 a9:=Tryz.isAgg9
 z9:=Tryz.sizeOf9
 v9:=Tryz.zeroValue9
 t24:=Tryz.underlying42
 a24:=Tryz.isAgg42
 z24:=Tryz.sizeOf42
 v24:=Tryz.zeroValue42 }
def Av:Go.Shelf.Ren:=⟨fun | 137=>123 | 217=>152 | 266=>168 | n=>n,fun | 9=>9 | 5=>5 | 3=>3 | n=>n,fun | n=>n⟩
theorem Au:Go.Proofs.Lays.n137 Tryz.prog Av := {
 mixed:=by kernel_rfl
 f137:=Tryz.func123.trans (congrArg some (by kernel_rfl))
 f217:=Tryz.func152.trans (congrArg some (by kernel_rfl))
 f266:=Tryz.func168.trans (congrArg some (by kernel_rfl))
 t3:=Tryz.underlying3
 a3:=Tryz.isAgg3
 z3:=Tryz.sizeOf3
 v3:=Tryz.zeroValue3
 t5:=Tryz.underlying5
 a5:=Tryz.isAgg5
 z5:=Tryz.sizeOf5
 v5:=Tryz.zeroValue5
 t9:=Tryz.underlying9
 a9:=Tryz.isAgg9
 z9:=Tryz.sizeOf9
 v9:=Tryz.zeroValue9 }
def TU:Go.Shelf.Ren:=⟨fun | 172=>155 | 244=>171 | 245=>172 | 247=>189 | 279=>190 | 280=>191 | 281=>192 | 282=>193 | 287=>207 | 316=>127 | 171=>132 | 205=>208 | 321=>215 | 322=>216 | 243=>158 | 246=>174 | 283=>195 | 284=>196 | 285=>197 | 286=>198 | 129=>185 | 317=>209 | 318=>210 | 319=>211 | 320=>212 | 337=>217 | 338=>218 | n=>n,fun | 9=>9 | 3=>3 | 75=>199 | 76=>200 | 4=>4 | 5=>5 | 167=>231 | 37=>45 | 0=>0 | 85=>232 | 2=>2 | 168=>234 | 53=>227 | 175=>250 | 46=>208 | 210=>253 | 127=>202 | 145=>266 | 143=>264 | 21=>21 | 171=>239 | 173=>241 | 212=>256 | 51=>225 | 20=>20 | 213=>257 | 232=>267 | 233=>268 | 80=>206 | n=>n,fun | 15=>1 | 16=>2 | 17=>3 | 18=>4 | 19=>5 | n=>n⟩
theorem TT:Go.Proofs.LaysC.n172 Tryz.prog TU := {
 mixed:=by kernel_rfl
 f129:=Tryz.func185.trans (congrArg some (by kernel_rfl))
 f171:=Tryz.func132.trans (congrArg some (by kernel_rfl))
 f172:=Tryz.func155.trans (congrArg some (by kernel_rfl))
 f205:=Tryz.func208.trans (congrArg some (by kernel_rfl))
 f243:=Tryz.func158.trans (congrArg some (by kernel_rfl))
 f244:=Tryz.func171.trans (congrArg some (by kernel_rfl))
 f245:=Tryz.func172.trans (congrArg some (by kernel_rfl))
 f246:=Tryz.func174.trans (congrArg some (by kernel_rfl))
 f247:=Tryz.func189.trans (congrArg some (by kernel_rfl))
 f279:=Tryz.func190.trans (congrArg some (by kernel_rfl))
 f280:=Tryz.func191.trans (congrArg some (by kernel_rfl))
 f281:=Tryz.func192.trans (congrArg some (by kernel_rfl))
 f282:=Tryz.func193.trans (congrArg some (by kernel_rfl))
 f283:=Tryz.func195.trans (congrArg some (by kernel_rfl))
 f284:=Tryz.func196.trans (congrArg some (by kernel_rfl))
 f285:=Tryz.func197.trans (congrArg some (by kernel_rfl))
 f286:=Tryz.func198.trans (congrArg some (by kernel_rfl))
 f287:=Tryz.func207.trans (congrArg some (by kernel_rfl))
 f316:=Tryz.func127.trans (congrArg some (by kernel_rfl))
 f317:=Tryz.func209.trans (congrArg some (by kernel_rfl))
 f318:=Tryz.func210.trans (congrArg some (by kernel_rfl))
 f319:=Tryz.func211.trans (congrArg some (by kernel_rfl))
 f320:=Tryz.func212.trans (congrArg some (by kernel_rfl))
 f321:=Tryz.func215.trans (congrArg some (by kernel_rfl))
 f322:=Tryz.func216.trans (congrArg some (by kernel_rfl))
 f337:=Tryz.func217.trans (congrArg some (by kernel_rfl))
 f338:=Tryz.func218.trans (congrArg some (by kernel_rfl))
 t0:=Tryz.underlying0
 a0:=Tryz.isAgg0
 z0:=Tryz.sizeOf0
 v0:=Tryz.zeroValue0
 t2:=Tryz.underlying2
 a2:=Tryz.isAgg2
 z2:=Tryz.sizeOf2
 v2:=Tryz.zeroValue2
 t3:=Tryz.underlying3
 a3:=Tryz.isAgg3
 z3:=Tryz.sizeOf3
 v3:=Tryz.zeroValue3
 t4:=Tryz.underlying4
 a4:=Tryz.isAgg4
 z4:=Tryz.sizeOf4
 v4:=Tryz.zeroValue4
 t5:=Tryz.underlying5
 a5:=Tryz.isAgg5
 z5:=Tryz.sizeOf5
 v5:=Tryz.zeroValue5
 t9:=Tryz.underlying9
 a9:=Tryz.isAgg9
 z9:=Tryz.sizeOf9
 v9:=Tryz.zeroValue9
 t20:=Tryz.underlying20
 a20:=Tryz.isAgg20
 z20:=Tryz.sizeOf20
 v20:=Tryz.zeroValue20
 t21:=Tryz.underlying21
 a21:=Tryz.isAgg21
 z21:=Tryz.sizeOf21
 v21:=Tryz.zeroValue21
 t37:=Tryz.underlying45
 a37:=Tryz.isAgg45
 z37:=Tryz.sizeOf45
 v37:=Tryz.zeroValue45
 t46:=Tryz.underlying208
 a46:=Tryz.isAgg208
 z46:=Tryz.sizeOf208
 v46:=Tryz.zeroValue208
 t51:=Tryz.underlying225
 a51:=Tryz.isAgg225
 z51:=Tryz.sizeOf225
 v51:=Tryz.zeroValue225
 t53:=Tryz.underlying227
 a53:=Tryz.isAgg227
 z53:=Tryz.sizeOf227
 v53:=Tryz.zeroValue227
 t75:=Tryz.underlying199
 a75:=Tryz.isAgg199
 z75:=Tryz.sizeOf199
 v75:=Tryz.zeroValue199
 t76:=Tryz.underlying200
 a76:=Tryz.isAgg200
 z76:=Tryz.sizeOf200
 v76:=Tryz.zeroValue200
 t85:=Tryz.underlying232
 a85:=Tryz.isAgg232
 z85:=Tryz.sizeOf232
 v85:=Tryz.zeroValue232
 t127:=Tryz.underlying202
 a127:=Tryz.isAgg202
 z127:=Tryz.sizeOf202
 v127:=Tryz.zeroValue202
 t143:=Tryz.underlying264
 a143:=Tryz.isAgg264
 z143:=Tryz.sizeOf264
 v143:=Tryz.zeroValue264
 t145:=Tryz.underlying266
 a145:=Tryz.isAgg266
 z145:=Tryz.sizeOf266
 v145:=Tryz.zeroValue266
 t167:=Tryz.underlying231
 a167:=Tryz.isAgg231
 z167:=Tryz.sizeOf231
 v167:=Tryz.zeroValue231
 t168:=Tryz.underlying234
 a168:=Tryz.isAgg234
 z168:=Tryz.sizeOf234
 v168:=Tryz.zeroValue234
 t171:=Tryz.underlying239
 a171:=Tryz.isAgg239
 z171:=Tryz.sizeOf239
 v171:=Tryz.zeroValue239
 t173:=Tryz.underlying241
 a173:=Tryz.isAgg241
 z173:=Tryz.sizeOf241
 v173:=Tryz.zeroValue241
 t175:=Tryz.underlying250
 a175:=Tryz.isAgg250
 z175:=Tryz.sizeOf250
 v175:=Tryz.zeroValue250
 t210:=Tryz.underlying253
 a210:=Tryz.isAgg253
 z210:=Tryz.sizeOf253
 v210:=Tryz.zeroValue253
 t212:=Tryz.underlying256
 a212:=Tryz.isAgg256
 z212:=Tryz.sizeOf256
 v212:=Tryz.zeroValue256
 t213:=Tryz.underlying257
 a213:=Tryz.isAgg257
 z213:=Tryz.sizeOf257
 t232:=Tryz.underlying267
 a232:=Tryz.isAgg267
 z232:=Tryz.sizeOf267
 v232:=Tryz.zeroValue267
 t233:=Tryz.underlying268
 a233:=Tryz.isAgg268
 z233:=Tryz.sizeOf268
 v233:=Tryz.zeroValue268
 g15:=by kernel_rfl
 g16:=by kernel_rfl
 g17:=by kernel_rfl
 g18:=by kernel_rfl
 g19:=by kernel_rfl
 t80:=Tryz.underlying206
 a80:=Tryz.isAgg206
 z80:=Tryz.sizeOf206
 v80:=Tryz.zeroValue206
 i0:=by kernel_rfl
 i2:=by kernel_rfl
 i3:=by kernel_rfl
 i4:=by kernel_rfl
 i5:=by kernel_rfl
 i9:=by kernel_rfl
 i20:=by kernel_rfl
 i21:=by kernel_rfl
 i37:=by kernel_rfl
 i46:=by kernel_rfl
 i51:=by kernel_rfl
 i53:=by kernel_rfl
 i75:=by kernel_rfl
 i76:=by kernel_rfl
 i80:=by kernel_rfl
 i85:=by kernel_rfl
 i127:=by kernel_rfl
 i143:=by kernel_rfl
 i145:=by kernel_rfl
 i167:=by kernel_rfl
 i168:=by kernel_rfl
 i171:=by kernel_rfl
 i173:=by kernel_rfl
 i175:=by kernel_rfl
 i210:=by kernel_rfl
 i212:=by kernel_rfl
 i232:=by kernel_rfl
 i233:=by kernel_rfl
 m15:=by kernel_rfl
 m16:=by kernel_rfl
 m17:=by kernel_rfl
 m18:=by kernel_rfl
 m19:=by kernel_rfl
 c0:=by kernel_rfl
 c2:=by kernel_rfl
 c3:=by kernel_rfl
 c4:=by kernel_rfl
 c5:=by kernel_rfl
 c9:=by kernel_rfl
 c20:=by kernel_rfl
 c21:=by kernel_rfl
 c37:=by kernel_rfl
 c46:=by kernel_rfl
 c51:=by kernel_rfl
 c53:=by kernel_rfl
 c75:=by kernel_rfl
 c76:=by kernel_rfl
 c80:=by kernel_rfl
 c85:=by kernel_rfl
 c127:=by kernel_rfl
 c143:=by kernel_rfl
 c145:=by kernel_rfl
 c167:=by kernel_rfl
 c168:=by kernel_rfl
 c171:=by kernel_rfl
 c173:=by kernel_rfl
 c175:=by kernel_rfl
 c210:=by kernel_rfl
 c212:=by kernel_rfl
 c213:=by kernel_rfl
 c232:=by kernel_rfl
 c233:=by kernel_rfl }
def TV:Go.Shelf.Ren:=⟨fun | 171=>132 | 243=>158 | 246=>174 | 283=>195 | 284=>196 | 285=>197 | 286=>198 | 129=>185 | 317=>209 | 318=>210 | 319=>211 | 320=>212 | 337=>217 | 338=>218 | n=>n,fun | 3=>3 | 9=>9 | 2=>2 | 4=>4 | 171=>239 | 0=>0 | 53=>227 | 37=>45 | 5=>5 | 173=>241 | 212=>256 | 51=>225 | 20=>20 | 213=>257 | 46=>208 | 232=>267 | 233=>268 | n=>n,fun | 17=>3 | 18=>4 | 19=>5 | n=>n⟩
theorem As:Go.Proofs.LaysM.n171 Tryz.prog TV := {
 mixed:=by kernel_rfl
 f129:=Tryz.func185.trans (congrArg some (by kernel_rfl))
 f171:=Tryz.func132.trans (congrArg some (by kernel_rfl))
 f243:=Tryz.func158.trans (congrArg some (by kernel_rfl))
 f246:=Tryz.func174.trans (congrArg some (by kernel_rfl))
 f283:=Tryz.func195.trans (congrArg some (by kernel_rfl))
 f284:=Tryz.func196.trans (congrArg some (by kernel_rfl))
 f285:=Tryz.func197.trans (congrArg some (by kernel_rfl))
 f286:=Tryz.func198.trans (congrArg some (by kernel_rfl))
 f317:=Tryz.func209.trans (congrArg some (by kernel_rfl))
 f318:=Tryz.func210.trans (congrArg some (by kernel_rfl))
 f319:=Tryz.func211.trans (congrArg some (by kernel_rfl))
 f320:=Tryz.func212.trans (congrArg some (by kernel_rfl))
 f337:=Tryz.func217.trans (congrArg some (by kernel_rfl))
 f338:=Tryz.func218.trans (congrArg some (by kernel_rfl))
 t0:=Tryz.underlying0
 a0:=Tryz.isAgg0
 z0:=Tryz.sizeOf0
 v0:=Tryz.zeroValue0
 t2:=Tryz.underlying2
 a2:=Tryz.isAgg2
 z2:=Tryz.sizeOf2
 v2:=Tryz.zeroValue2
 t3:=Tryz.underlying3
 a3:=Tryz.isAgg3
 z3:=Tryz.sizeOf3
 v3:=Tryz.zeroValue3
 t4:=Tryz.underlying4
 a4:=Tryz.isAgg4
 z4:=Tryz.sizeOf4
 v4:=Tryz.zeroValue4
 t5:=Tryz.underlying5
 a5:=Tryz.isAgg5
 z5:=Tryz.sizeOf5
 v5:=Tryz.zeroValue5
 t9:=Tryz.underlying9
 a9:=Tryz.isAgg9
 z9:=Tryz.sizeOf9
 v9:=Tryz.zeroValue9
 t20:=Tryz.underlying20
 a20:=Tryz.isAgg20
 z20:=Tryz.sizeOf20
 v20:=Tryz.zeroValue20
 t37:=Tryz.underlying45
 a37:=Tryz.isAgg45
 z37:=Tryz.sizeOf45
 v37:=Tryz.zeroValue45
 t46:=Tryz.underlying208
 a46:=Tryz.isAgg208
 z46:=Tryz.sizeOf208
 v46:=Tryz.zeroValue208
 t51:=Tryz.underlying225
 a51:=Tryz.isAgg225
 z51:=Tryz.sizeOf225
 v51:=Tryz.zeroValue225
 t53:=Tryz.underlying227
 a53:=Tryz.isAgg227
 z53:=Tryz.sizeOf227
 v53:=Tryz.zeroValue227
 t171:=Tryz.underlying239
 a171:=Tryz.isAgg239
 z171:=Tryz.sizeOf239
 v171:=Tryz.zeroValue239
 t173:=Tryz.underlying241
 a173:=Tryz.isAgg241
 z173:=Tryz.sizeOf241
 v173:=Tryz.zeroValue241
 t212:=Tryz.underlying256
 a212:=Tryz.isAgg256
 z212:=Tryz.sizeOf256
 v212:=Tryz.zeroValue256
 t213:=Tryz.underlying257
 a213:=Tryz.isAgg257
 z213:=Tryz.sizeOf257
 t232:=Tryz.underlying267
 a232:=Tryz.isAgg267
 z232:=Tryz.sizeOf267
 v232:=Tryz.zeroValue267
 t233:=Tryz.underlying268
 a233:=Tryz.isAgg268
 z233:=Tryz.sizeOf268
 v233:=Tryz.zeroValue268
 g17:=by kernel_rfl
 g18:=by kernel_rfl
 g19:=by kernel_rfl
 i0:=by kernel_rfl
 i2:=by kernel_rfl
 i3:=by kernel_rfl
 i4:=by kernel_rfl
 i5:=by kernel_rfl
 i9:=by kernel_rfl
 i20:=by kernel_rfl
 i37:=by kernel_rfl
 i46:=by kernel_rfl
 i51:=by kernel_rfl
 i53:=by kernel_rfl
 i171:=by kernel_rfl
 i173:=by kernel_rfl
 i212:=by kernel_rfl
 i232:=by kernel_rfl
 i233:=by kernel_rfl
 m17:=by kernel_rfl
 m18:=by kernel_rfl
 m19:=by kernel_rfl }
def TX:Go.Shelf.Ren:=⟨fun | 316=>127 | n=>n,fun | 9=>9 | 3=>3 | 4=>4 | 37=>45 | 0=>0 | 127=>202 | 5=>5 | n=>n,fun | n=>n⟩
theorem TW:Go.Proofs.LaysM.n316 Tryz.prog TX := {
 mixed:=by kernel_rfl
 f316:=Tryz.func127.trans (congrArg some (by kernel_rfl))
 t0:=Tryz.underlying0
 a0:=Tryz.isAgg0
 z0:=Tryz.sizeOf0
 v0:=Tryz.zeroValue0
 t3:=Tryz.underlying3
 a3:=Tryz.isAgg3
 z3:=Tryz.sizeOf3
 v3:=Tryz.zeroValue3
 t4:=Tryz.underlying4
 a4:=Tryz.isAgg4
 z4:=Tryz.sizeOf4
 v4:=Tryz.zeroValue4
 t9:=Tryz.underlying9
 a9:=Tryz.isAgg9
 z9:=Tryz.sizeOf9
 v9:=Tryz.zeroValue9
 t37:=Tryz.underlying45
 a37:=Tryz.isAgg45
 z37:=Tryz.sizeOf45
 v37:=Tryz.zeroValue45
 t127:=Tryz.underlying202
 a127:=Tryz.isAgg202
 z127:=Tryz.sizeOf202
 v127:=Tryz.zeroValue202
 t5:=Tryz.underlying5
 a5:=Tryz.isAgg5
 z5:=Tryz.sizeOf5
 v5:=Tryz.zeroValue5
 i0:=by kernel_rfl
 i3:=by kernel_rfl
 i4:=by kernel_rfl
 i5:=by kernel_rfl
 i9:=by kernel_rfl
 i37:=by kernel_rfl
 i127:=by kernel_rfl }
theorem D7(s p:aj):aQ Tryz.prog 125 [enc s,enc p] (.tuple [enc (aj.of (Lib.trimSuffix s.l p.l)),enc (Lib.hasSuffix s.l p.l)]):=JB TY F8 s p
theorem D6(s:aj)(c:UInt8):aQ Tryz.prog 123 [enc s,.int .u8 c.toNat] (enc (Lib.indexByte s.l c)):=JC Au F7 s c
theorem s9(s:aj)(hs:s.l.length≤281474976710656):aQ Tryz.prog 155 [enc s] (gv 234 s.l):=Jz TT Gs (by kernel_rfl) (by kernel_rfl) rfl s hs
theorem Ec(n:Int):aQ Tryz.prog 132 [enc n] (enc (uS n)):=JD As Ge (g:=3) (by kernel_rfl) n
theorem D9(s:aj)(hs:s.l.length≤281474976710656):aQ Tryz.prog 127 [enc s] (enc s):=JA TW F9 s hs
theorem TS:Go.Proofs.Lays.n217 Tryz.prog Av := { Au with }
theorem Ty(l:List UInt8)(c:UInt8):-1≤Lib.indexByte l c∧Lib.indexByte l c≤l.length:=by
 refine ⟨Lib.indexByte_ge l c,?_⟩
 induction l with
 |nil=>simp[Lib.indexByte]
 |cons b l ih =>
  unfold Lib.indexByte
  (repeat' split) <;>simp only[Y4] <;>omega
theorem El(s:aj)(c:UInt8):aQ Tryz.prog 152 [enc s,.int .u8 c.toNat] (enc (Lib.indexByte s.l c)):=by
 refine ⟨Gq,fun w D vs hl hD hv =>?_⟩;obtain ⟨rest,rfl,hsz,hv2⟩:=wg hv;simp only[al] at hv2;obtain ⟨v,rest2,cs,rfl,h1,h2,rfl⟩:=hv2;obtain ⟨rfl,_⟩:=dk (fg h1 h2);have key:=Any.stringslite_IndexByte TS s.b (c.toNat:Int) w;have hcc:((c.toNat:Int)).toNat.toUInt8=c:=by simp
 rw[hcc] at key;refine Calls.mono key ?_;rintro e w' ⟨rfl,rfl⟩;refine ⟨_,D,rfl,⟨[_],by simp[aW,I.isAgg,enc];rfl,?_⟩,Go.RowKit.Below.refl _ w',hD,fun _ _ h _=>h⟩
 show af _ _ _ (.int .i64 (Lib.indexByte s.l c)) _
 simp only[af];refine ⟨rfl,?_⟩;have g:=Ty s.l c;rw[aj.size] at hsz;have hmin:IntKind.i64.min=-9223372036854775808:=by decide
 have hmax:IntKind.i64.max=9223372036854775807:=by decide
 unfold maxLen at hsz;rw[hmin,hmax];omega
theorem Es(s:aj)(c:UInt8):aQ Tryz.prog 188 [enc s,enc (aj.of [c])] (enc (Lib.indexByte s.l c)):=by
 refine aQ.bM Tryz.func188 GA HK I1 (t8 rfl) (fun hwf W0 bF E1 =>?_);simp only[xR,B3,bB,Z8];have hsi:=C9 (aj.of [c]) (i:=0) (by rw[aj.c6];exact Nat.zero_lt_one);have hl1:lD (enc (aj.of [c]))=some (.int .i64 1):=by rw[p9];rfl
 have hsi':dU .dm [enc (aj.of [c]),.int .i64 0]=some (.int .u8 (c.toNat:Int)):=hsi;cases q:decide (aj.of [c]=s)
 ·have R:=y6 @hsi' (y6 @hl1 (y6 @q (y6 @bg aD)))
  repeat' ((first |(with_reducible refine .guard (fun hb =>?_) (fun hb =>?_) <;>try simp only[hb])|refine U.aG (by decide +kernel) rfl fun K hK =>?_|refine .flat _ (El s c) rfl ?_|(refine .aE [0,1,4,5,6,7,8,9,10,11,12,13,16,24,31,36,59,64,73,93,107,114,132,139] hK ?_;clear hK K)|(with_reducible refine .done (hK _ ?_);clear hK K)|refine U.of rfl ?_|(with_reducible refine aw.aF (fun h =>?_) (fun h =>?_) <;>try simp only[h])) <;>try simp only[aH,R,simprocAttr])
  all_goals clear R
 ·have e:=of_decide_eq_true q;subst e;have R:=y6 @hl1 (y6 @bg aD)
  repeat' ((first |(with_reducible refine .guard (fun hb =>?_) (fun hb =>?_) <;>try simp only[hb])|refine U.aG (by decide +kernel) rfl fun K hK =>?_|(refine .aE [0,1,4,5,6,7,8,9,10,11,12,13,16,24,31,36,59,64,73,93,107,114,132,139] hK ?_;clear hK K)|(with_reducible refine .done (hK _ ?_);clear hK K)|refine U.of rfl ?_|(with_reducible refine aw.aF (fun h =>?_) (fun h =>?_) <;>try simp only[h])) <;>try simp only[aH,R,eq_self,decide_true,simprocAttr])
  all_goals clear R
  show I.int .i64 0=I.int .i64 (Lib.indexByte [c] c)
  simp[Lib.indexByte]
def cE(c:UInt8):List UInt8→Option (List UInt8×List UInt8)
 | []=>none
 |b::l=>if b=c then some ([],l) else (cE c l).map fun p=>(b::p.1,p.2)
def jo(c:UInt8)(l:List UInt8):List UInt8×List UInt8×Bool:=match cE c l with
 |some p=>(p.1,p.2,true)
 |none=>(l,[],false)
theorem nu(c:UInt8):∀ l:List UInt8,(cE c l=none∧Lib.indexByte l c=-1)∨∃ i:Nat,i<l.length∧Lib.indexByte l c=i∧cE c l=some (l.take i,l.drop (i+1))
 | []=>.inl ⟨rfl,rfl⟩
 |b::l=>by
  by_cases h:b=c
  ·refine .inr ⟨0,by simp,by simp[Lib.indexByte,h],by simp[cE,h]⟩
  ·rcases nu c l with ⟨h1,h2⟩ | ⟨i,h0,h1,h2⟩
   ·refine .inl ⟨by simp[cE,h,h1],by simp[Lib.indexByte,h,h2]⟩
   ·refine .inr ⟨i+1,by simpa using h0,?_,by simp[cE,h,h2]⟩;simp only[Lib.indexByte,h1];simp[h]
    try omega
theorem Er(s:aj)(c:UInt8):aQ Tryz.prog 170 [enc s,enc (aj.of [c])] (.tuple [enc (aj.of (jo c s.l).1),enc (aj.of (jo c s.l).2.1),enc (jo c s.l).2.2]):=by
 refine aQ.wf yC fun hwf0 =>?_;have hlen:s.l.length≤maxLen:=by
  have:=hwf0.1;rw[←aj.size];exact this
 simp only[maxLen] at hlen;refine aQ.bM Tryz.func170 yC HG IY (t8 rfl) (fun hwf W0 bF E1 =>?_);simp only[xP,BY,bB,Z8];clear hwf;have hF:=Es s c;have hl1:lD (enc (aj.of [c]))=some (.int .i64 1):=by rw[p9];rfl
 rcases nu c s.l with ⟨h1,h2⟩ | ⟨i,h0,h1,h2⟩
 ·rw[h2] at hF;simp only[jo,h1];have R:=y6 @hl1 (y6 @bg aD)
  repeat' ((first |refine U.aG (by decide +kernel) rfl fun K hK =>?_|refine .flat _ (hF) rfl ?_|(refine .aE [0,1,4,5,6,7,12] hK ?_;clear hK K)|(with_reducible refine .done (hK _ ?_);clear hK K)|refine U.of rfl ?_|(with_reducible refine aw.aF (fun h =>?_) (fun h =>?_) <;>try simp only[h])) <;>try simp only[aH,R,decide_false,simprocAttr])
  all_goals clear R
  rw[aj.sa];rfl
 ·rw[h1] at hF;simp only[jo,h2];have g1:=oi s (j:=i) (by omega);have g2:=vQ s (i:=i+1) (by omega);have hw:=eE (i:=i) (by omega);have hd:decide ((i:Int)≥0)=true:=decide_eq_true (by omega);have R:=y6 @hd (y6 @hl1 (y6 @hw (y6 @g1 (y6 @g2 (y6 @bg aD)))))
  repeat' ((first |refine U.aG (by decide +kernel) rfl fun K hK =>?_|refine .flat _ (hF) rfl ?_|(refine .aE [0,1,4,5,6,7,12] hK ?_;clear hK K)|(with_reducible refine .done (hK _ ?_);clear hK K)|refine U.of rfl ?_|(with_reducible refine aw.aF (fun h =>?_) (fun h =>?_) <;>try simp only[h])) <;>try simp only[aH,R,decide_true,simprocAttr])
  all_goals clear R
  trace_state
  all_goals rfl
theorem wL(s:aj)(c:UInt8):aQ Tryz.prog 154 [enc s,enc (aj.of [c])] (.tuple [enc (aj.of (jo c s.l).1),enc (aj.of (jo c s.l).2.1),enc (jo c s.l).2.2]):=by
 refine aQ.bM Tryz.func154 Gr HA IS (t8 rfl) (fun hwf W0 bF E1 =>?_);simp only[xJ,BS,bB,Z8];have R:=y6 @bg aD
 repeat' ((first |refine U.aG (by decide +kernel) rfl fun K hK =>?_|refine .flat _ (Er s c) rfl ?_|(refine .aE [0,1,4,5,6] hK ?_;clear hK K)|(with_reducible refine .done (hK _ ?_);clear hK K)|refine U.of rfl ?_|(with_reducible refine aw.aF (fun h =>?_) (fun h =>?_) <;>try simp only[h])) <;>try simp only[aH,R,simprocAttr])
 all_goals clear R
 all_goals rfl
theorem EE(s:aj)(hs:s.l.length≤281474976710656):aQ Tryz.prog 74 [enc s] (enc s):=by
 refine aQ.bM Tryz.func74 GS H0 Ji (t8 rfl) (fun hwf W0 bF E1 =>?_);simp only[yd,Ci,bB];have R:=y6 @bg aD
 repeat' ((first |refine U.aG (by decide +kernel) rfl fun K hK =>?_|refine .flat _ (D9 s hs) rfl ?_|(refine .aE [0,2] hK ?_;clear hK K)|(with_reducible refine .done (hK _ ?_);clear hK K)|refine U.of rfl ?_|(with_reducible refine aw.aF (fun h =>?_) (fun h =>?_) <;>try simp only[h])) <;>try simp only[aH,R,simprocAttr])
 all_goals clear R
 all_goals rfl
end Go.Proofs.YtoffnnjbplgnaaaGreatDoor
namespace Go.Proofs.YtoffnnjbplgnaaaGreatDoor
open Go Go.Abs
open Go.Abs.Enc (enc)
theorem yS{c:UInt8} : ∀ {x:List UInt8} (y:List UInt8),(∀ b∈x,b≠c)→cE c (x++c::y)=some (x,y)
 | [],y,_=>by simp[cE]
 |b::x,y,h=>by
  have ih:=yS (x:=x) y fun z hz=>h z (by simp[hz]);simp only[Y3,cE,if_neg (h b (by simp)),ih,Z7]
def da(l:List Int):List UInt8:=l.flatMap fun n=>Lib.itoa n++[32]
def eW(f:List UInt8→Option Int):Nat→List UInt8→Option (List Int×List UInt8)
 |0,s=>some ([],s)
 |k+1,s=>match cE 32 s with
  |none=>none
  |some (w,t)=>match f w with
   |none=>none
   |some n=>(eW f k t).map fun p=>(n::p.1,p.2)
theorem wk{f:List UInt8→Option Int}(t:List UInt8):∀ {l:List Int},(∀ n∈l,0≤n∧f (Lib.itoa n)=some n)→eW f l.length (da l++t)=some (l,t)
 | [],_=>rfl
 |n::l,h=>by
  have ih:=wk t (l:=l) fun m hm=>h m (by simp[hm]);have hn:=h n (by simp);simp only[Y4,eW,da,List.flatMap_cons,Y0,Y3,X3];rw[yS _ (Kb hn.1 (by decide))];simp only[hn.2];rw[da] at ih;rw[ih,Z7]
def fw(w:List UInt8):Option Int:=match Lib.atoiAll w with
 | .ok n=>some n
 |_=>none
def gS(w:List UInt8):Option Int:=if w=[]∨8<w.length then none else (ea 0 w).map fun n=>(n:Int)
theorem Bf{n:Int}(h:0≤n∧n<100000000):fw (Lib.itoa n)=some n∧gS (Lib.itoa n)=some n:=by
 obtain ⟨m,rfl⟩:=Y1 h.1;have hm:=UD (k:=7) (show m<10^(7+1) by omega);obtain ⟨h1,h2,_⟩:=UE (by omega) hm;refine ⟨by rw[fw,h1],?_⟩;rw[gS,if_neg]
 ·rw[Lib.itoa_nonneg,(oT m).1];rfl
 ·rintro (k | k)
  ·exact TK h.1 k
  ·omega
def dz(r:ai):List Int:=[r.bd,r.no,r.kind,r.dZ,r.known,r.eU,r.fh]
def fo(n:List Int)(t:List UInt8):ai:=⟨n.getD 1 0,n.getD 2 0,n.getD 3 0,n.getD 4 0,n.getD 5 0,n.getD 6 0,n.getD 7 0,t⟩
theorem AQ(s:Int)(r:ai):fo (s::dz r) r.text=r:=rfl
def cz(r:ai):List UInt8:=da (dz r)++r.text
def cL(s:Int)(l:List UInt8):Int:=l.foldl (fun s c=>(257*s+c.toNat+1)%1000003) s
theorem lR{s:Int}(h:0≤s∧s<1000003):∀ l,0≤cL s l∧cL s l<1000003:=by
 intro l
 induction l generalizing s with
 |nil=>exact h
 |cons c l ih =>
  rw[cL,List.foldl_cons];exact ih (by omega)
def cR(s:Int)(r:ai):List UInt8:=da [cL s (cz r)]++cz r++[10]
theorem Uf(s:Int)(r:ai):cR s r=(da (cL s (cz r)::dz r)++r.text)++[10]:=by
 simp only[cR,cz,da,List.flatMap_cons,List.flatMap_nil,List.append_nil,Y0]
section
variable (ok:ai→Bool)
def kH(s:Int)(t:List UInt8)(r:ai):Option (ai×Int):=if ok r=true∧cR s r=t then some (r,cL s (cz r)) else none
def dA(s:Int)(t:List UInt8):Option (ai×Int):=if t.getLast?=some 10 then
  (eW fw 8 t.dropLast).bind fun p=>(kH ok s t (fo p.1 p.2)).bind fun q=>if p.1.headD 0=q.2 then some q else none
 else none
def jf(s:Int)(t:List UInt8):Option (ai×Int) :=
 (eW gS 8 t).bind fun p=>if t.getLast?=some 10∧p.2≠[] then kH ok s t (fo p.1 p.2.dropLast) else none
theorem zd{s:Int}{t:List UInt8}{r:ai}{q:ai×Int}(h:kH ok s t r=some q):ok q.1=true∧cR s q.1=t∧q.2=cL s (cz q.1):=by
 rw[kH] at h;by_cases c:ok r=true∧cR s r=t
 ·rw[if_pos c] at h;cases h;exact ⟨c.1,c.2,rfl⟩
 ·rw[if_neg c] at h;cases h
theorem vB{s:Int}{t:List UInt8}{q:ai×Int}(h:dA ok s t=some q):ok q.1=true∧cR s q.1=t∧q.2=cL s (cz q.1):=by
 rw[dA] at h;by_cases c:t.getLast?=some 10
 ·rw[if_pos c] at h;cases hp:eW fw 8 t.dropLast with
  |none=>rw[hp] at h;cases h
  |some p =>
   rw[hp,zz0] at h;cases he:kH ok s t (fo p.1 p.2) with
   |none=>rw[he] at h;cases h
   |some q' =>
    rw[he,zz0] at h;by_cases k:p.1.headD 0=q'.2
    ·rw[if_pos k] at h;cases h;exact zd ok he
    ·rw[if_neg k] at h;cases h
 ·rw[if_neg c] at h;cases h
theorem Wa{s:Int}{t:List UInt8}{q:ai×Int}(h:jf ok s t=some q):ok q.1=true∧cR s q.1=t∧q.2=cL s (cz q.1):=by
 rw[jf] at h;cases hp:eW gS 8 t with
 |none=>rw[hp] at h;cases h
 |some p =>
  rw[hp,zz0] at h;by_cases c:t.getLast?=some 10∧p.2≠[]
  ·rw[if_pos c] at h;exact zd ok h
  ·rw[if_neg c] at h;cases h
theorem CE{s:Int}(hs:0≤s∧s<1000003){r:ai}(h:ok r=true)(hn:∀ n∈dz r,0≤n∧n<100000000) :
  dA ok s (cR s r)=some (r,cL s (cz r))∧jf ok s (cR s r)=some (r,cL s (cz r)):=by
 have hb:=lR hs (cz r);have hm:∀ n∈cL s (cz r)::dz r,0≤n∧n<100000000:=fun n hn'=>by
  rcases zz3.1 hn' with rfl | hn'
  ·omega
  ·exact hn n hn'
 have e:=Uf s r;have hl:(cR s r).getLast?=some 10:=by rw[e,List.getLast?_append];rfl
 have hd:(cR s r).dropLast=da (cL s (cz r)::dz r)++r.text:=by rw[e,List.dropLast_concat]
 have he:kH ok s (cR s r) r=some (r,cL s (cz r)):=by rw[kH,if_pos ⟨h,rfl⟩]
 constructor
 ·rw[dA,if_pos hl,hd,show 8=(cL s (cz r)::dz r).length from rfl,wk (f:=fw) r.text fun n hn'=>⟨(hm n hn').1,(Bf (hm n hn')).1⟩,zz0];simp only[AQ,he,zz0,List.headD_cons,if_true]
 ·have ht:eW gS 8 (cR s r)=some (cL s (cz r)::dz r,r.text++[10]):=by
   rw[e,Y0];exact wk (f:=gS) (r.text++[10]) fun n hn'=>⟨(hm n hn').1,(Bf (hm n hn')).2⟩
  rw[jf,ht,zz0,if_pos ⟨hl,by simp⟩];simp only[List.dropLast_concat,AQ,he]
theorem Wb{s:Int}(hs:0≤s∧s<1000003)(hok:∀ r,ok r=true→∀ n∈dz r,0≤n∧n<100000000)(t:List UInt8):dA ok s t=jf ok s t:=by
 cases h:dA ok s t with
 |some q =>
  obtain ⟨h1,h2,h3⟩:=vB ok h;rw[←h2,(CE ok hs h1 (hok _ h1)).2,←h3]
 |none =>
  cases h':jf ok s t with
  |none=>rfl
  |some q =>
   obtain ⟨h1,h2,h3⟩:=Wa ok h';rw[←h2,(CE ok hs h1 (hok _ h1)).1] at h;cases h
end
def jm:List PanicEntry:=[{ v:=.iface 176 (.agg #[]),recovered:=false }]
theorem my{Q:Exit→ab→Prop}{x:av}{A:ab}(h:ae A x=.iface 176 (.agg []))(hq:Q (.panic jm) A):lq Tryz.prog Q (.prim .j6 [x]) A:=.j6 h hq
theorem jz:(∀ T:TypeId,dU (.lF T) [.agg []]=some (.iface T (.agg [])))∧fy [] []=some []:=⟨fun _=>rfl,rfl⟩
theorem vp{A:ab} : vq jm (fun os'=>os'=[]) (.panic jm) A:=⟨rfl,[],[],uM,trivial,rfl,rfl⟩
theorem ma:(I.ak ⟨#[32]⟩)=enc (aj.of [32]):=rfl
theorem oV:(I.ak ⟨#[10]⟩)=enc (aj.of [10]):=rfl
theorem Be{w:List UInt8}{n:Int}(h:fw w=some n):gv 234 w=.tuple [enc n,.cM]:=by
 unfold fw at h;split at h
 ·rename_i m hm;cases h;simp only[gv,hm]
 ·cases h
theorem Bd{w:List UInt8}(h:fw w=none):∃ n:Int,gv 234 w=.tuple [enc n,.iface 234 .any]:=by
 unfold fw at h;split at h
 ·cases h
 ·rename_i hm;cases hr:Lib.atoiAll w with
  |ok n=>exact absurd hr (hm n)
  |range=>exact ⟨_,by simp only[gv,hr];rfl⟩
  | _ =>exact ⟨0,by simp only[gv,hr]⟩
theorem qS{c:UInt8}{l:List UInt8}{p:List UInt8×List UInt8}(h:cE c l=some p):p.1.length+p.2.length<l.length:=by
 rcases nu c l with ⟨h1,_⟩ | ⟨i,h0,_,h2⟩
 ·rw[h1] at h;cases h
 ·rw[h2] at h;cases h;simp only[Z9,zz1];omega
theorem wG(s:aj)(hlen:s.l.length≤281474976710656)(w t:List UInt8)(n:Int)(h1:cE 32 s.l=some (w,t))(h2:fw w=some n):aQ Tryz.prog 126 [enc s] (.tuple [enc n,enc (aj.of t)]):=by
 refine aQ.bM Tryz.func126 yB yH ID (t8 rfl) (fun hwf W0 bF E1 =>?_);simp only[tE,BF,bB];clear hwf;have hc:=wL s 32;simp only[jo,h1] at hc;have hl:=qS h1;simp only at hl;have ha:=s9 (aj.of w) (by rw[aj.c6];omega);rw[aj.c6,Be h2] at ha;have R:=y6 @ma (y6 @bg aD)
 repeat' ((first |(with_reducible refine .guard (fun hb =>?_) (fun hb =>?_) <;>try simp only[hb])|refine U.aG (by decide +kernel) rfl fun K hK =>?_|refine .flat _ (hc) rfl ?_|refine .lead _ (ha) ?_|(refine .aE [0,2,3,4,5,6,7,8,25] hK ?_;clear hK K)|(with_reducible refine .done (hK _ ?_);clear hK K)|refine U.of rfl ?_|(with_reducible refine aw.aF (fun h =>?_) (fun h =>?_) <;>try simp only[h])) <;>try simp only[aH,R,simprocAttr])
 all_goals clear R
 all_goals rfl
theorem D8(s:aj)(hlen:s.l.length≤281474976710656)(h:∀ w t,cE 32 s.l=some (w,t)→fw w=none):oA Tryz.prog 126 jm [enc s] [] (fun os'=>os'=[]):=by
 refine oA.mk Tryz.func126 yB yH (t8 rfl) (t8 rfl) (fun m hm=>by simp[aB,aJ] at hm) (fun hwf W0 bF E1 =>?_);simp only[tE,bB];clear hwf;have hc:=wL s 32;cases h1:cE 32 s.l with
 |none =>
  simp only[jo,h1] at hc;have ha:=s9 (aj.of s.l) (by rw[aj.c6];omega);rw[aj.c6] at ha;cases ho:fw s.l with
  |some n =>
   rw[Be ho] at ha;have R:=y6 @ma (y6 @jz (y6 @bg aD))
   repeat' ((first |(with_reducible refine .guard (fun hb =>?_) (fun hb =>?_) <;>try simp only[hb])|(refine U.kS (gs:=rp) (gs1:=[_,_]) rfl fun K hK =>?_)|refine U.aG (by decide +kernel) rfl fun K hK =>?_|refine .flat _ (hc) rfl ?_|refine .lead _ (ha) ?_|(refine .aE [0,2,3,4,5,6,7,8,25] hK ?_;clear hK K)|(with_reducible refine .done (hK _ ?_);clear hK K)|refine U.of rfl ?_|(with_reducible refine aw.aF (fun h =>?_) (fun h =>?_) <;>try simp only[h])) <;>try simp only[aH,R,simprocAttr])
   all_goals clear R
   refine my ?_ vp;rfl
  |none =>
   obtain ⟨n,hn⟩:=Bd ho;rw[hn] at ha;have R:=y6 @ma (y6 @jz (y6 @bg aD))
   repeat' ((first |(with_reducible refine .guard (fun hb =>?_) (fun hb =>?_) <;>try simp only[hb])|(refine U.kS (gs:=rp) (gs1:=[_,_]) rfl fun K hK =>?_)|refine U.aG (by decide +kernel) rfl fun K hK =>?_|refine .flat _ (hc) rfl ?_|refine .lead _ (ha) ?_|(refine .aE [0,2,3,4,5,6,7,8,25] hK ?_;clear hK K)|(with_reducible refine .done (hK _ ?_);clear hK K)|refine U.of rfl ?_|(with_reducible refine aw.aF (fun h =>?_) (fun h =>?_) <;>try simp only[h])) <;>try simp only[aH,R,simprocAttr])
   all_goals clear R
   refine my ?_ vp;rfl
 |some p =>
  obtain ⟨w,t⟩:=p;simp only[jo,h1] at hc;have hl:=qS h1;simp only at hl;have ha:=s9 (aj.of w) (by rw[aj.c6];omega);obtain ⟨n,hn⟩:=Bd (h w t h1);rw[aj.c6,hn] at ha;have R:=y6 @ma (y6 @jz (y6 @bg aD))
  repeat' ((first |(with_reducible refine .guard (fun hb =>?_) (fun hb =>?_) <;>try simp only[hb])|(refine U.kS (gs:=rp) (gs1:=[_,_]) rfl fun K hK =>?_)|refine U.aG (by decide +kernel) rfl fun K hK =>?_|refine .flat _ (hc) rfl ?_|refine .lead _ (ha) ?_|(refine .aE [0,2,3,4,5,6,7,8,25] hK ?_;clear hK K)|(with_reducible refine .done (hK _ ?_);clear hK K)|refine U.of rfl ?_|(with_reducible refine aw.aF (fun h =>?_) (fun h =>?_) <;>try simp only[h])) <;>try simp only[aH,R,simprocAttr])
  all_goals clear R
  refine my ?_ vp;rfl
theorem Tw:qv Tryz.prog 124 3:=⟨yA,fun bs w hb=>by
 obtain ⟨b1,b2,b3,rfl⟩:∃ b1 b2 b3,bs=[b1,b2,b3]:=by
  match bs,hb with
  | [a,b,c],_=>exact ⟨a,b,c,rfl⟩
 refine callsDIn_of_wpSIn Tryz.func124 rfl trivial fun c₀ cs hu =>?_;apply wpSIn_seq;apply wpSIn_region;simp[wpOpsSIn,go_sem,recoverD,hu,Tryz.ntmps124,Exit.thenS];refine wpSIn_of_wpIn rfl (wpIn_block (wpIn_seq (wpIn_region_list ?_)));simp[wpListIn,go_sem];refine wpIn_cond (t:=true) (by simp[Act.eval,Array.replicate]) ?_;simp only[if_true];refine wpIn_region_list ?_;simp[wpListIn,go_sem,Exit.inBlock];cases c₀
 simp_all[bodyPostS,results,Tryz.results124]⟩
theorem vl{P:Program}{o:Oper}{a:Act}{w w':World}{Kw:Act→World→Prop}{Q:Exit→Act→World→Prop}{n:Nat}(h:(execOp a.eval o).run P w=.ok .skip w')(hK:Kw (a.put o.dst undef) w'):o.wpIn Fence.wide n P a w Kw Q:=by
 refine ⟨fun _ _=>trivial,?_⟩
 show o.uponIn _ _ _ _ _ _ ((execOp a.eval o).run P w)
 rw[h,Oper.uponIn_skip];exact hK
theorem VB{P:Program}{o:Oper}{a:Act}{w w':World}{v:Value}{Kw:Act→World→Prop}{Q:Exit→Act→World→Prop}{n:Nat}(h:(execOp a.eval o).run P w=.ok (.value v) w')(hK:Kw (a.put o.dst v) w'):o.wpIn Fence.wide n P a w Kw Q:=by
 refine ⟨fun _ _=>trivial,?_⟩
 show o.uponIn _ _ _ _ _ _ ((execOp a.eval o).run P w)
 rw[h,Oper.uponIn_value];exact hK
theorem wa{P:Program}{o:Oper}{ρ:Operand→Value}{t:TypeId}{x y:Operand}{p v:Value}{w w':World}(ho:o.op=.store t x y)(hx:ρ x=p)(hy:ρ y=v)(h:(Instr.storeAt t p v).run P w=.ok () w'):(execOp ρ o).run P w=.ok .skip w':=by
 simp only[execOp,ho,hx,hy,Sem.run_bind,h];rfl
theorem we{c:cd}{A:ab}{a:Act}{w:World}{D:aI}{E:aN}{P:Program}(hs:aL c A a w D E){N b:Nat}{x z:I}{v:Value}{ds:List Value}{t:TypeId}{i:TypeInfo}(hn:A.o N=some (.box x))(aq:E N=some (.aA b z.aK))(hsh:x.aK=z.aK)
  (hz:af w D E z ds) (hv:v.cells.toList=ds) (hi:P.info? t=some i) (hsz:i.size=ds.length) :
  ∃ w',(Instr.storeAt t (jF b) v).run P w=.ok () w'∧aL c (A.aP N (.box z)) a w' D E:=by
 obtain ⟨b',cs,T,k1,k2,k3,k4,k5⟩:=hs.box hn;rw[aq] at k1;simp only[v6,br.aA.injEq] at k1;obtain ⟨rfl,_⟩:=k1;have l1:=af.length _ _ k4;have l2:=af.length _ _ hz;have l3:x.size=z.size:=by rw[←I.gY x,←I.gY z,hsh]
 have hcl:cs.size=ds.length:=by rw[←X1,l1,l2,l3]
 have hrun:=sG P b 0 T ds 0 cs w k3 (by omega) (af.j4 _ _ hz);simp only[Nat.add_zero] at hrun;have e:(cs.toList.take 0++ds++cs.toList.drop (0+ds.length))=ds:=by
  rw[List.take_zero,X3,Z8,List.drop_eq_nil_of_le (by rw[X1];omega),List.append_nil]
 rw[e] at hrun;have hs2:=hs.vT (y:=z) (cs':=ds.toArray) hn (hsh▸aq) hsh.symm (by simpa using hz);refine ⟨w.setRow b ds.toArray,?_,hs2⟩;have hg:¬ v.cells.size≠i.size:=by rw[hsz,←hv];simp
 have e2:P.cellsOf t=i.size:=by simp[Program.cellsOf,hi]
 simp only[jF,Instr.storeAt,Instr.sureAddr,storeVar,Sem.run_bind,Sem.run_pure,Result.andThen_ok,gp hi,Sem.run_ite,e2,if_neg hg,hv,hrun]
theorem Hi:qq Tryz.prog 124 jm [enc (default:ai),.int .i64 0,.bool false]:=⟨yA,fun c A a w D E Ns bs hP hs aq hA=>by
 have hta:∀ W,(Instr.typeAssert (.iface 176 (.agg #[])) 20 176 true).run Tryz.prog W=.ok (.tuple #[.agg #[],.bool true]) W:=fun W=>by
  simp[Instr.typeAssert,run_underlying Tryz.underlying176]
 obtain ⟨N1,N2,N3,rfl⟩:∃ a b c,Ns=[a,b,c]:=by
  match Ns,aq.len.2 with
  | [a,b,c],_=>exact ⟨a,b,c,rfl⟩
 obtain ⟨b1,b2,b3,rfl⟩:∃ a b c,bs=[a,b,c]:=by
  match bs,aq.len.1 with
  | [a,b,c],_=>exact ⟨a,b,c,rfl⟩
 obtain ⟨hE1,hE2,hE3,_⟩:=aq;obtain ⟨⟨x1,hx1,hsh1⟩,⟨x2,hx2,hsh2⟩,⟨x3,hx3,hsh3⟩,_⟩:=hA;refine callsDIn_of_wpSIn Tryz.func124 rfl trivial fun c₀ cs hu =>?_;apply wpSIn_seq;apply wpSIn_region;simp[wpOpsSIn,go_sem,recoverD,hu,Tryz.ntmps124,Exit.thenS,jm];refine wpSIn_of_wpIn rfl (wpIn_block (wpIn_seq (wpIn_region_list ?_)));simp[wpListIn,go_sem];refine wpIn_cond (t:=false) (by simp[Act.eval,Array.replicate]) ?_;simp only[Z5,if_false];refine wpIn_seq (wpIn_region_list ?_);simp[wpListIn,go_sem,hta];refine wpIn_cond (t:=true) (by simp[Act.eval,Array.replicate]) ?_;simp only[if_true];refine wpIn_seq (wpIn_region_list ?_);simp[wpListIn,go_sem];refine wpIn_region_list ?_;have hb:Go.RowKit.Below w.heap.size w (w.alloc (Obj.cells #[] 176)):=iQ _ _;have hs1:=hs.grow (D':=D) hb (fun _ _ h=>h) (fun _ _ h _=>h) (fun b o hd=>Nat.lt_of_lt_of_le (hs.cJ b o hd) hb.size);generalize w.alloc (Obj.cells #[] 176)=W1 at *;have nx:∀ {A:ab} {N M b d:Nat} {z y:I},E N=some (.aA b z.aK)→E M=some (.aA d y.aK)→(∃ x,A.o M=some (.box x)∧x.aK=y.aK)→∃ x,(A.aP N (.box z)).o M=some (.box x)∧x.aK=y.aK:=by
  intro A N M b d z y h1 h2 ⟨x,h3,h4⟩;by_cases e:M=N
  ·subst e;rw[h1] at h2;simp only[v6,br.aA.injEq] at h2;exact ⟨z,by simp[ab.aP],h2.2⟩
  ·exact ⟨x,by simp[ab.aP,e,h3],h4⟩
 obtain ⟨i50,hi50,hz50⟩:∃ i,Tryz.prog.info? 50=some i∧i.size=8:=by
  have h:(Tryz.prog.info? 50).map (·.size)=some 8:=by kernel_rfl
  obtain ⟨i,h1,h2⟩:=t7.1 h;exact ⟨i,h1,h2⟩
 obtain ⟨i3,hi3,hz3⟩:∃ i,Tryz.prog.info? 3=some i∧i.size=1:=by
  have h:(Tryz.prog.info? 3).map (·.size)=some 1:=by kernel_rfl
  obtain ⟨i,h1,h2⟩:=t7.1 h;exact ⟨i,h1,h2⟩
 obtain ⟨i4,hi4,hz4⟩:∃ i,Tryz.prog.info? 4=some i∧i.size=1:=by
  have h:(Tryz.prog.info? 4).map (·.size)=some 1:=by kernel_rfl
  obtain ⟨i,h1,h2⟩:=t7.1 h;exact ⟨i,h1,h2⟩
 obtain ⟨W2,hst1,hs2⟩:=we (P:=Tryz.prog) (t:=50) (z:=enc (default:ai)) (v:=.agg #[.int .i64 0,.int .i64 0,.int .i64 0,.int .i64 0,.int .i64 0,.int .i64 0,.int .i64 0,.string ⟨#[]⟩]) hs1 hx1 hE1 hsh1
  (ds:=[.int .i64 0,.int .i64 0,.int .i64 0,.int .i64 0,.int .i64 0,.int .i64 0,.int .i64 0,.string ⟨#[]⟩]) (by
   show af _ _ _ (.agg [.agg [.int .i64 0,.int .i64 0],.int .i64 0,.int .i64 0,.int .i64 0,.agg [.int .i64 0,.int .i64 0],.ak ⟨#[]⟩]) _
   simp only[af,aC];refine ⟨[.int .i64 0,.int .i64 0],_,rfl,⟨[.int .i64 0],_,rfl,⟨rfl,by decide⟩,[.int .i64 0],_,rfl,⟨rfl,by decide⟩,rfl⟩,[.int .i64 0],_,rfl,⟨rfl,by decide⟩,[.int .i64 0],_,rfl,⟨rfl,by decide⟩,[.int .i64 0],_,rfl,⟨rfl,by decide⟩,[.int .i64 0,.int .i64 0],_,rfl,⟨[.int .i64 0],_,rfl,⟨rfl,by decide⟩,[.int .i64 0],_,rfl,⟨rfl,by decide⟩,rfl⟩,[.string ⟨#[]⟩],[],rfl,⟨rfl,by decide⟩,rfl⟩) rfl hi50 hz50
 obtain ⟨y2,hy2,hsh2'⟩:=nx hE1 hE2 ⟨x2,hx2,hsh2⟩;obtain ⟨W3,hst2,hs3⟩:=we (P:=Tryz.prog) (t:=3) (z:=.int .i64 0) (v:=.int .i64 0) hs2 hy2 hE2 hsh2' (ds:=[.int .i64 0]) (by simp only[af];exact ⟨trivial,by decide⟩) rfl hi3 hz3;obtain ⟨y3,hy3,hsh3'⟩:=nx hE2 hE3 (nx hE1 hE3 ⟨x3,hx3,hsh3⟩);obtain ⟨W4,hst3,hs4⟩:=we (P:=Tryz.prog) (t:=4) (z:=.bool false) (v:=.bool false) hs3 hy3 hE3 hsh3' (ds:=[.bool false]) (by simp only[af]) rfl hi4 hz4;have hbl:∀ W,(Instr.build 50 #[]).run Tryz.prog W=.ok (.agg #[.int .i64 0,.int .i64 0,.int .i64 0,.int .i64 0,.int .i64 0,.int .i64 0,.int .i64 0,.string ⟨#[]⟩]) W:=fun W=>by
  simp[Instr.build,Tryz.zeroValue50,Instr.fill,Value.cells]
 simp only[wpListIn,Region.wanted,if_true];refine VB (v:=.agg #[.int .i64 0,.int .i64 0,.int .i64 0,.int .i64 0,.int .i64 0,.int .i64 0,.int .i64 0,.string ⟨#[]⟩]) (by simp only[execOp,Array.map_empty,Sem.run_bind,hbl];rfl) ?_;refine vl (wa rfl (by simp[Act.eval,Act.put]) (by simp[Act.eval,Act.put]) hst1) ?_;refine vl (wa rfl (by simp[Act.eval,Act.put]) (by simp[Act.eval]) hst2) ?_;refine vl (wa rfl (by simp[Act.eval,Act.put]) (by simp[Act.eval]) hst3) ?_;simp[Exit.inBlock,bodyPostS,results,Tryz.results124,settle];exact ⟨rfl,hs4⟩⟩
end Go.Proofs.YtoffnnjbplgnaaaGreatDoor
namespace Go.Proofs.YtoffnnjbplgnaaaGreatDoor
open Go Go.Abs Go.Shelf Go.RowKit
open Go.Abs.Enc (enc)
def Aw:Go.Shelf.Ren:=⟨fun | 166=>156 | 240=>173 | 276=>194 | n=>n,fun | 70=>203 | 9=>9 | 3=>3 | 75=>199 | 0=>0 | 72=>205 | 37=>45 | 4=>4 | 164=>237 | 80=>206 | 5=>5 | n=>n,fun | n=>n⟩
theorem T0:Go.Proofs.Lays.n166 Tryz.prog Aw := {
 mixed:=by kernel_rfl
 f166:=Tryz.func156.trans (congrArg some (by kernel_rfl))
 f240:=Tryz.func173.trans (congrArg some (by kernel_rfl))
 f276:=Tryz.func194.trans (congrArg some (by kernel_rfl))
 t0:=Tryz.underlying0
 a0:=Tryz.isAgg0
 z0:=Tryz.sizeOf0
 v0:=Tryz.zeroValue0
 t3:=Tryz.underlying3
 a3:=Tryz.isAgg3
 z3:=Tryz.sizeOf3
 v3:=Tryz.zeroValue3
 t4:=Tryz.underlying4
 a4:=Tryz.isAgg4
 z4:=Tryz.sizeOf4
 v4:=Tryz.zeroValue4
 t9:=Tryz.underlying9
 a9:=Tryz.isAgg9
 z9:=Tryz.sizeOf9
 v9:=Tryz.zeroValue9
 t20:=Tryz.underlying20
 a20:=Tryz.isAgg20
 z20:=Tryz.sizeOf20
 v20:=Tryz.zeroValue20
 t37:=Tryz.underlying45
 a37:=Tryz.isAgg45
 z37:=Tryz.sizeOf45
 v37:=Tryz.zeroValue45
 t70:=Tryz.underlying203
 a70:=Tryz.isAgg203
 z70:=Tryz.sizeOf203
 v70:=Tryz.zeroValue203
 t72:=Tryz.underlying205
 a72:=Tryz.isAgg205
 z72:=Tryz.sizeOf205
 v72:=Tryz.zeroValue205
 t75:=Tryz.underlying199
 a75:=Tryz.isAgg199
 z75:=Tryz.sizeOf199
 v75:=Tryz.zeroValue199
 t164:=Tryz.underlying237
 a164:=Tryz.isAgg237
 z164:=Tryz.sizeOf237
 v164:=Tryz.zeroValue237 }
def Ax:Go.Shelf.Ren:=⟨fun | 169=>157 | n=>n,fun | 70=>203 | 9=>9 | 0=>0 | 72=>205 | 37=>45 | 127=>202 | 3=>3 | 5=>5 | n=>n,fun | n=>n⟩
theorem T6:Go.Proofs.Lays.n169 Tryz.prog Ax := {
 mixed:=by kernel_rfl
 f169:=Tryz.func157.trans (congrArg some (by kernel_rfl))
 t0:=Tryz.underlying0
 a0:=Tryz.isAgg0
 z0:=Tryz.sizeOf0
 v0:=Tryz.zeroValue0
 t3:=Tryz.underlying3
 a3:=Tryz.isAgg3
 z3:=Tryz.sizeOf3
 v3:=Tryz.zeroValue3
 t9:=Tryz.underlying9
 a9:=Tryz.isAgg9
 z9:=Tryz.sizeOf9
 v9:=Tryz.zeroValue9
 t37:=Tryz.underlying45
 a37:=Tryz.isAgg45
 z37:=Tryz.sizeOf45
 v37:=Tryz.zeroValue45
 t70:=Tryz.underlying203
 a70:=Tryz.isAgg203
 z70:=Tryz.sizeOf203
 v70:=Tryz.zeroValue203
 t72:=Tryz.underlying205
 a72:=Tryz.isAgg205
 z72:=Tryz.sizeOf205
 v72:=Tryz.zeroValue205
 t127:=Tryz.underlying202
 a127:=Tryz.isAgg202
 z127:=Tryz.sizeOf202
 v127:=Tryz.zeroValue202 }
theorem KS:Builder.Extra Tryz.prog Aw where
 sizeBuilder:=by kernel_rfl
 liesBuilder:=by kernel_rfl
 t5:=Tryz.underlying5
 a5:=Tryz.isAgg5
 z5:=Tryz.sizeOf5
 v5:=Tryz.zeroValue5
 infoByte:=by kernel_rfl
 cellsByte:=by kernel_rfl
 sizeByte:=by kernel_rfl
 neB5:=by decide
theorem KT:Builder.Extra Tryz.prog Ax where
 sizeBuilder:=by kernel_rfl
 liesBuilder:=by kernel_rfl
 t5:=Tryz.underlying5
 a5:=Tryz.isAgg5
 z5:=Tryz.sizeOf5
 v5:=Tryz.zeroValue5
 infoByte:=by kernel_rfl
 cellsByte:=by kernel_rfl
 sizeByte:=by kernel_rfl
 neB5:=by decide
abbrev kp(B b:Nat)(l:List UInt8)(w:World):Prop:=Lib.IsBuilderF 205 5 B b (Lib.byteCells l) w
abbrev te(b:Nat)(w w':World):Prop:=Lib.OthersKept 5 (some b) w w'
theorem DP(B b:Nat)(l:List UInt8)(s:ByteArray)(w:World)(h:kp B b l w)(hlen:l.length+s.size≤140737488355328)(hB:B≤w.heap.size) :
  Calls Tryz.prog 156 #[.pointer (some ⟨b,0,none⟩),.string s] w fun e w'=>e=.returned (.tuple #[.int .i64 s.size,.nilIface])∧(kp B b (l++s.data.toList) w'∧Below B w w'∧te b w w'):=by
 refine (Any.Builder_WriteString_k T0 KS B b (Lib.byteCells l) s w h (by rw[Lib.byteCells_length];exact hlen) hB).mono ?_;rintro e w' ⟨rfl,h1,h2,h3⟩;refine ⟨rfl,.inr ?_,h2,h3⟩;rw[Lib.byteCells_append];exact h1
theorem xj(B b:Nat)(l:List UInt8)(w:World)(h:kp B b l w)(hB:B≤w.heap.size) :
  Calls Tryz.prog 157 #[.pointer (some ⟨b,0,none⟩)] w fun e w'=>e=.returned (.string ⟨l.toArray⟩)∧(kp B b l w'∧Below B w w'∧te b w w'):=Any.Builder_String_any_k T6 KT B b l w h hB
theorem TJ(n:Int)(h:IntKind.i64.min≤n∧n≤IntKind.i64.max)(W:World)(hl:ew Tryz.prog W (fun _=>False)):Calls Tryz.prog 132 #[.int .i64 n] W fun e w'=>e=.returned (.string ⟨(Lib.itoa n).toArray⟩)∧Below W.heap.size W w':=by
 have h3':-9223372036854775808≤n:=h.1;have h4':n≤9223372036854775807:=h.2;obtain ⟨_,htab,rfl⟩:=hl.rr (n:=rG) (k:=.sj) (g:=3) (by simp[mh]) (by kernel_rfl);refine (Any.strconv_Itoa As n h3' h4' W htab).mono ?_;rintro e w' ⟨rfl,k,os,rfl⟩;exact ⟨rfl,tz W k os⟩
theorem Ar{w wr:World}(hl:ew Tryz.prog w (fun _=>False))(h:Below w.heap.size w wr):ew Tryz.prog wr (fun _=>False) :=
 hl.Ap (M:=fun b=>w.heap.size≤b) ⟨h.os,h.tape,h.output,h.size,fun k hk=>h.block k (by omega)⟩ (fun b hb=>.inl hb) (fun b hb=>hb.elim)
theorem rE{B b:Nat}{l:List UInt8}{w w':World}(hI:kp B b l w)(h:Below w.heap.size w w'):kp B b l w':=by
 have key:∀ p,Lib.BuilderAtF 205 5 B b p (Lib.byteCells l) w→Lib.BuilderAtF 205 5 B b p (Lib.byteCells l) w':=by
  rintro p ⟨h1,v,h2,⟨h3,h4⟩,h5⟩;refine ⟨h1,v,(h.block b (eD h2)).trans h2,⟨h3,?_⟩,h5⟩;rcases h4 with h4 | ⟨g,cap,cur,fz,k1,k2,k3,k4⟩
  ·exact .inl h4
  ·exact .inr ⟨g,cap,cur,fz,k1,k2,(h.block g (eD k3)).trans k3,k4⟩
 exact hI.imp (key _) (key _)
theorem Hh(a:List UInt8)(t:ByteArray):((⟨a.toArray⟩:ByteArray)++t)=⟨(a++t.data.toList).toArray⟩:=by
 apply ByteArray.ext;simp[ByteArray.data_append]
theorem WB(l:List Int)(n:Int):da (l++[n])=da l++(Lib.itoa n++[32]):=by simp[da]
theorem FW(m n k d kn om on:Int)(t:ByteArray)(w:World)(hl:ew Tryz.prog w (fun _=>False))(hbd:∀ x∈[m,n,k,d,kn,om,on],IntKind.i64.min≤x∧x≤IntKind.i64.max)(ht:t.size≤1000000000000) :
  Calls Tryz.prog 131 #[.agg #[.int .i64 m,.int .i64 n,.int .i64 k,.int .i64 d,.int .i64 kn,.int .i64 om,.int .i64 on,.string t]] w fun e w'=>e=.returned (.string ⟨(da [m,n,k,d,kn,om,on]++t.data.toList).toArray⟩)∧Below w.heap.size w w':=by
 obtain ⟨vs,hvs⟩:∃ vs:List Int,vs=[m,n,k,d,kn,om,on]:=⟨_,rfl⟩
 have hvl:vs.length=7:=by rw[hvs];rfl
 rw[←hvs] at hbd;have hlen:∀ j,(da (vs.take j)).length≤22*j:=by
  intro j;have:∀ l:List Int,(∀ x∈l,IntKind.i64.min≤x∧x≤IntKind.i64.max)→(da l).length≤22*l.length:=by
   intro l
   induction l with
   |nil=>intro _;simp[da]
   |cons x l ih =>
    intro h;have h1:=ih fun y hy=>h y (by simp[hy]);have h2:=Lib.itoa_length_le x (h x (by simp)).1 (h x (by simp)).2;simp only[da] at h1;simp only[da,List.flatMap_cons,Z1,Y4,X2];omega
  have h3:=this (vs.take j) fun x hx=>hbd x (List.mem_of_mem_take hx);have h4:(vs.take j).length≤j:=by rw[Z9];omega
  omega
 go_enter Tryz.func131,Tryz.ntmps131
 go_wp2
 go_loopw [26] (fun i wr=>∃ j:Nat,j≤7∧i=.int .i64 j∧kp w.heap.size (w.heap.size+1) (da (vs.take j)) wr∧wr.heap[w.heap.size]?=some (.cells #[.int .i64 m,.int .i64 n,.int .i64 k,.int .i64 d,.int .i64 kn,.int .i64 om,.int .i64 on,.string t] 50) ∧
  wr.heap[w.heap.size+1+1]?=some (.cells (vs.map (Value.int .i64)).toArray 3)∧Below w.heap.size w wr) (fun i _=>7-(RowKit.intOf i).toNat)
 case atStart =>
  obtain ⟨c1,hc1⟩:∃ c1,c1=Obj.cells #[.int .i64 m,.int .i64 n,.int .i64 k,.int .i64 d,.int .i64 kn,.int .i64 om,.int .i64 on,.string t] 50:=⟨_,rfl⟩
  have hv0:(#[.int .i64 m,.int .i64 n,.int .i64 k,.int .i64 d,.int .i64 kn,.int .i64 om,.int .i64 on]:Array Value)=(vs.map (Value.int .i64)).toArray:=by rw[hvs];rfl
  rw[←hc1,hv0];obtain ⟨w1,hw1⟩:∃ w1,w1=w.alloc c1:=⟨_,rfl⟩
  obtain ⟨w2,hw2⟩:∃ w2,w2=w1.alloc (Obj.cells #[Value.pointer none,Value.slice none 0 0] 205):=⟨_,rfl⟩
  obtain ⟨w3,hw3⟩:∃ w3,w3=w2.alloc (Obj.cells (vs.map (Value.int .i64)).toArray 3):=⟨_,rfl⟩
  have s1:w1.heap.size=w.heap.size+1:=by rw[hw1];simp
  have s2:w2.heap.size=w.heap.size+1+1:=by rw[hw2];simp[s1]
  have b1:Below w.heap.size w w1:=hw1▸iQ w c1;have b2:Below w1.heap.size w1 w2:=hw2▸iQ w1 _;have b3:Below w2.heap.size w2 w3:=hw3▸iQ w2 _;have e1:w1.heap[w.heap.size]?=some c1:=hw1▸heap_alloc_new w c1;have e2:w2.heap[w1.heap.size]?=some (Obj.cells #[Value.pointer none,Value.slice none 0 0] 205):=hw2▸heap_alloc_new w1 _;have e3:w3.heap[w2.heap.size]?=some (Obj.cells (vs.map (Value.int .i64)).toArray 3):=hw3▸heap_alloc_new w2 _;rw[←hw1,←hw2,←hw3];refine ⟨0,by omega,rfl,.inl ⟨by omega,.slice none 0 0,?_,⟨rfl,.inl ⟨rfl,rfl⟩⟩,by simp[Value.ownBlock]⟩,?_,?_,?_⟩
  ·rw[b3.block _ (by omega),←s1];exact e2
  ·rw[b3.block _ (by omega),b2.block _ (by omega)];exact e1
  ·rw[←s2];exact e3
  ·exact (b1.trans (b2.mono (by omega))).trans (b3.mono (by omega))
 case round =>
  obtain ⟨j,hj,rfl,hI,hr,hv,hbw⟩:=hrel;have hB1:w.heap.size≤wr.heap.size:=hbw.size;by_cases hlt:j<7
  ·have hjv:j<vs.length:=by omega
   have hc:wr.cell? ⟨w.heap.size+1+1,j,none⟩=some (.int .i64 vs[j]):=by
    simp[World.cell?,hv,hjv]
   have hbx:=hbd vs[j] (List.getElem_mem hjv);have jv:=Lib.itoa_length_le vs[j] hbx.1 hbx.2;have hj2:=hlen j;have htk:da (vs.take (j+1))=da (vs.take j)++(Lib.itoa vs[j]++[32]):=by rw[List.take_succ_eq_append_getElem hjv,WB]
   generalize vs[j]=x at *;have hsz:((⟨(Lib.itoa x).toArray⟩:ByteArray)++⟨#[32]⟩).size=(Lib.itoa x).length+1:=by rw[ByteArray.size_append];rfl
   have hdat:((⟨(Lib.itoa x).toArray⟩:ByteArray)++⟨#[32]⟩).data.toList=Lib.itoa x++[32]:=by simp
   have hlt':decide ((j:Int)<7)=true:=by simp;omega
   have hw:=eE (i:=j) (by omega)
   go_wp2_with (first | (go_at_call 132;refine (TJ x hbx _ (Ar hl hbw)).mono ?_;rintro e W1 ⟨rfl,hb1⟩) | (go_at_call 156;refine (DP w.heap.size (w.heap.size+1) _ _ _ (rE hI hb1) (by rw[hsz];omega) (by have:=hb1.size;omega)).mono ?_;rintro e W2 ⟨rfl,hI2,hb2,hk2⟩))
   have q1:w.heap.size<wr.heap.size:=eD hr;have q2:w.heap.size+1+1<wr.heap.size:=eD hv;refine ⟨⟨j+1,by omega,rfl,?_,?_,?_,?_⟩,by simp only[RowKit.intOf];omega⟩
   ·rw[htk];rw[hdat] at hI2;exact hI2
   ·exact hk2 _ _ ((hb1.block _ q1).trans hr) (by simp) (fun c fz e=>by cases e)
   ·exact hk2 _ _ ((hb1.block _ q2).trans hv) (by simp) (fun c fz e=>by cases e)
   ·exact (hbw.trans (hb1.mono hB1)).trans hb2
  ·have hj7:j=7:=by omega
   subst hj7;have hlt':decide (((7:Nat):Int)<7)=false:=by decide
   rw[List.take_of_length_le (by omega)] at hI;have hcr:wr.cell? ⟨w.heap.size,7,none⟩=some (.string t):=by simp[World.cell?,hr]
   have q1:w.heap.size<wr.heap.size:=eD hr
   go_wp2
   have hI1:kp w.heap.size (w.heap.size+1) (da vs) wr.drew:=rE hI ⟨rfl,rfl,rfl,Z3 _,fun _ _=>rfl⟩;have hcd:wr.drew.cell? ⟨w.heap.size,7,none⟩=some (.string t):=hcr;have ba:∀ W2,te (w.heap.size+1) wr.drew W2→W2.cell? ⟨w.heap.size,7,none⟩=some (.string t):=fun W2 hk=>by
    have:=hk _ _ hr (by simp) (fun c fz e=>by cases e);simp[World.cell?,this]
   have hl7:=hlen 7;rw[List.take_of_length_le (by omega)] at hl7;have hsum:¬ (9223372036854775807<(⟨(da vs).toArray⟩:ByteArray).size+t.size):=by
    have e1:(⟨(da vs).toArray⟩:ByteArray).size=(da vs).length:=by show (da vs).toArray.size=_;simp
    rw[e1];omega
   have hdr:Below w.heap.size wr wr.drew:=⟨rfl,rfl,rfl,Z3 _,fun _ _=>rfl⟩
   have hcall:=xj w.heap.size (w.heap.size+1) _ _ hI1 (by show _≤wr.heap.size;omega);generalize hS:(⟨(da vs).toArray⟩:ByteArray)=S at *
   go_region_with (go_at_call 157;refine (hcall).mono ?_;rintro e W2 ⟨rfl,hI2,hb2,hk2⟩;have hc2:=ba W2 hk2)
   all_goals go_wp2
   all_goals go_ret
   all_goals refine ⟨?_,(hbw.trans hdr).trans hb2⟩
   all_goals rw[←hvs,←hS,Hh]
   all_goals rfl
theorem CF{w:World}{D:aI}{E:aN}{r:ai}{v:Value}(h:aO w D E (enc r) v):v=.agg #[.int .i64 r.bd,.int .i64 r.no,.int .i64 r.kind,.int .i64 r.dZ,.int .i64 r.known,.int .i64 r.eU,.int .i64 r.fh,.string ⟨r.text.toArray⟩] ∧
  (∀ x∈dz r,IntKind.i64.min≤x∧x≤IntKind.i64.max)∧r.text.length≤maxLen:=by
 obtain ⟨cs,h1,h2⟩:=h;have h2':af w D E (.agg [.agg [.int .i64 r.bd,.int .i64 r.no],.int .i64 r.kind,.int .i64 r.dZ,.int .i64 r.known,.agg [.int .i64 r.eU,.int .i64 r.fh],.ak ⟨r.text.toArray⟩]) cs:=h2;simp only[af,aC] at h2';obtain ⟨_,_,rfl,⟨_,_,rfl,⟨rfl,a1⟩,_,_,rfl,⟨rfl,a2⟩,rfl⟩,_,_,rfl,⟨rfl,a3⟩,_,_,rfl,⟨rfl,a4⟩,_,_,rfl,⟨rfl,a5⟩,_,_,rfl,⟨_,_,rfl,⟨rfl,a6⟩,_,_,rfl,⟨rfl,a7⟩,rfl⟩,_,_,rfl,⟨rfl,a8⟩,rfl⟩:=h2';refine ⟨h1,?_,by simpa[ByteArray.size] using a8⟩;intro x hx;simp only[dz,zz3,List.not_mem_nil,or_false] at hx;rcases hx with rfl | rfl | rfl | rfl | rfl | rfl | rfl <;>assumption
theorem Eb(r:ai)(hs:r.text.length≤1000000000000):aQ Tryz.prog 131 [enc r] (enc (aj.of (cz r))):=by
 refine ⟨Gd,fun w D vs hl hD hv =>?_⟩;have hv':=hv;simp only[al] at hv';obtain ⟨v,rest,cs,rfl,h1,h2,rfl⟩:=hv';obtain ⟨rfl,hb,_⟩:=CF (fg h1 h2);refine (FW _ _ _ _ _ _ _ ⟨r.text.toArray⟩ w hl hb (by show r.text.toArray.size≤_;simpa using hs)).mono ?_;rintro e w' ⟨rfl,hbl⟩;have hlen:(cz r).length≤1000000001000:=by
  have:∀ l:List Int,(∀ x∈l,IntKind.i64.min≤x∧x≤IntKind.i64.max)→(da l).length≤22*l.length:=by
   intro l
   induction l with
   |nil=>intro _;simp[da]
   |cons x l ih =>
    intro h;have h1:=ih fun y hy=>h y (by simp[hy]);have h2:=Lib.itoa_length_le x (h x (by simp)).1 (h x (by simp)).2;simp only[da] at h1;simp only[da,List.flatMap_cons,Z1,Y4,X2];omega
  have h3:=this (dz r) hb;have h4:(dz r).length=7:=rfl;rw[cz,Z1];omega
 exact ⟨_,D,rfl,CX (l:=cz r) (by unfold maxLen;omega),hbl,fun b o hd=>Nat.lt_of_lt_of_le (hD b o hd) hbl.size,fun _ _ h _=>h⟩
end Go.Proofs.YtoffnnjbplgnaaaGreatDoor
namespace Go.Proofs.YtoffnnjbplgnaaaGreatDoor
open Go Go.Abs
open Go.Abs.Enc (enc)
def fV(c:UInt8):Bool := !(decide ((c.toNat:Int)<32)||(decide ((c.toNat:Int)>126)||((c.toNat:Int)==63)))
def gE(t:List UInt8):Bool:=decide (t.length≤160)&&t.all fV
theorem Bb{t:List UInt8}{i:Nat}(h:i<t.length)(h1:(t.take i).all fV=true):(fV t[i]=true→(t.take (i+1)).all fV=true)∧(fV t[i]=false→t.all fV=false):=by
 refine ⟨fun h2 =>?_,fun h2 =>?_⟩
 ·rw[List.take_succ_eq_append_getElem h,List.all_append,h1];simp[h2]
 ·rw[List.all_eq_false];exact ⟨t[i],List.getElem_mem h,by simp[h2]⟩
theorem kX(t:List UInt8):lD (enc (aj.of t))=some (.int .i64 (t.length:Int)):=by rw[p9,aj.c6]
theorem oh(t:List UInt8){i:Nat}(h:i<t.length):dU .dm [enc (aj.of t),.int .i64 (i:Int)]=some (.int .u8 (t[i].toNat:Int)):=C9 (aj.of t) h
theorem vP(t:List UInt8):kW (enc (aj.of t))=some (t.map enc):=rfl
theorem Ea(t:List UInt8):aQ Tryz.prog 130 [enc (aj.of t)] (enc (gE t)):=by
 refine aQ.bM Tryz.func130 Gc Hq IG (t8 rfl) (fun hwf W0 bF E1 =>?_);simp only[xz,BI,bB];clear hwf;have hl:=kX t;have hsb:=vP t;rcases q:decide ((t.length:Int)>160)
 rotate_left
 ·have h1:(t.length:Int)>160:=of_decide_eq_true q;rw[show gE t=false by simp only[gE];rw[decide_eq_false (by omega)];rfl];have R:=y6 @hl (y6 @q (y6 @bg aD))
  repeat' ((first |(with_reducible refine .guard (fun hb =>?_) (fun hb =>?_) <;>try simp only[hb])|refine U.aG (by decide +kernel) rfl fun K hK =>?_|(refine .aE [0,2,4,7,9,10,11,12,24] hK ?_;clear hK K)|(with_reducible refine .done (hK _ ?_);clear hK K)|refine U.of rfl ?_|(with_reducible refine aw.aF (fun h =>?_) (fun h =>?_) <;>try simp only[h])) <;>try simp only[aH,R,simprocAttr])
  all_goals clear R
  all_goals rfl
 have h1:¬ (t.length:Int)>160:=of_decide_eq_false q;rw[show gE t=t.all fV by simp only[gE];rw[decide_eq_true (by omega)];rfl];have R:=y6 @hl (y6 @hsb (y6 @q (y6 @bg (y6 @hE aD))))
 repeat' ((first |(with_reducible refine .guard (fun hb =>?_) (fun hb =>?_) <;>try simp only[hb])|refine aX.eC rfl fun m =>?_|refine U.aG (by decide +kernel) rfl fun K hK =>?_|(refine .aE [0,2,4,7,9,10,11,12,24] hK ?_;clear hK K)|(with_reducible refine .done (hK _ ?_);clear hK K)|refine U.of rfl ?_|(with_reducible refine aw.aF (fun h =>?_) (fun h =>?_) <;>try simp only[h])) <;>try simp only[aH,R,simprocAttr])
 all_goals clear R
 refine U.loop (fun i:Nat=>ay [(0,enc (aj.of t)),(9,enc t),(10,.int .i64 t.length),(11,.int .i64 i)] []) (fun i=>i≤t.length∧(t.take i).all fV=true) (fun i=>t.length-i) 0 ⟨Nat.zero_le _,rfl⟩ ?_ ?_
 ·refine bw.rf [9] 9 (x:=.view 9 [] 1 0 t.length) (y:=enc t) rfl (zr rfl) ?_ ?_ ?_ ?_ ?_ <;>simp[dO,bQ,cj,cn,cm,iV,cg,I.only,bG]
 rintro i ⟨hi,hok⟩;by_cases hlt:i<t.length
 ·have hlc:=eO hlt;have he:=fun A=>fR (A:=A) 1 hlt rfl;have hw:=eE (i:=i) (by omega);obtain ⟨h2,h3⟩:=Bb hlt hok;generalize t[i]=c at *;rcases q1:decide ((c.toNat:Int)<32)
  rotate_left
  ·rw[h3 (by simp[fV,q1])];have R:=y6 @hl (y6 @hlc (y6 @he (y6 @hw (y6 @q1 (y6 @qa (y6 @bg aD))))))
   repeat' ((first |(with_reducible refine .guard (fun hb =>?_) (fun hb =>?_) <;>try simp only[hb])|refine U.aG (by decide +kernel) rfl fun K hK =>?_|(refine .aE [0,2,4,7,9,10,11,12,24] hK ?_;clear hK K)|(with_reducible refine .done (hK _ ?_);clear hK K)|refine U.of rfl ?_|(with_reducible refine aw.aF (fun h =>?_) (fun h =>?_) <;>try simp only[h])) <;>try simp only[aH,R,simprocAttr])
   all_goals clear R
   all_goals rfl
  rcases q2:decide ((c.toNat:Int)>126)
  rotate_left
  ·rw[h3 (by simp only[fV,q1,q2];rfl)];have R:=y6 @hl (y6 @hlc (y6 @he (y6 @hw (y6 @q1 (y6 @q2 (y6 @qa (y6 @bg aD)))))))
   repeat' ((first |(with_reducible refine .guard (fun hb =>?_) (fun hb =>?_) <;>try simp only[hb])|refine U.aG (by decide +kernel) rfl fun K hK =>?_|(refine .aE [0,2,4,7,9,10,11,12,24] hK ?_;clear hK K)|(with_reducible refine .done (hK _ ?_);clear hK K)|refine U.of rfl ?_|(with_reducible refine aw.aF (fun h =>?_) (fun h =>?_) <;>try simp only[h])) <;>try simp only[aH,R,simprocAttr])
   all_goals clear R
   all_goals rfl
  rcases q3:((c.toNat:Int)==63)
  rotate_left
  ·rw[h3 (by simp only[fV,q1,q2,q3];rfl)];have R:=y6 @hl (y6 @hlc (y6 @he (y6 @hw (y6 @q1 (y6 @q2 (y6 @q3 (y6 @qa (y6 @bg aD))))))))
   repeat' ((first |(with_reducible refine .guard (fun hb =>?_) (fun hb =>?_) <;>try simp only[hb])|refine U.aG (by decide +kernel) rfl fun K hK =>?_|(refine .aE [0,2,4,7,9,10,11,12,24] hK ?_;clear hK K)|(with_reducible refine .done (hK _ ?_);clear hK K)|refine U.of rfl ?_|(with_reducible refine aw.aF (fun h =>?_) (fun h =>?_) <;>try simp only[h])) <;>try simp only[aH,R,simprocAttr])
   all_goals clear R
   all_goals rfl
  have h4:=h2 (by simp only[fV,q1,q2,q3];rfl);have R:=y6 @hl (y6 @hlc (y6 @he (y6 @hw (y6 @q1 (y6 @q2 (y6 @q3 (y6 @qa (y6 @bg aD))))))))
  repeat' ((first |(with_reducible refine .guard (fun hb =>?_) (fun hb =>?_) <;>try simp only[hb])|refine U.aG (by decide +kernel) rfl fun K hK =>?_|(refine .aE [0,2,4,7,9,10,11,12,24] hK ?_;clear hK K)|(with_reducible refine .done (hK _ ?_);clear hK K)|refine U.of rfl ?_|(with_reducible refine aw.aF (fun h =>?_) (fun h =>?_) <;>try simp only[h])) <;>try simp only[aH,R,simprocAttr])
  all_goals clear R
  refine ⟨i+1,⟨by omega,h4⟩,by omega,?_⟩;clear h2 h3 h4 hok;refine bw.cK ?_ ?_ ?_ ?_ <;>simp[cj,cn,cm,bQ,cg,I.only,bG]
 ·have hlc:=fm hlt;have hge:i=t.length:=by omega
  rw[hge,List.take_length] at hok;rw[hok];have R:=y6 @hl (y6 @hlc (y6 @bg aD))
  repeat' ((first |(with_reducible refine .guard (fun hb =>?_) (fun hb =>?_) <;>try simp only[hb])|refine U.aG (by decide +kernel) rfl fun K hK =>?_|(refine .aE [0,2,4,7,9,10,11,12,24] hK ?_;clear hK K)|(with_reducible refine .done (hK _ ?_);clear hK K)|refine U.of rfl ?_|(with_reducible refine aw.aF (fun h =>?_) (fun h =>?_) <;>try simp only[h])) <;>try simp only[aH,R,simprocAttr])
  all_goals clear R
  all_goals rfl
theorem EG(t:List UInt8):aQ Tryz.prog 86 [enc (aj.of t)] (enc (gE t)):=by
 refine aQ.bM Tryz.func86 G2 Ia Jr (t8 rfl) (fun hwf W0 bF E1 =>?_);simp only[yk,Cr,bB];clear hwf;have hl:=kX t;rcases q:decide ((t.length:Int)>160)
 rotate_left
 ·have h1:(t.length:Int)>160:=of_decide_eq_true q;rw[show gE t=false by simp only[gE];rw[decide_eq_false (by omega)];rfl];have R:=y6 @hl (y6 @q (y6 @bg aD))
  repeat' ((first |(with_reducible refine .guard (fun hb =>?_) (fun hb =>?_) <;>try simp only[hb])|refine U.aG (by decide +kernel) rfl fun K hK =>?_|(refine .aE [0,2,3,6,10,28] hK ?_;clear hK K)|(with_reducible refine .done (hK _ ?_);clear hK K)|refine U.of rfl ?_|(with_reducible refine aw.aF (fun h =>?_) (fun h =>?_) <;>try simp only[h])) <;>try simp only[aH,R,simprocAttr])
  all_goals clear R
  all_goals rfl
 have h1:¬ (t.length:Int)>160:=of_decide_eq_false q;rw[show gE t=t.all fV by simp only[gE];rw[decide_eq_true (by omega)];rfl];have R:=y6 @hl (y6 @q (y6 @bg aD))
 repeat' ((first |(with_reducible refine .guard (fun hb =>?_) (fun hb =>?_) <;>try simp only[hb])|refine U.aG (by decide +kernel) rfl fun K hK =>?_|(refine .aE [0,2,3,6,10,28] hK ?_;clear hK K)|(with_reducible refine .done (hK _ ?_);clear hK K)|refine U.of rfl ?_|(with_reducible refine aw.aF (fun h =>?_) (fun h =>?_) <;>try simp only[h])) <;>try simp only[aH,R,simprocAttr])
 all_goals clear R
 refine U.loop (fun i:Nat=>ay [(0,enc (aj.of t)),(3,.int .i64 i)] []) (fun i=>i≤t.length∧(t.take i).all fV=true) (fun i=>t.length-i) 0 ⟨Nat.zero_le _,rfl⟩ ?_ ?_
 ·refine bw.cK ?_ ?_ ?_ ?_ <;>simp[cj,cn,cm,bQ,cg,I.only,bG]
 rintro i ⟨hi,hok⟩;by_cases hlt:i<t.length
 ·have hlc:=eO hlt;have he:=oh t hlt;have hw:=eE (i:=i) (by omega);obtain ⟨h2,h3⟩:=Bb hlt hok;generalize t[i]=c at *;rcases q1:decide ((c.toNat:Int)<32)
  rotate_left
  ·rw[h3 (by simp[fV,q1])];have R:=y6 @hl (y6 @hlc (y6 @he (y6 @hw (y6 @q1 (y6 @bg aD)))))
   repeat' ((first |(with_reducible refine .guard (fun hb =>?_) (fun hb =>?_) <;>try simp only[hb])|refine U.aG (by decide +kernel) rfl fun K hK =>?_|(refine .aE [0,2,3,6,10,28] hK ?_;clear hK K)|(with_reducible refine .done (hK _ ?_);clear hK K)|refine U.of rfl ?_|(with_reducible refine aw.aF (fun h =>?_) (fun h =>?_) <;>try simp only[h])) <;>try simp only[aH,R,simprocAttr])
   all_goals clear R
   all_goals rfl
  rcases q2:decide ((c.toNat:Int)>126)
  rotate_left
  ·rw[h3 (by simp only[fV,q1,q2];rfl)];have R:=y6 @hl (y6 @hlc (y6 @he (y6 @hw (y6 @q1 (y6 @q2 (y6 @bg aD))))))
   repeat' ((first |(with_reducible refine .guard (fun hb =>?_) (fun hb =>?_) <;>try simp only[hb])|refine U.aG (by decide +kernel) rfl fun K hK =>?_|(refine .aE [0,2,3,6,10,28] hK ?_;clear hK K)|(with_reducible refine .done (hK _ ?_);clear hK K)|refine U.of rfl ?_|(with_reducible refine aw.aF (fun h =>?_) (fun h =>?_) <;>try simp only[h])) <;>try simp only[aH,R,simprocAttr])
   all_goals clear R
   all_goals rfl
  rcases q3:((c.toNat:Int)==63)
  rotate_left
  ·rw[h3 (by simp only[fV,q1,q2,q3];rfl)];have R:=y6 @hl (y6 @hlc (y6 @he (y6 @hw (y6 @q1 (y6 @q2 (y6 @q3 (y6 @bg aD)))))))
   repeat' ((first |(with_reducible refine .guard (fun hb =>?_) (fun hb =>?_) <;>try simp only[hb])|refine U.aG (by decide +kernel) rfl fun K hK =>?_|(refine .aE [0,2,3,6,10,28] hK ?_;clear hK K)|(with_reducible refine .done (hK _ ?_);clear hK K)|refine U.of rfl ?_|(with_reducible refine aw.aF (fun h =>?_) (fun h =>?_) <;>try simp only[h])) <;>try simp only[aH,R,simprocAttr])
   all_goals clear R
   all_goals rfl
  have h4:=h2 (by simp only[fV,q1,q2,q3];rfl);have R:=y6 @hl (y6 @hlc (y6 @he (y6 @hw (y6 @q1 (y6 @q2 (y6 @q3 (y6 @bg aD)))))))
  repeat' ((first |(with_reducible refine .guard (fun hb =>?_) (fun hb =>?_) <;>try simp only[hb])|refine U.aG (by decide +kernel) rfl fun K hK =>?_|(refine .aE [0,2,3,6,10,28] hK ?_;clear hK K)|(with_reducible refine .done (hK _ ?_);clear hK K)|refine U.of rfl ?_|(with_reducible refine aw.aF (fun h =>?_) (fun h =>?_) <;>try simp only[h])) <;>try simp only[aH,R,simprocAttr])
  all_goals clear R
  refine ⟨i+1,⟨by omega,h4⟩,by omega,?_⟩;clear h2 h3 h4 hok;refine bw.cK ?_ ?_ ?_ ?_ <;>simp[cj,cn,cm,bQ,cg,I.only,bG]
 ·have hlc:=fm hlt;have hge:i=t.length:=by omega
  rw[hge,List.take_length] at hok;rw[hok];have R:=y6 @hl (y6 @hlc (y6 @bg aD))
  repeat' ((first |(with_reducible refine .guard (fun hb =>?_) (fun hb =>?_) <;>try simp only[hb])|refine U.aG (by decide +kernel) rfl fun K hK =>?_|(refine .aE [0,2,3,6,10,28] hK ?_;clear hK K)|(with_reducible refine .done (hK _ ?_);clear hK K)|refine U.of rfl ?_|(with_reducible refine aw.aF (fun h =>?_) (fun h =>?_) <;>try simp only[h])) <;>try simp only[aH,R,simprocAttr])
  all_goals clear R
  all_goals rfl
def nW(r:ai):Bool:=(r.dZ==0)&&(decide (r.text=[])&&(ik r.fU&&((r.eU==r.bd)&&decide (r.fh<r.no))))
def fW(r:ai):Bool:=ik r.bA&&(dQ 0 40 r.kind&&(dQ 0 100000 r.dZ&&(dQ 0 100000 r.known&&gE r.text)))
def bf(r:ai):Bool:=fW r&&(if r.kind=0 then nW r else decide (r.fU=⟨0,0⟩))
theorem hZ:(I.ak ⟨#[]⟩)=enc (aj.of []):=rfl
theorem oU:(I.agg [.int .i64 0,.int .i64 0])=enc (⟨0,0⟩:Item):=rfl
theorem kd(a b:List UInt8):bE .eql (enc (aj.of a)) (enc (aj.of b))=some (.bool (decide (a=b))):=by rw[vN];simp only[aj.r9]
theorem gI(a b:List UInt8):bE .neq (enc (aj.of a)) (enc (aj.of b))=some (.bool (!decide (a=b))):=by rw[vO];simp only[aj.r9]
theorem oC(r:ai):aQ Tryz.prog 80 [enc r] (enc (bf r)):=by
 refine aQ.bM Tryz.func80 GW H4 Jl (t8 rfl) (fun hwf W0 bF E1 =>?_);simp only[c80,Cl,bB];clear hwf;have f1:=wH r.bA;have f2:=lS r.kind 0 40;have f3:=wF r.dZ;have f4:=wF r.known;have f5:=Ea r.text;have f6:=wH r.fU;cases q1:ik r.bA
 ·rw[q1] at f1;rw[show bf r=false by simp only[bf,fW,q1,Bool.false_and]];have R:=y6 @q1 (y6 @bg aD)
  repeat' ((first |(with_reducible refine .guard (fun hb =>?_) (fun hb =>?_) <;>try simp only[hb])|refine U.aG (by decide +kernel) rfl fun K hK =>?_|refine .flat _ (f1) rfl ?_|refine .flat _ (f2) rfl ?_|refine .flat _ (f3) rfl ?_|refine .flat _ (f4) rfl ?_|refine .flat _ (f5) rfl ?_|(refine .aE [0,1,2,30,33] hK ?_;clear hK K)|(with_reducible refine .done (hK _ ?_);clear hK K)|refine U.of rfl ?_|(with_reducible refine aw.aF (fun h =>?_) (fun h =>?_) <;>try simp only[h])) <;>try simp only[aH,R,simprocAttr])
  all_goals clear R
  all_goals rfl
 rw[q1] at f1;cases q2:dQ 0 40 r.kind
 ·rw[q2] at f2;rw[show bf r=false by simp only[bf,fW,q1,q2,Bool.false_and,Bool.and_false]];have R:=y6 @bg aD
  repeat' ((first |(with_reducible refine .guard (fun hb =>?_) (fun hb =>?_) <;>try simp only[hb])|refine U.aG (by decide +kernel) rfl fun K hK =>?_|refine .flat _ (f1) rfl ?_|refine .flat _ (f2) rfl ?_|refine .flat _ (f3) rfl ?_|refine .flat _ (f4) rfl ?_|refine .flat _ (f5) rfl ?_|(refine .aE [0,1,2,30,33] hK ?_;clear hK K)|(with_reducible refine .done (hK _ ?_);clear hK K)|refine U.of rfl ?_|(with_reducible refine aw.aF (fun h =>?_) (fun h =>?_) <;>try simp only[h])) <;>try simp only[aH,R,simprocAttr])
  all_goals clear R
  all_goals rfl
 rw[q2] at f2;cases q3:dQ 0 100000 r.dZ
 ·rw[q3] at f3;rw[show bf r=false by simp only[bf,fW,q1,q2,q3,Bool.false_and,Bool.and_false]];have R:=y6 @bg aD
  repeat' ((first |(with_reducible refine .guard (fun hb =>?_) (fun hb =>?_) <;>try simp only[hb])|refine U.aG (by decide +kernel) rfl fun K hK =>?_|refine .flat _ (f1) rfl ?_|refine .flat _ (f2) rfl ?_|refine .flat _ (f3) rfl ?_|refine .flat _ (f4) rfl ?_|refine .flat _ (f5) rfl ?_|(refine .aE [0,1,2,30,33] hK ?_;clear hK K)|(with_reducible refine .done (hK _ ?_);clear hK K)|refine U.of rfl ?_|(with_reducible refine aw.aF (fun h =>?_) (fun h =>?_) <;>try simp only[h])) <;>try simp only[aH,R,simprocAttr])
  all_goals clear R
  all_goals rfl
 rw[q3] at f3;cases q4:dQ 0 100000 r.known
 ·rw[q4] at f4;rw[show bf r=false by simp only[bf,fW,q1,q2,q3,q4,Bool.false_and,Bool.and_false]];have R:=y6 @bg aD
  repeat' ((first |(with_reducible refine .guard (fun hb =>?_) (fun hb =>?_) <;>try simp only[hb])|refine U.aG (by decide +kernel) rfl fun K hK =>?_|refine .flat _ (f1) rfl ?_|refine .flat _ (f2) rfl ?_|refine .flat _ (f3) rfl ?_|refine .flat _ (f4) rfl ?_|refine .flat _ (f5) rfl ?_|(refine .aE [0,1,2,30,33] hK ?_;clear hK K)|(with_reducible refine .done (hK _ ?_);clear hK K)|refine U.of rfl ?_|(with_reducible refine aw.aF (fun h =>?_) (fun h =>?_) <;>try simp only[h])) <;>try simp only[aH,R,simprocAttr])
  all_goals clear R
  all_goals rfl
 rw[q4] at f4;cases q5:gE r.text
 ·rw[q5] at f5;rw[show bf r=false by simp only[bf,fW,q1,q2,q3,q4,q5,Bool.false_and,Bool.and_false]];have R:=y6 @bg aD
  repeat' ((first |(with_reducible refine .guard (fun hb =>?_) (fun hb =>?_) <;>try simp only[hb])|refine U.aG (by decide +kernel) rfl fun K hK =>?_|refine .flat _ (f1) rfl ?_|refine .flat _ (f2) rfl ?_|refine .flat _ (f3) rfl ?_|refine .flat _ (f4) rfl ?_|refine .flat _ (f5) rfl ?_|(refine .aE [0,1,2,30,33] hK ?_;clear hK K)|(with_reducible refine .done (hK _ ?_);clear hK K)|refine U.of rfl ?_|(with_reducible refine aw.aF (fun h =>?_) (fun h =>?_) <;>try simp only[h])) <;>try simp only[aH,R,simprocAttr])
  all_goals clear R
  all_goals rfl
 rw[q5] at f5;have hH:fW r=true:=by simp only[fW,q1,q2,q3,q4,q5,Bool.and_self]
 cases k:(r.kind==0)
 ·rw[show bf r=decide (r.fU=⟨0,0⟩) by simp only[bf,hH,Bool.true_and];rw[if_neg (by simpa using k)]];have R:=y6 @k (y6 @oU (y6 @bg aD))
  repeat' ((first |(with_reducible refine .guard (fun hb =>?_) (fun hb =>?_) <;>try simp only[hb])|refine U.aG (by decide +kernel) rfl fun K hK =>?_|refine .flat _ (f1) rfl ?_|refine .flat _ (f2) rfl ?_|refine .flat _ (f3) rfl ?_|refine .flat _ (f4) rfl ?_|refine .flat _ (f5) rfl ?_|(refine .aE [0,1,2,30,33] hK ?_;clear hK K)|(with_reducible refine .done (hK _ ?_);clear hK K)|refine U.of rfl ?_|(with_reducible refine aw.aF (fun h =>?_) (fun h =>?_) <;>try simp only[h])) <;>try simp only[aH,R,simprocAttr])
  all_goals clear R
  all_goals rfl
 rw[show bf r=nW r by simp only[bf,hH,Bool.true_and];rw[if_pos (by simpa using k)]];simp only[nW];cases w1:(r.dZ==0)
 ·have R:=y6 @k (y6 @w1 (y6 @hZ (y6 @kd (y6 @bg aD))))
  repeat' ((first |(with_reducible refine .guard (fun hb =>?_) (fun hb =>?_) <;>try simp only[hb])|refine U.aG (by decide +kernel) rfl fun K hK =>?_|refine .flat _ (f1) rfl ?_|refine .flat _ (f2) rfl ?_|refine .flat _ (f3) rfl ?_|refine .flat _ (f4) rfl ?_|refine .flat _ (f5) rfl ?_|refine .flat _ (f6) rfl ?_|(refine .aE [0,1,2,30,33] hK ?_;clear hK K)|(with_reducible refine .done (hK _ ?_);clear hK K)|refine U.of rfl ?_|(with_reducible refine aw.aF (fun h =>?_) (fun h =>?_) <;>try simp only[h])) <;>try simp only[aH,R,simprocAttr])
  all_goals clear R
  all_goals rfl
 cases w2:decide (r.text=[])
 ·have R:=y6 @k (y6 @w1 (y6 @w2 (y6 @hZ (y6 @kd (y6 @bg aD)))))
  repeat' ((first |(with_reducible refine .guard (fun hb =>?_) (fun hb =>?_) <;>try simp only[hb])|refine U.aG (by decide +kernel) rfl fun K hK =>?_|refine .flat _ (f1) rfl ?_|refine .flat _ (f2) rfl ?_|refine .flat _ (f3) rfl ?_|refine .flat _ (f4) rfl ?_|refine .flat _ (f5) rfl ?_|refine .flat _ (f6) rfl ?_|(refine .aE [0,1,2,30,33] hK ?_;clear hK K)|(with_reducible refine .done (hK _ ?_);clear hK K)|refine U.of rfl ?_|(with_reducible refine aw.aF (fun h =>?_) (fun h =>?_) <;>try simp only[h])) <;>try simp only[aH,R,simprocAttr])
  all_goals clear R
  all_goals rfl
 cases w3:ik r.fU
 ·rw[w3] at f6;have R:=y6 @k (y6 @w1 (y6 @w2 (y6 @hZ (y6 @kd (y6 @bg aD)))))
  repeat' ((first |(with_reducible refine .guard (fun hb =>?_) (fun hb =>?_) <;>try simp only[hb])|refine U.aG (by decide +kernel) rfl fun K hK =>?_|refine .flat _ (f1) rfl ?_|refine .flat _ (f2) rfl ?_|refine .flat _ (f3) rfl ?_|refine .flat _ (f4) rfl ?_|refine .flat _ (f5) rfl ?_|refine .flat _ (f6) rfl ?_|(refine .aE [0,1,2,30,33] hK ?_;clear hK K)|(with_reducible refine .done (hK _ ?_);clear hK K)|refine U.of rfl ?_|(with_reducible refine aw.aF (fun h =>?_) (fun h =>?_) <;>try simp only[h])) <;>try simp only[aH,R,simprocAttr])
  all_goals clear R
  all_goals rfl
 rw[w3] at f6;cases w4:(r.eU==r.bd)
 ·have R:=y6 @k (y6 @w1 (y6 @w2 (y6 @w4 (y6 @hZ (y6 @kd (y6 @bg aD))))))
  repeat' ((first |(with_reducible refine .guard (fun hb =>?_) (fun hb =>?_) <;>try simp only[hb])|refine U.aG (by decide +kernel) rfl fun K hK =>?_|refine .flat _ (f1) rfl ?_|refine .flat _ (f2) rfl ?_|refine .flat _ (f3) rfl ?_|refine .flat _ (f4) rfl ?_|refine .flat _ (f5) rfl ?_|refine .flat _ (f6) rfl ?_|(refine .aE [0,1,2,30,33] hK ?_;clear hK K)|(with_reducible refine .done (hK _ ?_);clear hK K)|refine U.of rfl ?_|(with_reducible refine aw.aF (fun h =>?_) (fun h =>?_) <;>try simp only[h])) <;>try simp only[aH,R,simprocAttr])
  all_goals clear R
  all_goals rfl
 have R:=y6 @k (y6 @w1 (y6 @w2 (y6 @w4 (y6 @hZ (y6 @kd (y6 @bg aD))))))
 repeat' ((first |(with_reducible refine .guard (fun hb =>?_) (fun hb =>?_) <;>try simp only[hb])|refine U.aG (by decide +kernel) rfl fun K hK =>?_|refine .flat _ (f1) rfl ?_|refine .flat _ (f2) rfl ?_|refine .flat _ (f3) rfl ?_|refine .flat _ (f4) rfl ?_|refine .flat _ (f5) rfl ?_|refine .flat _ (f6) rfl ?_|(refine .aE [0,1,2,30,33] hK ?_;clear hK K)|(with_reducible refine .done (hK _ ?_);clear hK K)|refine U.of rfl ?_|(with_reducible refine aw.aF (fun h =>?_) (fun h =>?_) <;>try simp only[h])) <;>try simp only[aH,R,simprocAttr])
 all_goals clear R
 all_goals rfl
def iC(r:ai):Int:=if bf r=true then 0 else 80
def dj(t:List UInt8):List (List UInt8):=(iS 10 true t).dropLast
theorem uY{t:List UInt8}(h:∀ b∈t,b≠10):dj t=[]:=by rw[dj,yU h];rfl
theorem Ug{x:List UInt8}(y:List UInt8)(h:∀ b∈x,b≠10):dj (x++10::y)=(x++[10])::dj y:=by
 rw[dj,yT y h,if_pos rfl,List.dropLast_cons_of_ne_nil (JE 10 true y)];rfl
def fX(b6:Int→List UInt8→Option (ai×Int))(nx:List ai→ai→Bool):List ai→Int→Nat→List (List UInt8)→List ai×Nat
 |out,_,size,[]=>(out,size)
 |out,s,size,x::t=>match b6 s x with
  |none=>(out,size)
  |some q=>if nx out q.1=true then fX b6 nx (out++[q.1]) q.2 (size+x.length) t else (out,size)
def eQ:Int→List ai→List UInt8
 |_,[]=>[]
 |s,r::l=>cR s r++eQ (cL s (cz r)) l
def ev:Int→List ai→Int
 |s,[]=>s
 |s,r::l=>ev (cL s (cz r)) l
theorem DH:∀ (a b:List ai) (s:Int),eQ s (a++b)=eQ s a++eQ (ev s a) b
 | [],_,_=>rfl
 |r::a,b,s=>by simp only[Y3,eQ,ev,DH a b,Y0]
theorem DC:∀ (a b:List ai) (s:Int),ev s (a++b)=ev (ev s a) b
 | [],_,_=>rfl
 |r::a,b,s=>by simp only[Y3,ev,DC a b]
theorem DE:∀ (a:List ai) {s:Int},0≤s∧s<1000003→0≤ev s a∧ev s a<1000003
 | [],_,h=>h
 |_::a,_,h=>DE a (lR h _)
theorem wq(a:List ai)(r:ai)(s:Int):eQ s (a++[r])=eQ s a++cR (ev s a) r∧ev s (a++[r])=cL (ev s a) (cz r):=by
 rw[DH,DC];simp only[eQ,ev,List.append_nil,and_self]
def iN(ok:ai→Bool)(nx:List ai→ai→Bool):List ai→List ai→Prop
 |_,[]=>True
 |out,r::l=>ok r=true∧nx out r=true∧iN ok nx (out++[r]) l
def gJ(ok:ai→Bool)(nx:List ai→ai→Bool)(t:List UInt8):List ai×List UInt8:=((fX (dA ok) nx [] 1 0 (dj t)).1,t.take (fX (dA ok) nx [] 1 0 (dj t)).2)
def sh(ok:ai→Bool)(nx:List ai→ai→Bool)(a b:List UInt8):List ai×List UInt8 :=
 if (gJ ok nx a).1.length<(gJ ok nx b).1.length then gJ ok nx b else gJ ok nx a
def fb(l:List ai)(m:Int):Nat:=l.countP fun r=>decide (r.bd=m)
def nk(a b:ai):Bool:=decide (a.bd<b.bd∨(a.bd=b.bd∧a.no<b.no))
def jj(l:List ai)(r:ai):Bool:=match l.getLast? with
 |none=>decide ((r.bd=-1∧r.no=1)∨(-1<r.bd∧r.no=0))
 |some a=>decide ((r.bd=a.bd∧r.no=a.no+1)∨(a.bd<r.bd∧r.no=0))
def wc(l:List ai)(r:ai):Bool:=(match l.getLast? with
 |none=>true
 |some a=>nk a r)&&decide ((fb l r.bd:Int)=r.no)
def hG(aV:List ai→ai→Bool):List ai→List ai→Bool
 |_,[]=>true
 |out,r::l=>aV out r&&hG aV (out++[r]) l
def oz(l:List ai):Prop:=match l.getLast? with
 |none=>True
 |some a=>(fb l a.bd:Int)=a.no+1∧∀ m,a.bd<m→fb l m=0
theorem oS(l:List ai)(r:ai)(m:Int):fb (l++[r]) m=fb l m+if r.bd=m then 1 else 0:=by
 rw[fb,List.countP_append,←fb,List.countP_cons,List.countP_nil];simp
theorem W8{l:List ai}(h:oz l){r:ai}(hr:0≤r.bd∧0≤r.no):jj l r=wc l r∧(jj l r=true→oz (l++[r])):=by
 rw[oz] at h;have hl:(l++[r]).getLast?=some r:=by rw[List.getLast?_append];rfl
 rw[oz,hl,jj,wc];cases e:l.getLast? with
 |none =>
  have hnil:l=[]:=List.getLast?_eq_none_iff.1 e;subst hnil;have c0:∀ m,fb [] m=0:=fun _=>rfl;have c1:=c0 r.bd;simp only[Bool.true_and];refine ⟨?_,?_⟩
  ·rw[Bool.eq_iff_iff,decide_eq_true_iff,decide_eq_true_iff];constructor
   ·intro h;rcases h with h | h <;>omega
   ·intro h;right;omega
  ·intro h;rw[decide_eq_true_eq] at h;refine ⟨by rw[oS,if_pos rfl];omega,fun m hm =>?_⟩;rw[oS,if_neg (by omega),c0]
 |some a =>
  rw[e] at h;obtain ⟨h1,h2⟩:=h;simp only;refine ⟨?_,?_⟩
  ·rw[nk,Bool.eq_iff_iff,Z0,decide_eq_true_eq,decide_eq_true_eq,decide_eq_true_eq];rcases Int.lt_trichotomy a.bd r.bd with c | c | c
   ·have:=h2 r.bd c;constructor
    ·intro k;exact ⟨.inl c,by omega⟩
    ·intro k;right;omega
   ·rw[←c];constructor
    ·intro k;exact ⟨.inr ⟨rfl,by omega⟩,by omega⟩
    ·intro k;left;omega
   ·constructor
    ·intro k;omega
    ·intro k;omega
  ·intro k;rw[decide_eq_true_eq] at k;rw[oS,if_pos rfl];refine ⟨?_,fun m hm =>?_⟩
   ·rcases k with k | k
    ·rw[k.1];omega
    ·have:=h2 r.bd k.1;omega
   ·rw[oS,if_neg (by omega),h2 m (by omega)]
theorem xk:∀ (l out:List ai),oz out→(∀ r∈l,0≤r.bd∧0≤r.no)→hG jj out l=true→out.Pairwise (fun a b=>nk a b=true)→(out++l).Pairwise (fun a b=>nk a b=true)
 | [],out,_,_,_,h=>by simpa using h
 |r::l,out,h,hr,hb,hp=>by
  simp only[hG,Z0] at hb;obtain ⟨e,k⟩:=W8 h (hr r (by simp));have:=xk l (out++[r]) (k hb.1) (fun x hx=>hr x (by simp[hx])) hb.2 (by
   rw[List.pairwise_append];refine ⟨hp,by simp,fun a ha b hb' =>?_⟩;rw[List.mem_singleton.1 hb'];have hs:=hb.1;rw[e,wc,Z0] at hs;have hne:out≠[]:=fun k=>by rw[k] at ha;cases ha
   have hlast:=List.getLast?_eq_some_getLast hne;rw[hlast] at hs;have h1:=hs.1;have hcat:=List.dropLast_concat_getLast hne;rw[←hcat] at ha hp;rcases zz2.1 ha with ha | ha
   ·have h2:=(List.pairwise_append.1 hp).2.2 a ha _ (List.mem_singleton.2 rfl);simp only[nk,decide_eq_true_eq] at h1 h2 ⊢;omega
   ·rw[List.mem_singleton.1 ha];exact h1)
  rwa [Y0,List.singleton_append] at this
def dc(out:List ai)(r:ai):Bool:=decide (out.length<60)&&decide ((fb out r.bd:Int)=r.no)
theorem iN.len{ok:ai→Bool} : ∀ {l out:List ai},out.length≤60→iN ok dc out l→out.length+l.length≤60
 | [],out,h,_=>by simpa using h
 |r::l,out,h,hw=>by
  have hn:=hw.2.1;simp only[dc,Z0,decide_eq_true_eq] at hn;have:=iN.len (out:=out++[r]) (by simp;omega) hw.2.2;simp only[Z1,Y4,X2] at this ⊢;omega
theorem iN.ok{ok:ai→Bool}{nx:List ai→ai→Bool} : ∀ {l out:List ai},iN ok nx out l→∀ r∈l,ok r=true
 | [],_,_,r,h=>by cases h
 |_::_,_,hw,r,h=>by
  rcases zz3.1 h with rfl | h
  ·exact hw.1
  ·exact iN.ok hw.2.2 r h
theorem mc{lo hi n:Int} : dQ lo hi n=true↔lo≤n∧n≤hi:=by simp[dQ]
theorem A8{x:Item} : ik x=true↔(0≤x.bd∧x.bd≤5)∧0≤x.no∧x.no≤9999:=by simp[ik,mc]
theorem pL{r:ai}(h:bf r=true):fW r=true:=by
 simp only[bf,Z0] at h;exact h.1
theorem pK{r:ai}(h:fW r=true):(0≤r.bd∧r.bd≤5)∧(0≤r.no∧r.no≤9999)∧(0≤r.kind∧r.kind≤40)∧(0≤r.dZ∧r.dZ≤100000)∧(0≤r.known∧r.known≤100000)∧gE r.text=true:=by
 simp only[fW,A8,mc,Z0] at h;exact ⟨h.1.1,h.1.2,h.2.1,h.2.2.1,h.2.2.2.1,h.2.2.2.2⟩
theorem Vs{r:ai}(h:bf r=true):(0≤r.eU∧r.eU≤5)∧(0≤r.fh∧r.fh≤9999):=by
 simp only[bf,Z0] at h;obtain ⟨_,h⟩:=h;split at h
 ·simp only[nW,A8,Z0] at h;exact h.2.2.1
 ·simp only[decide_eq_true_eq,ai.fU,Item.mk.injEq] at h;omega
theorem pM{r:ai}(h:bf r=true):∀ n∈dz r,0≤n∧n<100000000:=by
 obtain ⟨a1,a2,a3,a4,a5,_⟩:=pK (pL h);obtain ⟨a6,a7⟩:=Vs h;intro n hn;simp only[dz,zz3,List.not_mem_nil,or_false] at hn;rcases hn with rfl | rfl | rfl | rfl | rfl | rfl | rfl <;>omega
theorem Vx{t:List UInt8}(h:gE t=true):t.length≤160:=by
 simp only[gE,Z0,decide_eq_true_eq] at h;exact h.1
theorem sd{r:ai}(h:bf r=true):r.text.length≤160:=Vx (pK (pL h)).2.2.2.2.2
theorem wO(r:ai):aQ Tryz.prog 34 [enc r] (enc (iC r)):=by
 refine aQ.bM Tryz.func34 GK HT Ja (t8 rfl) (fun hwf W0 bF E1 =>?_);simp only[xY,Cb,bB];clear hwf;have f1:=wU r.bA;have f2:=lp r.kind 0 40;have f3:=lp r.dZ 0 100000;have f4:=lp r.known 0 100000;have f5:=EG r.text;have f6:=wU r.fU;have no:bf r=false→iC r=80:=fun h=>by simp[iC,h]
 have ye:bf r=true→iC r=0:=fun h=>by simp[iC,h]
 cases q1:ik r.bA
 ·rw[q1] at f1;rw[no (by simp only[bf,fW,q1,Bool.false_and])];have R:=y6 @q1 (y6 @bg aD)
  repeat' ((first |(with_reducible refine .guard (fun hb =>?_) (fun hb =>?_) <;>try simp only[hb])|refine U.aG (by decide +kernel) rfl fun K hK =>?_|refine .flat _ (f1) rfl ?_|refine .flat _ (f2) rfl ?_|refine .flat _ (f3) rfl ?_|refine .flat _ (f4) rfl ?_|refine .flat _ (f5) rfl ?_|(refine .aE [0,1,2,30,33,65,69] hK ?_;clear hK K)|(with_reducible refine .done (hK _ ?_);clear hK K)|refine U.of rfl ?_|(with_reducible refine aw.aF (fun h =>?_) (fun h =>?_) <;>try simp only[h])) <;>try simp only[aH,R,simprocAttr])
  all_goals clear R
  all_goals rfl
 rw[q1] at f1;cases q2:dQ 0 40 r.kind
 ·rw[q2] at f2;rw[no (by simp only[bf,fW,q1,q2,Bool.false_and,Bool.and_false])];have R:=y6 @bg aD
  repeat' ((first |(with_reducible refine .guard (fun hb =>?_) (fun hb =>?_) <;>try simp only[hb])|refine U.aG (by decide +kernel) rfl fun K hK =>?_|refine .flat _ (f1) rfl ?_|refine .flat _ (f2) rfl ?_|refine .flat _ (f3) rfl ?_|refine .flat _ (f4) rfl ?_|refine .flat _ (f5) rfl ?_|(refine .aE [0,1,2,30,33,65,69] hK ?_;clear hK K)|(with_reducible refine .done (hK _ ?_);clear hK K)|refine U.of rfl ?_|(with_reducible refine aw.aF (fun h =>?_) (fun h =>?_) <;>try simp only[h])) <;>try simp only[aH,R,simprocAttr])
  all_goals clear R
  all_goals rfl
 rw[q2] at f2;cases q3:dQ 0 100000 r.dZ
 ·rw[q3] at f3;rw[no (by simp only[bf,fW,q1,q2,q3,Bool.false_and,Bool.and_false])];have R:=y6 @bg aD
  repeat' ((first |(with_reducible refine .guard (fun hb =>?_) (fun hb =>?_) <;>try simp only[hb])|refine U.aG (by decide +kernel) rfl fun K hK =>?_|refine .flat _ (f1) rfl ?_|refine .flat _ (f2) rfl ?_|refine .flat _ (f3) rfl ?_|refine .flat _ (f4) rfl ?_|refine .flat _ (f5) rfl ?_|(refine .aE [0,1,2,30,33,65,69] hK ?_;clear hK K)|(with_reducible refine .done (hK _ ?_);clear hK K)|refine U.of rfl ?_|(with_reducible refine aw.aF (fun h =>?_) (fun h =>?_) <;>try simp only[h])) <;>try simp only[aH,R,simprocAttr])
  all_goals clear R
  all_goals rfl
 rw[q3] at f3;cases q4:dQ 0 100000 r.known
 ·rw[q4] at f4;rw[no (by simp only[bf,fW,q1,q2,q3,q4,Bool.false_and,Bool.and_false])];have R:=y6 @bg aD
  repeat' ((first |(with_reducible refine .guard (fun hb =>?_) (fun hb =>?_) <;>try simp only[hb])|refine U.aG (by decide +kernel) rfl fun K hK =>?_|refine .flat _ (f1) rfl ?_|refine .flat _ (f2) rfl ?_|refine .flat _ (f3) rfl ?_|refine .flat _ (f4) rfl ?_|refine .flat _ (f5) rfl ?_|(refine .aE [0,1,2,30,33,65,69] hK ?_;clear hK K)|(with_reducible refine .done (hK _ ?_);clear hK K)|refine U.of rfl ?_|(with_reducible refine aw.aF (fun h =>?_) (fun h =>?_) <;>try simp only[h])) <;>try simp only[aH,R,simprocAttr])
  all_goals clear R
  all_goals rfl
 rw[q4] at f4;cases q5:gE r.text
 ·rw[q5] at f5;rw[no (by simp only[bf,fW,q1,q2,q3,q4,q5,Bool.false_and,Bool.and_false])];have R:=y6 @bg aD
  repeat' ((first |(with_reducible refine .guard (fun hb =>?_) (fun hb =>?_) <;>try simp only[hb])|refine U.aG (by decide +kernel) rfl fun K hK =>?_|refine .flat _ (f1) rfl ?_|refine .flat _ (f2) rfl ?_|refine .flat _ (f3) rfl ?_|refine .flat _ (f4) rfl ?_|refine .flat _ (f5) rfl ?_|(refine .aE [0,1,2,30,33,65,69] hK ?_;clear hK K)|(with_reducible refine .done (hK _ ?_);clear hK K)|refine U.of rfl ?_|(with_reducible refine aw.aF (fun h =>?_) (fun h =>?_) <;>try simp only[h])) <;>try simp only[aH,R,simprocAttr])
  all_goals clear R
  all_goals rfl
 rw[q5] at f5;have hH:fW r=true:=by simp only[fW,q1,q2,q3,q4,q5,Bool.and_self]
 cases k:(r.kind==0)
 ·cases z:decide (r.fU=⟨0,0⟩)
  ·rw[no (by simp only[bf,hH,Bool.true_and];rw[if_neg (by simpa using k)];exact z)];have R:=y6 @k (y6 @z (y6 @oU (y6 @bg aD)))
   repeat' ((first |(with_reducible refine .guard (fun hb =>?_) (fun hb =>?_) <;>try simp only[hb])|refine U.aG (by decide +kernel) rfl fun K hK =>?_|refine .flat _ (f1) rfl ?_|refine .flat _ (f2) rfl ?_|refine .flat _ (f3) rfl ?_|refine .flat _ (f4) rfl ?_|refine .flat _ (f5) rfl ?_|(refine .aE [0,1,2,30,33,65,69] hK ?_;clear hK K)|(with_reducible refine .done (hK _ ?_);clear hK K)|refine U.of rfl ?_|(with_reducible refine aw.aF (fun h =>?_) (fun h =>?_) <;>try simp only[h])) <;>try simp only[aH,R,simprocAttr])
   all_goals clear R
   all_goals rfl
  ·rw[ye (by simp only[bf,hH,Bool.true_and];rw[if_neg (by simpa using k)];exact z)];have R:=y6 @k (y6 @z (y6 @oU (y6 @bg aD)))
   repeat' ((first |(with_reducible refine .guard (fun hb =>?_) (fun hb =>?_) <;>try simp only[hb])|refine U.aG (by decide +kernel) rfl fun K hK =>?_|refine .flat _ (f1) rfl ?_|refine .flat _ (f2) rfl ?_|refine .flat _ (f3) rfl ?_|refine .flat _ (f4) rfl ?_|refine .flat _ (f5) rfl ?_|(refine .aE [0,1,2,30,33,65,69] hK ?_;clear hK K)|(with_reducible refine .done (hK _ ?_);clear hK K)|refine U.of rfl ?_|(with_reducible refine aw.aF (fun h =>?_) (fun h =>?_) <;>try simp only[h])) <;>try simp only[aH,R,simprocAttr])
   all_goals clear R
   all_goals rfl
 have hK:bf r=nW r:=by simp only[bf,hH,Bool.true_and];rw[if_pos (by simpa using k)]
 simp only[nW] at hK;cases w1:(r.dZ==0)
 ·have w1':(r.dZ != 0)=true:=by simp[bne,w1]
  rw[no (by rw[hK,w1];rfl)];have R:=y6 @k (y6 @w1' (y6 @hZ (y6 @gI (y6 @bg aD))))
  repeat' ((first |(with_reducible refine .guard (fun hb =>?_) (fun hb =>?_) <;>try simp only[hb])|refine U.aG (by decide +kernel) rfl fun K hK =>?_|refine .flat _ (f1) rfl ?_|refine .flat _ (f2) rfl ?_|refine .flat _ (f3) rfl ?_|refine .flat _ (f4) rfl ?_|refine .flat _ (f5) rfl ?_|refine .flat _ (f6) rfl ?_|(refine .aE [0,1,2,30,33,65,69] hK ?_;clear hK K)|(with_reducible refine .done (hK _ ?_);clear hK K)|refine U.of rfl ?_|(with_reducible refine aw.aF (fun h =>?_) (fun h =>?_) <;>try simp only[h])) <;>try simp only[aH,R,simprocAttr])
  all_goals clear R
  all_goals rfl
 have w1':(r.dZ != 0)=false:=by simp[bne,w1]
 cases w2:decide (r.text=[])
 ·rw[no (by rw[hK,w1,w2];rfl)];have R:=y6 @k (y6 @w1' (y6 @w2 (y6 @hZ (y6 @gI (y6 @bg aD)))))
  repeat' ((first |(with_reducible refine .guard (fun hb =>?_) (fun hb =>?_) <;>try simp only[hb])|refine U.aG (by decide +kernel) rfl fun K hK =>?_|refine .flat _ (f1) rfl ?_|refine .flat _ (f2) rfl ?_|refine .flat _ (f3) rfl ?_|refine .flat _ (f4) rfl ?_|refine .flat _ (f5) rfl ?_|refine .flat _ (f6) rfl ?_|(refine .aE [0,1,2,30,33,65,69] hK ?_;clear hK K)|(with_reducible refine .done (hK _ ?_);clear hK K)|refine U.of rfl ?_|(with_reducible refine aw.aF (fun h =>?_) (fun h =>?_) <;>try simp only[h])) <;>try simp only[aH,R,simprocAttr])
  all_goals clear R
  all_goals rfl
 cases w3:ik r.fU
 ·rw[w3] at f6;rw[no (by rw[hK,w1,w2,w3];rfl)];have R:=y6 @k (y6 @w1' (y6 @w2 (y6 @hZ (y6 @gI (y6 @bg aD)))))
  repeat' ((first |(with_reducible refine .guard (fun hb =>?_) (fun hb =>?_) <;>try simp only[hb])|refine U.aG (by decide +kernel) rfl fun K hK =>?_|refine .flat _ (f1) rfl ?_|refine .flat _ (f2) rfl ?_|refine .flat _ (f3) rfl ?_|refine .flat _ (f4) rfl ?_|refine .flat _ (f5) rfl ?_|refine .flat _ (f6) rfl ?_|(refine .aE [0,1,2,30,33,65,69] hK ?_;clear hK K)|(with_reducible refine .done (hK _ ?_);clear hK K)|refine U.of rfl ?_|(with_reducible refine aw.aF (fun h =>?_) (fun h =>?_) <;>try simp only[h])) <;>try simp only[aH,R,simprocAttr])
  all_goals clear R
  all_goals rfl
 rw[w3] at f6;cases w4:(r.eU==r.bd)
 ·have w4':(r.eU != r.bd)=true:=by simp[bne,w4]
  rw[no (by rw[hK,w1,w2,w3,w4];rfl)];have R:=y6 @k (y6 @w1' (y6 @w2 (y6 @w4' (y6 @hZ (y6 @gI (y6 @bg aD))))))
  repeat' ((first |(with_reducible refine .guard (fun hb =>?_) (fun hb =>?_) <;>try simp only[hb])|refine U.aG (by decide +kernel) rfl fun K hK =>?_|refine .flat _ (f1) rfl ?_|refine .flat _ (f2) rfl ?_|refine .flat _ (f3) rfl ?_|refine .flat _ (f4) rfl ?_|refine .flat _ (f5) rfl ?_|refine .flat _ (f6) rfl ?_|(refine .aE [0,1,2,30,33,65,69] hK ?_;clear hK K)|(with_reducible refine .done (hK _ ?_);clear hK K)|refine U.of rfl ?_|(with_reducible refine aw.aF (fun h =>?_) (fun h =>?_) <;>try simp only[h])) <;>try simp only[aH,R,simprocAttr])
  all_goals clear R
  all_goals rfl
 have w4':(r.eU != r.bd)=false:=by simp[bne,w4]
 cases w5:decide (r.fh<r.no)
 ·have w5':decide (r.fh≥r.no)=true:=by rw[decide_eq_false_iff_not] at w5;exact decide_eq_true (by omega)
  rw[no (by rw[hK,w1,w2,w3,w4,w5];rfl)];have R:=y6 @k (y6 @w1' (y6 @w2 (y6 @w4' (y6 @w5' (y6 @hZ (y6 @gI (y6 @bg aD)))))))
  repeat' ((first |(with_reducible refine .guard (fun hb =>?_) (fun hb =>?_) <;>try simp only[hb])|refine U.aG (by decide +kernel) rfl fun K hK =>?_|refine .flat _ (f1) rfl ?_|refine .flat _ (f2) rfl ?_|refine .flat _ (f3) rfl ?_|refine .flat _ (f4) rfl ?_|refine .flat _ (f5) rfl ?_|refine .flat _ (f6) rfl ?_|(refine .aE [0,1,2,30,33,65,69] hK ?_;clear hK K)|(with_reducible refine .done (hK _ ?_);clear hK K)|refine U.of rfl ?_|(with_reducible refine aw.aF (fun h =>?_) (fun h =>?_) <;>try simp only[h])) <;>try simp only[aH,R,simprocAttr])
  all_goals clear R
  all_goals rfl
 ·have w5':decide (r.fh≥r.no)=false:=by rw[decide_eq_true_eq] at w5;exact decide_eq_false (by omega)
  rw[ye (by rw[hK,w1,w2,w3,w4,w5];rfl)];have R:=y6 @k (y6 @w1' (y6 @w2 (y6 @w4' (y6 @w5' (y6 @hZ (y6 @gI (y6 @bg aD)))))))
  repeat' ((first |(with_reducible refine .guard (fun hb =>?_) (fun hb =>?_) <;>try simp only[hb])|refine U.aG (by decide +kernel) rfl fun K hK =>?_|refine .flat _ (f1) rfl ?_|refine .flat _ (f2) rfl ?_|refine .flat _ (f3) rfl ?_|refine .flat _ (f4) rfl ?_|refine .flat _ (f5) rfl ?_|refine .flat _ (f6) rfl ?_|(refine .aE [0,1,2,30,33,65,69] hK ?_;clear hK K)|(with_reducible refine .done (hK _ ?_);clear hK K)|refine U.of rfl ?_|(with_reducible refine aw.aF (fun h =>?_) (fun h =>?_) <;>try simp only[h])) <;>try simp only[aH,R,simprocAttr])
  all_goals clear R
  all_goals rfl
theorem DL{n:Int}(h:0≤n∧n<256):IntKind.u8.wrap n=n:=by
 simp only[IntKind.wrap,IntKind.bits,IntKind.signed];simp;omega
theorem eH(a b:List UInt8)(h:a.length+b.length≤9223372036854775807):bE .add (enc (aj.of a)) (enc (aj.of b))=some (enc (aj.of (a++b))):=by
 rw[WI _ _ (by rw[aj.c6,aj.c6];exact h)];rfl
def jR(m:Nat):UInt8:=UInt8.ofNat (48+m%10)
theorem TH{m:Nat}(h:10≤m):Lib.itoa (m:Int)=Lib.itoa ((m / 10:Nat):Int)++[jR m]:=by
 rw[Lib.itoa_nonneg,Lib.itoa_nonneg,qT (by omega)];rfl
theorem TI{m:Nat}(h:m<10):Lib.itoa (m:Int)=[jR m]:=by
 rw[Lib.itoa_nonneg,Lib.decDigits_one (by omega),jR,Nat.mod_eq_of_lt h]
def th(t:Nat×List UInt8):ab:=ay [(0,.int .i64 (t.1:Int)),(3,enc (aj.of (jR t.1::t.2)))] []
theorem wI(m:Nat)(hm:m≤9223372036854775807):aQ Tryz.prog 134 [enc (m:Int)] (enc (aj.of (Lib.itoa (m:Int)))):=by
 refine aQ.bM Tryz.func134 Gg Hs II (t8 rfl) (fun hwf W0 bF E1 =>?_);simp only[xB,BK,bB];clear hwf;have hd:∀ k:Nat,k≤9223372036854775807→IntKind.i64.wrap (48+(k:Int).tmod 10)=48+(k:Int).tmod 10∧IntKind.u8.wrap (48+(k:Int).tmod 10)=48+(k:Int).tmod 10∧aj.of [UInt8.ofNat (48+(k:Int).tmod 10).toNat]=aj.of [jR k]:=fun k hk=>by
  have e:((k:Int)).tmod 10=((k%10:Nat):Int):=rfl;rw[e];refine ⟨dB _ (by omega) (by omega),DL (by omega),?_⟩;rw[jR,show ((48:Int)+((k%10:Nat):Int)).toNat=48+k%10 by omega]
 obtain ⟨h1,h2,h3⟩:=hd m hm;have R:=y6 @h1 (y6 @h2 (y6 @h3 (y6 @bg aD)))
 repeat' ((first |refine U.aG (by decide +kernel) rfl fun K hK =>?_|(refine .aE [0,2,3,11] hK ?_;clear hK K)|(with_reducible refine .done (hK _ ?_);clear hK K)|refine U.of rfl ?_|(with_reducible refine aw.aF (fun h =>?_) (fun h =>?_) <;>try simp only[h])) <;>try simp only[aH,R,simprocAttr])
 all_goals clear R
 refine U.loop th (fun t=>t.1≤9223372036854775807∧Lib.itoa (m:Int)=Lib.itoa (t.1:Int)++t.2) (fun t=>t.1) (m,[]) ⟨hm,by simp⟩ ?_ ?_
 ·simp only[th];refine bw.cK ?_ ?_ ?_ ?_ <;>simp[cj,cn,cm,bQ,cg,I.only,bG]
 rintro ⟨k,t⟩ ⟨hk,hin⟩;simp only at hk hin;simp only[th];by_cases hlt:k<10
 ·have hlc:decide ((k:Int)≥10)=false:=decide_eq_false (by omega);rw[TI hlt] at hin;rw[hin];have R:=y6 @hlc (y6 @bg aD)
  repeat' ((first |refine U.aG (by decide +kernel) rfl fun K hK =>?_|(refine .aE [0,2,3,11] hK ?_;clear hK K)|(with_reducible refine .done (hK _ ?_);clear hK K)|refine U.of rfl ?_|(with_reducible refine aw.aF (fun h =>?_) (fun h =>?_) <;>try simp only[h])) <;>try simp only[aH,R,simprocAttr])
  all_goals clear R
  all_goals rfl
 ·have hlc:decide ((k:Int)≥10)=true:=decide_eq_true (by omega);have hq:IntKind.i64.wrap ((k:Int).tdiv 10)=((k / 10:Nat):Int):=by
   have e:((k:Int)).tdiv 10=((k / 10:Nat):Int):=rfl;rw[e];exact dB _ (by omega) (by omega)
  obtain ⟨g1,g2,g3⟩:=hd (k / 10) (by omega);rw[TH (m:=k) (by omega),Y0,List.singleton_append] at hin;have hlen:(jR k::t).length≤100:=by
   have h4:=congrArg List.length hin;rw[Z1] at h4;have h5:=Lib.itoa_length_le (m:Int) (by omega) (by omega);omega
  have hadd:=eH [jR (k / 10)] (jR k::t) (by simp only[List.length_singleton];omega);have R:=y6 @hlc (y6 @hq (y6 @g1 (y6 @g2 (y6 @g3 (y6 @hadd (y6 @bg aD))))))
  repeat' ((first |refine U.aG (by decide +kernel) rfl fun K hK =>?_|(refine .aE [0,2,3,11] hK ?_;clear hK K)|(with_reducible refine .done (hK _ ?_);clear hK K)|refine U.of rfl ?_|(with_reducible refine aw.aF (fun h =>?_) (fun h =>?_) <;>try simp only[h])) <;>try simp only[aH,R,simprocAttr])
  all_goals clear R
  refine ⟨(k / 10,jR k::t),⟨by simp only;omega,hin⟩,by simp only;omega,?_⟩;clear hin hd hadd hlen;refine bw.cK ?_ ?_ ?_ ?_ <;>simp[cj,cn,cm,bQ,cg,I.only,bG]
theorem lT{n:Int}(h:0≤n∧n<100000000):aQ Tryz.prog 134 [.int .i64 n] (enc (aj.of (Lib.itoa n)))∧(Lib.itoa n).length≤8:=by
 obtain ⟨m,rfl⟩:=Y1 h.1;exact ⟨wI m (by omega),pt (k:=7) (by omega)⟩
theorem Ed(r:ai)(hs:r.text.length≤1000000000000)(hn:∀ n∈dz r,0≤n∧n<100000000):aQ Tryz.prog 133 [enc r] (enc (aj.of (cz r))):=by
 obtain ⟨c1,l1⟩:=lT (hn r.bd (by simp[dz]));obtain ⟨c2,l2⟩:=lT (hn r.no (by simp[dz]));obtain ⟨c3,l3⟩:=lT (hn r.kind (by simp[dz]));obtain ⟨c4,l4⟩:=lT (hn r.dZ (by simp[dz]));obtain ⟨c5,l5⟩:=lT (hn r.known (by simp[dz]));obtain ⟨F0,l6⟩:=lT (hn r.eU (by simp[dz]));obtain ⟨F1,l7⟩:=lT (hn r.fh (by simp[dz]));have hb:cz r=Lib.itoa r.bd++[32]++Lib.itoa r.no++[32]++Lib.itoa r.kind++[32]++Lib.itoa r.dZ++[32]++Lib.itoa r.known++[32]++Lib.itoa r.eU++[32]++Lib.itoa r.fh++[32]++r.text:=by
  simp[cz,da,dz]
 rw[hb];generalize Lib.itoa r.bd=x1 at *;generalize Lib.itoa r.no=x2 at *;generalize Lib.itoa r.kind=x3 at *;generalize Lib.itoa r.dZ=x4 at *;generalize Lib.itoa r.known=x5 at *;generalize Lib.itoa r.eU=x6 at *;generalize Lib.itoa r.fh=x7 at *;have ls:([32]:List UInt8).length=1:=rfl;have a1:=eH x1 [32] (by omega);have a2:=eH (x1++[32]) x2 (by simp only[Z1,ls];omega);have a3:=eH (x1++[32]++x2) [32] (by simp only[Z1,ls];omega);have a4:=eH (x1++[32]++x2++[32]) x3 (by simp only[Z1,ls];omega);have a5:=eH (x1++[32]++x2++[32]++x3) [32] (by simp only[Z1,ls];omega);have a6:=eH (x1++[32]++x2++[32]++x3++[32]) x4 (by simp only[Z1,ls];omega);have a7:=eH (x1++[32]++x2++[32]++x3++[32]++x4) [32] (by simp only[Z1,ls];omega);have a8:=eH (x1++[32]++x2++[32]++x3++[32]++x4++[32]) x5 (by simp only[Z1,ls];omega);have a9:=eH (x1++[32]++x2++[32]++x3++[32]++x4++[32]++x5) [32] (by simp only[Z1,ls];omega);have b1:=eH (x1++[32]++x2++[32]++x3++[32]++x4++[32]++x5++[32]) x6 (by simp only[Z1,ls];omega);have b2:=eH (x1++[32]++x2++[32]++x3++[32]++x4++[32]++x5++[32]++x6) [32] (by simp only[Z1,ls];omega);have b3:=eH (x1++[32]++x2++[32]++x3++[32]++x4++[32]++x5++[32]++x6++[32]) x7 (by simp only[Z1,ls];omega);have b4:=eH (x1++[32]++x2++[32]++x3++[32]++x4++[32]++x5++[32]++x6++[32]++x7) [32] (by simp only[Z1,ls];omega);have b5:=eH (x1++[32]++x2++[32]++x3++[32]++x4++[32]++x5++[32]++x6++[32]++x7++[32]) r.text (by simp only[Z1,ls];omega);refine aQ.bM Tryz.func133 Gf Hr IH (t8 rfl) (fun hwf W0 bF E1 =>?_);simp only[xA,BJ,bB];clear hwf hb hn;have R:=y6 @ma (y6 @a1 (y6 @a2 (y6 @a3 (y6 @a4 (y6 @a5 (y6 @a6 (y6 @a7 (y6 @a8 (y6 @a9 (y6 @b1 (y6 @b2 (y6 @b3 (y6 @b4 (y6 @b5 aD))))))))))))))
 repeat' ((first |refine U.aG (by decide +kernel) rfl fun K hK =>?_|refine .flat _ (c1) rfl ?_|refine .flat _ (c2) rfl ?_|refine .flat _ (c3) rfl ?_|refine .flat _ (c4) rfl ?_|refine .flat _ (c5) rfl ?_|refine .flat _ (F0) rfl ?_|refine .flat _ (F1) rfl ?_|(refine .aE [0,1,2,3] hK ?_;clear hK K)|(with_reducible refine .done (hK _ ?_);clear hK K)|refine U.of rfl ?_|(with_reducible refine aw.aF (fun h =>?_) (fun h =>?_) <;>try simp only[h])) <;>try simp only[aH,R,simprocAttr])
 all_goals clear R
 all_goals rfl
theorem DB(s:Int)(l:List UInt8)(c:UInt8):cL s (l++[c])=(257*cL s l+c.toNat+1)%1000003:=by simp[cL]
theorem Dz{s:Int}{c:UInt8}(h:0≤s∧s<1000003):IntKind.i64.wrap (257*s)=257*s∧IntKind.i64.wrap (c.toNat:Int)=c.toNat∧IntKind.i64.wrap (257*s+c.toNat)=257*s+c.toNat∧IntKind.i64.wrap (257*s+c.toNat+1)=257*s+c.toNat+1 ∧
  (257*s+(c.toNat:Int)+1).tmod 1000003=(257*s+c.toNat+1)%1000003:=by
 have hc:=c.toNat_lt;exact ⟨dB _ (by omega) (by omega),dB _ (by omega) (by omega),dB _ (by omega) (by omega),dB _ (by omega) (by omega),Int.tmod_eq_emod_of_nonneg (by omega)⟩
theorem tC{r:ai}{k:Nat}(ht:r.text.length≤k)(hn:∀ n∈dz r,0≤n∧n<100000000):(cz r).length≤63+k:=by
 have h:∀ l:List Int,(∀ x∈l,0≤x∧x<100000000)→(da l).length≤9*l.length:=by
  intro l
  induction l with
  |nil=>intro _;simp[da]
  |cons x l ih =>
   intro h;have h1:=ih fun y hy=>h y (by simp[hy]);have h2:=pt (k:=7) (n:=x) (by have:=h x (by simp);omega);simp only[da] at h1;simp only[da,List.flatMap_cons,Z1,Y4,X2];omega
 have:=h _ hn;have h4:(dz r).length=7:=rfl;rw[cz,Z1];omega
theorem oD(s:Int)(hs:0≤s∧s<1000003)(r:ai)(hr:bf r=true):aQ Tryz.prog 81 [enc s,enc r] (.tuple [enc (aj.of (cR s r)),enc (cL s (cz r))]):=by
 have ht:=sd hr;have hn:=pM hr;have hbl:=tC ht hn;have hF:=Eb r (by omega);have hsum:=fun l=>lR hs l;simp only[cR];generalize hb:cz r=b at *;have hsb:=vP b;refine aQ.bM Tryz.func81 GX H5 Jm (t8 rfl) (fun hwf W0 bF E1 =>?_);simp only[yg,Cm,bB,Z8];clear hwf;have R:=y6 @hsb (y6 @bg (y6 @hE aD))
 repeat' ((first |refine aX.eC rfl fun m =>?_|refine U.aG (by decide +kernel) rfl fun K hK =>?_|refine .flat _ (hF) rfl ?_|(refine .aE [0,1,3,4,5,6,8,12,13,14,15] hK ?_;clear hK K)|(with_reducible refine .done (hK _ ?_);clear hK K)|refine U.of rfl ?_|(with_reducible refine aw.aF (fun h =>?_) (fun h =>?_) <;>try simp only[h])) <;>try simp only[aH,R,simprocAttr])
 all_goals clear R
 refine U.loop (fun i:Nat=>ay [(0,.int .i64 (cL s (b.take i))),(3,.ptr 3 []),(6,enc (aj.of b)),(12,enc b),(13,.int .i64 b.length),(14,.int .i64 i)] [(3,.box (enc r))]) (fun i=>i≤b.length) (fun i=>b.length-i) 0 (Nat.zero_le _) ?_ ?_
 ·refine bw.rf [12] 12 (x:=.view 12 [] 1 0 b.length) (y:=enc b) rfl (zr rfl) ?_ ?_ ?_ ?_ ?_ <;>simp[dO,bQ,cj,cn,cm,aB,iV,cg,aJ,ah.only,I.only,bG]
  all_goals rfl
 intro i hi;have hst:=hsum (b.take i);by_cases hlt:i<b.length
 ·have hlc:=eO hlt;have he:=fun A=>fR (A:=A) 1 hlt rfl;have hw:=eE (i:=i) (by omega);have hsn:=DB s (b.take i) b[i];rw[←List.take_succ_eq_append_getElem hlt] at hsn;generalize b[i]=c at *;generalize cL s (b.take i)=z at *;obtain ⟨g1,g2,g3,g4,g5⟩:=Dz (c:=c) hst;have R:=y6 @hlc (y6 @he (y6 @hw (y6 @g1 (y6 @g2 (y6 @g3 (y6 @g4 (y6 @g5 (y6 @qa (y6 @bg aD)))))))))
  repeat' ((first |refine U.aG (by decide +kernel) rfl fun K hK =>?_|(refine .aE [0,1,3,4,5,6,8,12,13,14,15] hK ?_;clear hK K)|(with_reducible refine .done (hK _ ?_);clear hK K)|refine U.of rfl ?_|(with_reducible refine aw.aF (fun h =>?_) (fun h =>?_) <;>try simp only[h])) <;>try simp only[aH,R,simprocAttr])
  all_goals clear R
  refine ⟨i+1,by omega,by omega,?_⟩;rw[hsn];refine bw.cK ?_ ?_ ?_ ?_ <;>simp[cj,cn,cm,bQ,aB,cg,dR,I.only,ah.only,bG]
  all_goals rfl
 ·have hlc:=fm hlt;have hge:i=b.length:=by omega
  subst hge;rw[List.take_length] at hst ⊢;generalize cL s b=z at *;obtain ⟨q,rfl⟩:=Y1 hst.1;have hz:=Ec (q:Int);have hzl:=pt (k:=7) (n:=(q:Int)) (by omega);rw[uS] at hz;have a1:=eH (Lib.itoa (q:Int)) [32] (by simp;omega);have a2:=eH (Lib.itoa (q:Int)++[32]) b (by simp;omega);have a3:=eH (Lib.itoa (q:Int)++[32]++b) [10] (by simp;omega);have e:da [(q:Int)]=Lib.itoa (q:Int)++[32]:=by simp[da]
  rw[e];have R:=y6 @hlc (y6 @ma (y6 @oV (y6 @a1 (y6 @a2 (y6 @a3 aD)))))
  repeat' ((first |refine U.aG (by decide +kernel) rfl fun K hK =>?_|refine .flat _ (hz) rfl ?_|(refine .aE [0,1,3,4,5,6,8,12,13,14,15] hK ?_;clear hK K)|(with_reducible refine .done (hK _ ?_);clear hK K)|refine U.of rfl ?_|(with_reducible refine aw.aF (fun h =>?_) (fun h =>?_) <;>try simp only[h])) <;>try simp only[aH,R,simprocAttr])
  all_goals clear R
  all_goals rfl
theorem wT(s:Int)(hs:0≤s∧s<1000003)(r:ai)(hr:bf r=true):aQ Tryz.prog 83 [enc s,enc r] (.tuple [enc (aj.of (cR s r)),enc (cL s (cz r))]):=by
 have ht:=sd hr;have hn:=pM hr;have hbl:=tC ht hn;have hF:=Ed r (by omega) hn;have hsum:=fun l=>lR hs l;simp only[cR];generalize hb:cz r=b at *;have hl:=kX b;refine aQ.bM Tryz.func83 GZ H7 Jo (t8 rfl) (fun hwf W0 bF E1 =>?_);simp only[yi,Co,bB,Z8];clear hwf;have R:=y6 @bg aD
 repeat' ((first |refine U.aG (by decide +kernel) rfl fun K hK =>?_|refine .flat _ (hF) rfl ?_|(refine .aE [0,1,3,4,5,6,7,13] hK ?_;clear hK K)|(with_reducible refine .done (hK _ ?_);clear hK K)|refine U.of rfl ?_|(with_reducible refine aw.aF (fun h =>?_) (fun h =>?_) <;>try simp only[h])) <;>try simp only[aH,R,simprocAttr])
 all_goals clear R
 refine U.loop (fun i:Nat=>ay [(0,.int .i64 (cL s (b.take i))),(3,.ptr 3 []),(6,enc (aj.of b)),(7,.int .i64 i)] [(3,.box (enc r))]) (fun i=>i≤b.length) (fun i=>b.length-i) 0 (Nat.zero_le _) ?_ ?_
 ·refine bw.cK ?_ ?_ ?_ ?_ <;>simp[cj,cn,cm,bQ,aB,cg,dR,I.only,ah.only,bG]
  all_goals rfl
 intro i hi;have hst:=hsum (b.take i);by_cases hlt:i<b.length
 ·have hlc:=eO hlt;have he:=oh b hlt;have hw:=eE (i:=i) (by omega);have hsn:=DB s (b.take i) b[i];rw[←List.take_succ_eq_append_getElem hlt] at hsn;generalize b[i]=c at *;generalize cL s (b.take i)=z at *;obtain ⟨g1,g2,g3,g4,g5⟩:=Dz (c:=c) hst;have R:=y6 @hl (y6 @hlc (y6 @he (y6 @hw (y6 @g1 (y6 @g2 (y6 @g3 (y6 @g4 (y6 @g5 (y6 @bg aD)))))))))
  repeat' ((first |refine U.aG (by decide +kernel) rfl fun K hK =>?_|(refine .aE [0,1,3,4,5,6,7,13] hK ?_;clear hK K)|(with_reducible refine .done (hK _ ?_);clear hK K)|refine U.of rfl ?_|(with_reducible refine aw.aF (fun h =>?_) (fun h =>?_) <;>try simp only[h])) <;>try simp only[aH,R,simprocAttr])
  all_goals clear R
  refine ⟨i+1,by omega,by omega,?_⟩;rw[hsn];refine bw.cK ?_ ?_ ?_ ?_ <;>simp[cj,cn,cm,bQ,aB,cg,dR,I.only,ah.only,bG]
  all_goals rfl
 ·have hlc:=fm hlt;have hge:i=b.length:=by omega
  subst hge;rw[List.take_length] at hst ⊢;generalize cL s b=z at *;obtain ⟨q,rfl⟩:=Y1 hst.1;have hz:=wI q (by omega);have hzl:=pt (k:=7) (n:=(q:Int)) (by omega);have a1:=eH (Lib.itoa (q:Int)) [32] (by simp;omega);have a2:=eH (Lib.itoa (q:Int)++[32]) b (by simp;omega);have a3:=eH (Lib.itoa (q:Int)++[32]++b) [10] (by simp;omega);have e:da [(q:Int)]=Lib.itoa (q:Int)++[32]:=by simp[da]
  rw[e];have R:=y6 @hl (y6 @hlc (y6 @ma (y6 @oV (y6 @a1 (y6 @a2 (y6 @a3 aD))))))
  repeat' ((first |refine U.aG (by decide +kernel) rfl fun K hK =>?_|refine .flat _ (hz) rfl ?_|(refine .aE [0,1,3,4,5,6,7,13] hK ?_;clear hK K)|(with_reducible refine .done (hK _ ?_);clear hK K)|refine U.of rfl ?_|(with_reducible refine aw.aF (fun h =>?_) (fun h =>?_) <;>try simp only[h])) <;>try simp only[aH,R,simprocAttr])
  all_goals clear R
  all_goals rfl
def jZ(s:Int)(r:ai):List UInt8×Int×Int:=if dQ 0 1000002 s=false then ([],0,1) else if bf r=false then ([],0,80) else (cR s r,cL s (cz r),0)
theorem Uc{s:Int}{r:ai}(h:dQ 0 1000002 s=false):jZ s r=([],0,1):=by rw[jZ,if_pos h]
theorem Ud{s:Int}{r:ai}(h:dQ 0 1000002 s=true)(h2:bf r=false):jZ s r=([],0,80):=by rw[jZ,h,if_neg (by decide),if_pos h2]
theorem Ue{s:Int}{r:ai}(h:dQ 0 1000002 s=true)(h2:bf r=true):jZ s r=(cR s r,cL s (cz r),0):=by rw[jZ,h,h2,if_neg (by decide),if_neg (by decide)]
theorem Ev(s:Int)(r:ai):aQ Tryz.prog 29 [enc s,enc r] (.tuple [enc (aj.of (jZ s r).1),enc (jZ s r).2.1,enc (jZ s r).2.2]):=by
 refine aQ.bM Tryz.func29 GG HP I6 (t8 rfl) (fun hwf W0 bF E1 =>?_);simp only[xV,B8,bB,Z8];clear hwf;have f1:=wS s;have f2:=oC r;cases q1:dQ 0 1000002 s
 ·rw[q1] at f1;rw[Uc q1];have R:=aD
  repeat' ((first |refine U.aG (by decide +kernel) rfl fun K hK =>?_|refine .flat _ (f1) rfl ?_|(refine .aE [0,1,3,4,5,6,7,8,9,13] hK ?_;clear hK K)|(with_reducible refine .done (hK _ ?_);clear hK K)|refine U.of rfl ?_|(with_reducible refine aw.aF (fun h =>?_) (fun h =>?_) <;>try simp only[h])) <;>try simp only[aH,R,simprocAttr])
  all_goals clear R
  all_goals rfl
 cases q2:bf r
 ·rw[q1] at f1;rw[q2] at f2;rw[Ud q1 q2];have R:=aD
  repeat' ((first |refine U.aG (by decide +kernel) rfl fun K hK =>?_|refine .flat _ (f1) rfl ?_|refine .flat _ (f2) rfl ?_|(refine .aE [0,1,3,4,5,6,7,8,9,13] hK ?_;clear hK K)|(with_reducible refine .done (hK _ ?_);clear hK K)|refine U.of rfl ?_|(with_reducible refine aw.aF (fun h =>?_) (fun h =>?_) <;>try simp only[h])) <;>try simp only[aH,R,simprocAttr])
  all_goals clear R
  all_goals rfl
 have f3:=oD s (by have:=mc.1 q1;omega) r q2;rw[q1] at f1;rw[q2] at f2;rw[Ue q1 q2];have R:=aD
 repeat' ((first |refine U.aG (by decide +kernel) rfl fun K hK =>?_|refine .flat _ (f1) rfl ?_|refine .flat _ (f2) rfl ?_|refine .lead _ (f3) ?_|(refine .aE [0,1,3,4,5,6,7,8,9,13] hK ?_;clear hK K)|(with_reducible refine .done (hK _ ?_);clear hK K)|refine U.of rfl ?_|(with_reducible refine aw.aF (fun h =>?_) (fun h =>?_) <;>try simp only[h])) <;>try simp only[aH,R,simprocAttr])
 all_goals clear R
 all_goals rfl
def vE:bj:=(.seq (.bS none P9) (.seq (.seq (.bS none Qf) (.cond (.t 20) (.bS none zS) .skip)) (.seq (.bS none Qg) (.seq (.bS none Qh) (.seq (.bS none zT) (.seq (.seq (.bS none Qi) (.block 0 (.loop (.seq (.bS none Qj) (.seq (.cond (.t 29) .skip (.exit 0)) (.seq (.block 1 (.seq (.bS none Qk) (.bS none zQ))) (.bS none Qa))))))) (.seq (.bS none Qb) (.seq (.seq (.bS none Qc) (.cond (.t 59) (.bS none zR) .skip)) (.seq (.bS none Qd) (.seq (.seq (.bS none Qe) (.cond (.t 75) (.bS none uA) .skip)) (.seq (.bS JW uB) .ret)))))))))))
theorem J9:Tryz.f70.body.bind (tT Tryz.prog Tryz.f70.ntmps)=some (.bS none zP,124,[4,5,6],13,vE):=by kernel_rfl
def gH(s:Int)(t:List UInt8):ai×Int×Bool:=match dA bf s t with
 |some (r,n)=>(r,n,true)
 |none=>(default,0,false)
def gG(r:ai)(n:Int)(b:Bool):List (Nat×ah):=[(1900004,.box (enc r)),(1900005,.box (.int .i64 n)),(1900006,.box (.bool b))]
def ki(x:ai×Int×Bool):I:=.tuple [enc x.1,.int .i64 x.2.1,.bool x.2.2]
def pP(s:Int)(t:List UInt8):bY:=fun r os'=>r=ki (gH s t)∧os'=gG (gH s t).1 (gH s t).2.1 (gH s t).2.2
def mK:List (Nat×Nat):=[(1900004,4),(1900005,5),(1900006,6)]
def vm:List (Nat×ah):=[(6,.box (.bool false)),(5,.box (.int .i64 0)),(4,.box (enc (default:ai)))]
def mq:List Nat:=[1900004,1900005,1900006]
def na:List I:=[enc (default:ai),.int .i64 0,.bool false]
theorem sE(m:Nat):bp mK m=if m=1900004 then 4 else if m=1900005 then 5 else if m=1900006 then 6 else m:=rfl
theorem rO{r:ai}{n:Int}{b:Bool}{m:Nat}{y:ah}(h:aJ (gG r n b) m=some y):(m=1900004∧y=.box (enc r))∨(m=1900005∧y=.box (.int .i64 n))∨(m=1900006∧y=.box (.bool b)):=by
 simp only[gG,aJ] at h;split at h
 ·rename_i e;cases h;exact .inl ⟨e,rfl⟩
 split at h
 ·rename_i e;cases h;exact .inr (.inl ⟨e,rfl⟩)
 split at h
 ·rename_i e;cases h;exact .inr (.inr ⟨e,rfl⟩)
 ·cases h
theorem kN{r:ai}{n:Int}{b:Bool}{m:Nat} : aB (gG r n b) m=true↔m=1900004∨m=1900005∨m=1900006:=by
 constructor
 ·intro h;cases hy:aJ (gG r n b) m with
  |none=>rw[aB,hy] at h;cases h
  |some y=>rcases rO hy with ⟨h,_⟩ | ⟨h,_⟩ | ⟨h,_⟩ <;>simp[h]
 ·rintro (rfl | rfl | rfl) <;>rfl
theorem mr{r:ai}{n:Int}{b:Bool}{m:Nat}{y:ah}(h:aJ (gG r n b) m=some y)(p:Nat→Bool):y.only p=true∧y.ef=true∧y.aR (bp mK)=y:=by
 rcases rO h with ⟨_,rfl⟩ | ⟨_,rfl⟩ | ⟨_,rfl⟩
 ·exact ⟨bG _ _,rfl,by simp only[ah.aR,iE]⟩
 ·exact ⟨rfl,rfl,rfl⟩
 ·exact ⟨rfl,rfl,rfl⟩
theorem Tu:eJ mK (gG default 0 false) vm:=by
 refine ⟨fun m y hy=>⟨?_,(mr hy _).1,(mr hy (fun _=>true)).2.1⟩,fun m m' hm hm' e =>?_⟩
 ·rw[(mr hy (fun _=>true)).2.2];rcases rO hy with ⟨rfl,rfl⟩ | ⟨rfl,rfl⟩ | ⟨rfl,rfl⟩ <;>rfl
 ·have k1:=kN.1 hm;have k2:=kN.1 hm';rw[sE,sE] at e
  (repeat' split at e) <;>omega
theorem Fz(s:Int)(t:List UInt8):∀ r os',pP s t r os'→dC false mK (gG default 0 false) vm r os':=by
 rintro r os' ⟨rfl,rfl⟩;refine ⟨fun m y hy=>⟨(mr hy _).1,(mr hy (fun _=>true)).2.1,fun h=>by cases h⟩,fun m m' hm hm' e =>?_,fun m hm=>kN.2 (kN.1 hm),fun m hm hno =>?_,⟨?_,fun h=>by cases h⟩⟩
 ·have k1:=kN.1 hm;have k2:=kN.1 hm';rw[sE,sE] at e
  (repeat' split at e) <;>omega
 ·rw[kN.2 (kN.1 hm)] at hno;cases hno
 ·simp only[ki,I.only,I.cF,bG,Bool.and_self]
theorem Fy(s:Int)(t:List UInt8):∀ r os',pP s t r os'→∃ osF,r.flat=true∧r.aR (bp mK)=r∧(∀ m z,aJ osF m=some z→aJ (cX mK os'++vm) m=some z∧z.only (aB osF)=true∧z.ef=true)∧(r=ki (gH s t)∧osF=[]):=by
 rintro r os' ⟨rfl,rfl⟩;refine ⟨[],?_,?_,fun m z hz=>by simp[aJ] at hz,rfl,rfl⟩
 ·rfl
 ·simp only[ki,I.aR,I.cS,iE]
theorem CP{r:ai}{n:Int}{b:Bool}{post:bY}{A:ab}(hp:post (ki (r,n,b)) (gG r n b))(t4:A.t 4=.ptr 1900004 [])(t5:A.t 5=.ptr 1900005 [])(t6:A.t 6=.ptr 1900006 [])(o4:A.o 1900004=some (.box (enc r)))(o5:A.o 1900005=some (.box (.int .i64 n)))(o6:A.o 1900006=some (.box (.bool b))) :
  iA sq post A:=by
 refine ⟨gG r n b,[enc r,.int .i64 n,.bool b],fun m z hz=>⟨?_,(mr hz _).1,(mr hz (fun _=>true)).2.1⟩,⟨⟨enc r,?_,.inl ⟨rfl,fe _,bG _ _⟩⟩,⟨.int .i64 n,?_,.inl ⟨rfl,rfl,rfl⟩⟩,⟨.bool b,?_,.inl ⟨rfl,rfl,rfl⟩⟩,trivial⟩,hp⟩
 ·rcases rO hz with ⟨rfl,rfl⟩ | ⟨rfl,rfl⟩ | ⟨rfl,rfl⟩ <;>assumption
 ·simp only[mB,t4,bN,o4];rfl
 ·simp only[mB,t5,bN,o5];rfl
 ·simp only[mB,t6,bN,o6];rfl
theorem nX{s:Int}{t:List UInt8}(hn:dA bf s t=none){A:ab}{x:ai}{n:Int}{b:Bool}(t4:A.t 4=.ptr 1900004 [])(t5:A.t 5=.ptr 1900005 [])(t6:A.t 6=.ptr 1900006 [])(o4:A.o 1900004=some (.box (enc x)))(o5:A.o 1900005=some (.box (.int .i64 n)))(o6:A.o 1900006=some (.box (.bool b))) :
  pT sq (pP s t) jm mq na (.panic jm) A:=by
 refine ⟨rfl,⟨⟨_,o4,(eA _).trans (eA _).symm⟩,⟨_,o5,rfl⟩,⟨_,o6,rfl⟩,trivial⟩,?_⟩;refine CP (r:=default) (n:=0) (b:=false) ?_ t4 t5 t6 ?_ ?_ ?_
 ·show _∧_
  rw[gH,hn];exact ⟨rfl,rfl⟩
 ·simp[mq,na,mN,ab.aP]
 ·simp[mq,na,mN,ab.aP]
 ·simp[mq,na,mN,ab.aP]
theorem Bm{Q:Exit→ab→Prop}{ts:List (Nat×I)}{os0:List (Nat×ah)}{u:List UInt8}{v:I}(hv:v=enc (aj.of u))(hlen:u.length≤281474976710656)(h:∀ w t,cE 32 u=some (w,t)→fw w=none)(hq:Q (.panic jm) (ay ts os0)):oE Tryz.prog Q 126 [v] (ay ts os0):=by
 subst hv;exact .mk false [] [] [enc (aj.of u)] jm _ (D8 (aj.of u) (by rw[aj.c6];exact hlen) (by rw[aj.c6];exact h)) ⟨fun m x h=>by simp[aJ] at h,fun m m' h=>by simp[aB,aJ] at h⟩ ⟨.inl ⟨(iE _ _).symm,bG _ _,fe _⟩,trivial⟩
  (fun os' h=>by subst h;exact ⟨fun m x h=>by simp[aJ] at h,fun m m' h=>by simp[aB,aJ] at h,fun m h=>h,fun m h=>by simp[aB,aJ] at h,⟨rfl,fun h=>by cases h⟩⟩) (fun os' h=>by subst h;exact hq)
def dG(l:List Int):dS 7 Int:=⟨(l++List.replicate 7 0).take 7,by simp⟩
theorem VG{l:List Int}(h:l.length<7)(v:Int):(⟨(dG l).l.set l.length v,by simp[(dG l).h]⟩:dS 7 Int)=dG (l++[v]):=by
 simp only[dG,dS.mk.injEq];refine List.ext_getElem (by simp) fun i h1 h2 =>?_;simp only[Z9,Z1,List.length_replicate,List.length_set,Y4,X2] at h1 h2;simp only[List.getElem_set,List.getElem_take,List.getElem_append];by_cases e:l.length=i
 ·subst e;simp
 ·by_cases k:i<l.length
  ·rw[if_neg e,dif_pos k,dif_pos (by simp;omega),dif_pos k]
  ·rw[if_neg e,dif_neg k,dif_neg (by simp;omega)];simp only[List.getElem_replicate]
theorem za:I.agg [.int .i64 0,.int .i64 0,.int .i64 0,.int .i64 0,.int .i64 0,.int .i64 0,.int .i64 0]=enc (dG []):=rfl
theorem VF{l:List Int}(h:l.length=7)(k:Nat):(dG l).g k=l.getD k 0:=by
 simp only[dS.g,dG];rw[List.take_left' h]
theorem WN{l:List Int}(h:l.length<7)(v:Int):(enc (dG l):I).dp [l.length] (.int .i64 v)=enc (dG (l++[v])):=by
 have h1:(enc (dG l):I).cZ=some ((dG l).l.map enc):=rfl;rw[sI,h1];simp only[mO,uI (dG l) h,oo,fi];rw[←VG h]
 change I.agg _=I.agg (((dG l).l.set l.length v).map enc)
 rw[List.map_set];rfl
theorem WW{A:ab}{n:Nat}{l:List Int}(h:l.length<7){v u:Int}{rest:List ar} : er A none n [l.length] (enc (dG l)) (.int .i64 v) rest (some (.int .i64 u))=ao rest (A.aP n (.box (enc (dG (l++[v]))))):=by
 rw[fj (s:=none) (v:=.int .i64 v) (old:=.int .i64 u) rfl rfl rfl,WN h]
theorem An(t:List UInt8):Lib.hasSuffix t [10]=decide (t.getLast?=some 10):=by
 have:Lib.hasSuffix t [10]=true↔t.getLast?=some 10:=by
  rw[Lib.hasSuffix,List.isSuffixOf_iff_suffix];constructor
  ·rintro ⟨x,rfl⟩;simp
  ·intro h;obtain ⟨x,rfl⟩:=List.getLast?_eq_some_iff.1 h;exact ⟨x,rfl⟩
 cases h:Lib.hasSuffix t [10]
 ·rw[h] at this;exact (decide_eq_false fun k=>by simpa using this.2 k).symm
 ·rw[h] at this;exact (decide_eq_true (this.1 rfl)).symm
theorem Xe{t:List UInt8}(h:t.getLast?=some 10):Lib.trimSuffix t [10]=t.dropLast:=by
 rw[Lib.trimSuffix,An,decide_eq_true h,if_pos rfl,List.dropLast_eq_take];rfl
theorem dI:(∀ A n b rest (q r:ai),er A (some 8) n [] b (enc q) rest (some (enc r))=ao rest (A.aP n (.box (enc q))))∧(∀ A n b rest (q:ai) v,v=enc q→er A (some 8) n [] b v rest (some (enc (default:ai)))=ao rest (A.aP n (.box (enc q)))) :=
 ⟨fun A n b rest q r=>by rw[fj (fe _) (by rw[ib];rfl) ((eA _).trans (eA _).symm),fi],fun A n b rest q v h=>by rw[h,fj (fe _) (by rw[ib];rfl) ((eA _).trans (eA _).symm),fi]⟩
theorem ec:I.agg [.agg [.int .i64 0,.int .i64 0],.int .i64 0,.int .i64 0,.int .i64 0,.agg [.int .i64 0,.int .i64 0],.ak ⟨#[]⟩]=enc (default:ai):=rfl
theorem ky:(∀ x y,fy [.int .i64 0,.int .i64 0] [(0,.int .i64 x),(1,.int .i64 y)]=some [.int .i64 x,.int .i64 y]) ∧
  (∀ (x1 x2 n1 n2 n3 y1 y2:Int) (u:List UInt8),fy [.agg [.int .i64 0,.int .i64 0],.int .i64 0,.int .i64 0,.int .i64 0,.agg [.int .i64 0,.int .i64 0],.ak ⟨#[]⟩] [(0,.agg [.int .i64 x1,.int .i64 x2]),(1,.int .i64 n1),(2,.int .i64 n2),(3,.int .i64 n3),(4,.agg [.int .i64 y1,.int .i64 y2]),(5,enc (aj.of u))]=some [.agg [.int .i64 x1,.int .i64 x2],.int .i64 n1,.int .i64 n2,.int .i64 n3,.agg [.int .i64 y1,.int .i64 y2],enc (aj.of u)]) :=
 ⟨fun _ _=>rfl,fun _ _ _ _ _ _ _ _=>rfl⟩
theorem qh:(∀ A n b rest (q r:Int),er A none n [] b (.int .i64 q) rest (some (.int .i64 r))=ao rest (A.aP n (.box (.int .i64 q))))∧(∀ A n b rest (q r:Bool),er A none n [] b (.bool q) rest (some (.bool r))=ao rest (A.aP n (.box (.bool q)))) :=
 ⟨fun A n b rest q r=>by rw[fj (s:=none) (v:=.int .i64 q) (old:=.int .i64 r) rfl rfl rfl,fi],fun A n b rest q r=>by rw[fj (s:=none) (v:=.bool q) (old:=.bool r) rfl rfl rfl,fi]⟩
theorem Ky{n0:Int}{l:List Int}{u:List UInt8}(h:l.length=7):I.agg [.agg [.int .i64 ((dG l).g 0),.int .i64 ((dG l).g 1)],.int .i64 ((dG l).g 2),.int .i64 ((dG l).g 3),.int .i64 ((dG l).g 4),.agg [.int .i64 ((dG l).g 5),.int .i64 ((dG l).g 6)],enc (aj.of u)]=enc (fo (n0::l) u):=by
 simp only[VF h];rfl
theorem V8{s n0:Int}{t u:List UInt8}{l:List Int}(h:t.getLast?=some 10)(hp:eW fw 8 t.dropLast=some (n0::l,u)) :
  dA bf s t=if bf (fo (n0::l) u)=true∧cR s (fo (n0::l) u)=t∧n0=cL s (cz (fo (n0::l) u)) then some (fo (n0::l) u,cL s (cz (fo (n0::l) u))) else none:=by
 rw[dA,if_pos h,hp,zz0];generalize fo (n0::l) u=r;simp only[List.headD_cons,kH];by_cases a:bf r=true
 ·by_cases b:cR s r=t
  ·by_cases c:n0=cL s (cz r)
   ·simp[a,b,c]
   ·simp[a,b,c]
  ·simp[b]
 ·simp[a]
structure wY where
 n0:Int
 l:List Int
 u:List UInt8
def tl(s:Int)(t:List UInt8)(x:wY):ab:=ay [(0,enc s),(1,enc (aj.of t)),(4,.ptr 1900004 []),(5,.ptr 1900005 []),(6,.ptr 1900006 []),(7,enc (aj.of x.u)),(9,enc x.n0),(10,.ptr 10 []),(28,.int .i64 x.l.length)] ((10,.box (enc (dG x.l)))::gG default 0 false)
def DX(t:List UInt8)(x:wY):Prop:=x.l.length≤7∧x.u.length≤t.length∧eW fw 8 t.dropLast=(eW fw (7-x.l.length) x.u).map fun p=>(x.n0::x.l++p.1,p.2)
theorem wm{f:List UInt8→Option Int}{k:Nat}{u w v:List UInt8}{n:Int}(h1:cE 32 u=some (w,v))(h2:f w=some n):eW f (k+1) u=(eW f k v).map fun p=>(n::p.1,p.2):=by
 rw[eW,h1];simp only[h2]
theorem wj{f:List UInt8→Option Int}{k:Nat}{u:List UInt8}(h:∀ w t,cE 32 u=some (w,t)→f w=none):eW f (k+1) u=none:=by
 rw[eW];cases h1:cE 32 u with
 |none=>rfl
 |some p=>simp only[h p.1 p.2 h1]
theorem yV(u:List UInt8):(∃ w v n,cE 32 u=some (w,v)∧fw w=some n∧v.length≤u.length)∨∀ w t,cE 32 u=some (w,t)→fw w=none:=by
 cases h1:cE 32 u with
 |none=>exact .inr fun w t h=>by cases h
 |some p =>
  obtain ⟨w,v⟩:=p;cases h2:fw w with
  |none=>exact .inr fun w' t' h=>by cases h;exact h2
  |some n=>exact .inl ⟨w,v,n,rfl,h2,by have:=qS h1;simp only at this;omega⟩
theorem Wq{s:Int}(hs:0≤s∧s<1000003){t:List UInt8}(ht:t.length≤281474976710656)(W:World)(D:aI)(E:aN)(n:Nat)(d:Deferred) :
  U ⟨Tryz.prog,W,D,n,bO E,E,fq,none,some [d]⟩ vE (pT sq (pP s t) jm mq na) (ay [(0,enc s),(1,enc (aj.of t)),(4,.ptr 1900004 []),(5,.ptr 1900005 []),(6,.ptr 1900006 [])] (gG default 0 false)):=by
 have hC:=D7 (aj.of t) (aj.of [10]);rw[aj.c6,aj.c6,An] at hC;simp only[vE,gG];by_cases hl:t.getLast?=some 10
 ·have hd:decide (t.getLast?=some 10)=true:=decide_eq_true hl;rw[hd,Xe hl] at hC;have hT:dA bf s t=(eW fw 8 t.dropLast).bind fun p=>(kH bf s t (fo p.1 p.2)).bind fun q=>if p.1.headD 0=q.2 then some q else none:=by rw[dA,if_pos hl]
  have hlt:t.dropLast.length≤t.length:=by simp
  generalize hu0:t.dropLast=u0 at *;rcases yV u0 with ⟨cN,v0,m0,hw,ho,hv⟩ | hno
  rotate_left
  ·have hn:dA bf s t=none:=by rw[hT,wj (k:=7) hno];rfl
   have R:=y6 @hd (y6 @oV (y6 @jz (y6 @za (y6 @bg aD))))
   repeat' ((first |(with_reducible refine .guard (fun hb =>?_) (fun hb =>?_) <;>try simp only[hb])|(refine U.kS (gs:=zT) (gs1:=[_]) rfl fun K hK =>?_)|refine U.aG (by decide +kernel) rfl fun K hK =>?_|refine .flat _ (hC) rfl ?_|(refine .aE [0,1,4,5,6,7,8,9,10,11,12,20,28,29,59,75] hK ?_;clear hK K)|(with_reducible refine .done (hK _ ?_);clear hK K)|refine U.of rfl ?_|(with_reducible refine aw.aF (fun h =>?_) (fun h =>?_) <;>try simp only[h])) <;>try simp only[aH,R,simprocAttr])
   all_goals clear R
   exact .call (Bm rfl (by omega) hno (nX hn rfl rfl rfl rfl rfl rfl))
  have h126:=wG (aj.of u0) (by rw[aj.c6];omega) cN v0 m0 (by rw[aj.c6];exact hw) ho;have R:=y6 @hd (y6 @oV (y6 @jz (y6 @za (y6 @bg aD))))
  repeat' ((first |(with_reducible refine .guard (fun hb =>?_) (fun hb =>?_) <;>try simp only[hb])|refine U.aG (by decide +kernel) rfl fun K hK =>?_|refine .flat _ (hC) rfl ?_|refine .lead _ (h126) ?_|(refine .aE [0,1,4,5,6,7,8,9,10,11,12,20,28,29,59,75] hK ?_;clear hK K)|(with_reducible refine .done (hK _ ?_);clear hK K)|refine U.of rfl ?_|(with_reducible refine aw.aF (fun h =>?_) (fun h =>?_) <;>try simp only[h])) <;>try simp only[aH,R,simprocAttr])
  all_goals clear R
  refine U.loop (tl s t) (DX t) (fun x=>7-x.l.length) ⟨m0,[],v0⟩ ⟨by simp,by simp only;omega,?_⟩ ?_ ?_
  ·rw[hu0,wm hw ho];rfl
  ·simp only[tl,gG];refine bw.cK ?_ ?_ ?_ ?_ <;>simp[cj,cn,cm,bQ,aB,cg,dR,I.only,ah.only,bG,tZ]
   all_goals rfl
  rintro ⟨n0,l,u⟩ ⟨hl7,hul,htk⟩;simp only at hl7 hul htk;rw[hu0] at htk;simp only[tl,gG];by_cases hlt7:l.length<7
  ·have hlc:decide ((l.length:Int)<7)=true:=decide_eq_true (by omega);have hib:=fun {y:Option I} =>nJ 1 (dG l) (y:=y) (show (0:Int)≤(l.length:Int)∧(l.length:Int)<(7:Nat) by omega) rfl;have hat:=fun p=>fJ (p:=p) (dG l) hlt7;have hst:=fun A n v u rest=>WW (A:=A) (n:=n) hlt7 (v:=v) (u:=u) (rest:=rest);have hws:=eE (i:=l.length) (by omega);have e7:7-l.length=(7-(l++[(0:Int)]).length)+1:=by simp;omega
   rcases yV u with ⟨w,v,m,hw1,ho1,hv1⟩ | hno
   ·have h126':=wG (aj.of u) (by rw[aj.c6];omega) w v m (by rw[aj.c6];exact hw1) ho1;have R:=y6 @hlc (y6 @hib (y6 @hat (y6 @hst (y6 @hws (y6 @Int.toNat_natCast (y6 @bg aD))))))
    repeat' ((first |(with_reducible refine .guard (fun hb =>?_) (fun hb =>?_) <;>try simp only[hb])|refine U.aG (by decide +kernel) rfl fun K hK =>?_|refine .lead _ (h126') ?_|(refine .aE [0,1,4,5,6,7,8,9,10,11,12,20,28,29,59,75] hK ?_;clear hK K)|(with_reducible refine .done (hK _ ?_);clear hK K)|refine U.of rfl ?_|(with_reducible refine aw.aF (fun h =>?_) (fun h =>?_) <;>try simp only[h])) <;>try simp only[aH,R,simprocAttr])
    all_goals clear R
    refine ⟨⟨n0,l++[m],v⟩,⟨by simp;omega,by simp only;omega,?_⟩,by simp;omega,?_⟩
    ·rw[hu0,htk,e7,wm hw1 ho1];simp only[Z1,Y4,X2,Option.map_map]
     congr 1
     funext p
     simp
    ·have el:((l++[m]).length:Int)=((l.length+1:Nat):Int):=by simp
     simp only[el];refine bw.cK ?_ ?_ ?_ ?_ <;>simp[cj,cn,cm,bQ,aB,cg,dR,I.only,ah.only,bG]
     all_goals rfl
   ·have hn:dA bf s t=none:=by rw[hT,htk,e7,wj hno];rfl
    have R:=y6 @hlc (y6 @hib (y6 @hat (y6 @hst (y6 @hws (y6 @jz (y6 @bg aD))))))
    repeat' ((first |(with_reducible refine .guard (fun hb =>?_) (fun hb =>?_) <;>try simp only[hb])|(refine U.kS (gs:=zQ) (gs1:=[_,_]) rfl fun K hK =>?_)|refine U.aG (by decide +kernel) rfl fun K hK =>?_|refine .flat _ (hC) rfl ?_|(refine .aE [0,1,4,5,6,7,8,9,10,11,12,20,28,29,59,75] hK ?_;clear hK K)|(with_reducible refine .done (hK _ ?_);clear hK K)|refine U.of rfl ?_|(with_reducible refine aw.aF (fun h =>?_) (fun h =>?_) <;>try simp only[h])) <;>try simp only[aH,R,simprocAttr])
    all_goals clear R
    exact .call (Bm rfl (by omega) hno (nX hn rfl rfl rfl rfl rfl rfl))
  ·have hlc:decide ((l.length:Int)<7)=false:=decide_eq_false (by omega);have h7:l.length=7:=by omega
   have hib:=fun {k:Int} {y:Option I} (h:(0:Int)≤k∧k<(7:Nat))=>nJ 1 (dG l) (y:=y) h rfl;have hi0:=fun {y:Option I} =>hib (k:=0) (y:=y) (by decide);have hi1:=fun {y:Option I} =>hib (k:=1) (y:=y) (by decide);have hi2:=fun {y:Option I} =>hib (k:=2) (y:=y) (by decide);have hi3:=fun {y:Option I} =>hib (k:=3) (y:=y) (by decide);have hi4:=fun {y:Option I} =>hib (k:=4) (y:=y) (by decide);have hi5:=fun {y:Option I} =>hib (k:=5) (y:=y) (by decide);have hi6:=fun {y:Option I} =>hib (k:=6) (y:=y) (by decide);have ha0:=fun p=>fJ (p:=p) (dG l) (show 0<7 by decide);have ha1:=fun p=>fJ (p:=p) (dG l) (show 1<7 by decide);have ha2:=fun p=>fJ (p:=p) (dG l) (show 2<7 by decide);have ha3:=fun p=>fJ (p:=p) (dG l) (show 3<7 by decide);have ha4:=fun p=>fJ (p:=p) (dG l) (show 4<7 by decide);have ha5:=fun p=>fJ (p:=p) (dG l) (show 5<7 by decide);have ha6:=fun p=>fJ (p:=p) (dG l) (show 6<7 by decide);rw[h7,Nat.sub_self,eW,Z7,List.append_nil] at htk;clear hT;have hT:=V8 (s:=s) hl (hu0▸htk);have hmk:=Ky (n0:=n0) (u:=u) h7;have f80:=oC (fo (n0::l) u);generalize fo (n0::l) u=r at *;have hstr:=fun A n b rest=>dI.2 A n b rest r _ hmk;cases ho2:bf r
   ·have hn:dA bf s t=none:=by rw[hT,if_neg (by simp[ho2])]
    rw[ho2] at f80;have R:=y6 @hlc (y6 @hi0 (y6 @hi1 (y6 @hi2 (y6 @hi3 (y6 @hi4 (y6 @hi5 (y6 @hi6 (y6 @ha0 (y6 @ha1 (y6 @ha2 (y6 @ha3 (y6 @ha4 (y6 @ha5 (y6 @ha6 (y6 @ky (y6 @hstr (y6 @dI (y6 @jz (y6 @bg aD)))))))))))))))))))
    repeat' ((first |(with_reducible refine .guard (fun hb =>?_) (fun hb =>?_) <;>try simp only[hb])|(refine U.kS (gs:=zR) (gs1:=[_,_]) rfl fun K hK =>?_)|refine U.aG (by decide +kernel) rfl fun K hK =>?_|refine .flat _ (f80) rfl ?_|(refine .aE [0,1,4,5,6,7,8,9,10,11,12,20,28,29,59,75] hK ?_;clear hK K)|(with_reducible refine .done (hK _ ?_);clear hK K)|refine U.of rfl ?_|(with_reducible refine aw.aF (fun h =>?_) (fun h =>?_) <;>try simp only[h])) <;>try simp only[aH,R,simprocAttr])
    all_goals clear R
    refine my ?_ (nX hn rfl rfl rfl rfl rfl rfl);rfl
   rw[ho2] at f80;have f81:=oD s hs r ho2;by_cases hq:cR s r=t
   ·by_cases hz:n0=cL s (cz r)
    ·have hn:gH s t=(r,cL s (cz r),true):=by rw[gH,hT,if_pos ⟨ho2,hq,hz⟩]
     have d1:(n0 != cL s (cz r))=false:=by simp[hz]
     have d2:(decide (cR s r=t))=true:=decide_eq_true hq;have R:=y6 @hlc (y6 @hi0 (y6 @hi1 (y6 @hi2 (y6 @hi3 (y6 @hi4 (y6 @hi5 (y6 @hi6 (y6 @ha0 (y6 @ha1 (y6 @ha2 (y6 @ha3 (y6 @ha4 (y6 @ha5 (y6 @ha6 (y6 @d1 (y6 @d2 (y6 @gI (y6 @ky (y6 @hstr (y6 @dI (y6 @qh (y6 @jz (y6 @bg aD)))))))))))))))))))))))
     repeat' ((first |(with_reducible refine .guard (fun hb =>?_) (fun hb =>?_) <;>try simp only[hb])|refine U.aG (by decide +kernel) rfl fun K hK =>?_|refine .flat _ (f80) rfl ?_|refine .lead _ (f81) ?_|(refine U.lN (gs:=uB) [] [(4,[1900004]),(5,[1900005]),(6,[1900006])] [0,1,2,3,4] (by decide +kernel) (dD.of (by simp[jw,cg,I.only])) fun K hK =>?_;simp only[j7,uB,List.getD_cons_zero,List.getD_cons_succ,R,simprocAttr])|(refine .aE [0,1,4,5,6,7,8,9,10,11,12,20,28,29,59,75] hK ?_;clear hK K)|(with_reducible refine .done (hK _ ?_);clear hK K)|refine U.of rfl ?_|(with_reducible refine aw.aF (fun h =>?_) (fun h =>?_) <;>try simp only[h])) <;>try simp only[aH,R,simprocAttr])
     all_goals clear R
     exact ⟨⟨⟨_,rfl,(eA _).trans (eA _).symm⟩,⟨_,rfl,rfl⟩,⟨_,rfl,rfl⟩,trivial⟩,CP (r:=r) (n:=cL s (cz r)) (b:=true) (show _∧_ by rw[hn];exact ⟨rfl,rfl⟩) rfl rfl rfl rfl rfl rfl⟩
    ·have hn:dA bf s t=none:=by rw[hT,if_neg (fun k=>hz k.2.2)]
     have d1:(n0 != cL s (cz r))=true:=by simp[hz]
     have d2:(decide (cR s r=t))=true:=decide_eq_true hq;have R:=y6 @hlc (y6 @hi0 (y6 @hi1 (y6 @hi2 (y6 @hi3 (y6 @hi4 (y6 @hi5 (y6 @hi6 (y6 @ha0 (y6 @ha1 (y6 @ha2 (y6 @ha3 (y6 @ha4 (y6 @ha5 (y6 @ha6 (y6 @d1 (y6 @d2 (y6 @gI (y6 @ky (y6 @hstr (y6 @dI (y6 @qh (y6 @jz (y6 @bg aD)))))))))))))))))))))))
     repeat' ((first |(with_reducible refine .guard (fun hb =>?_) (fun hb =>?_) <;>try simp only[hb])|(refine U.kS (gs:=uA) (gs1:=[_,_]) rfl fun K hK =>?_)|refine U.aG (by decide +kernel) rfl fun K hK =>?_|refine .flat _ (f80) rfl ?_|refine .lead _ (f81) ?_|(refine .aE [0,1,4,5,6,7,8,9,10,11,12,20,28,29,59,75] hK ?_;clear hK K)|(with_reducible refine .done (hK _ ?_);clear hK K)|refine U.of rfl ?_|(with_reducible refine aw.aF (fun h =>?_) (fun h =>?_) <;>try simp only[h])) <;>try simp only[aH,R,simprocAttr])
     all_goals clear R
     refine my ?_ (nX hn rfl rfl rfl rfl rfl rfl);rfl
   ·have hn:dA bf s t=none:=by rw[hT,if_neg (fun k=>hq k.2.1)]
    have d2:(decide (cR s r=t))=false:=decide_eq_false hq;have R:=y6 @hlc (y6 @hi0 (y6 @hi1 (y6 @hi2 (y6 @hi3 (y6 @hi4 (y6 @hi5 (y6 @hi6 (y6 @ha0 (y6 @ha1 (y6 @ha2 (y6 @ha3 (y6 @ha4 (y6 @ha5 (y6 @ha6 (y6 @d2 (y6 @gI (y6 @ky (y6 @hstr (y6 @dI (y6 @qh (y6 @jz (y6 @bg aD))))))))))))))))))))))
    repeat' ((first |(with_reducible refine .guard (fun hb =>?_) (fun hb =>?_) <;>try simp only[hb])|(refine U.kS (gs:=uA) (gs1:=[_,_]) rfl fun K hK =>?_)|refine U.aG (by decide +kernel) rfl fun K hK =>?_|refine .flat _ (f80) rfl ?_|refine .lead _ (f81) ?_|(refine .aE [0,1,4,5,6,7,8,9,10,11,12,20,28,29,59,75] hK ?_;clear hK K)|(with_reducible refine .done (hK _ ?_);clear hK K)|refine U.of rfl ?_|(with_reducible refine aw.aF (fun h =>?_) (fun h =>?_) <;>try simp only[h])) <;>try simp only[aH,R,simprocAttr])
    all_goals clear R
    refine my ?_ (nX hn rfl rfl rfl rfl rfl rfl);rfl
 ·have hd:decide (t.getLast?=some 10)=false:=decide_eq_false hl;have hn:dA bf s t=none:=by rw[dA,if_neg hl]
  rw[hd] at hC;have R:=y6 @hd (y6 @oV (y6 @jz (y6 @bg aD)))
  repeat' ((first |(with_reducible refine .guard (fun hb =>?_) (fun hb =>?_) <;>try simp only[hb])|(refine U.kS (gs:=zS) (gs1:=[_,_]) rfl fun K hK =>?_)|refine U.aG (by decide +kernel) rfl fun K hK =>?_|refine .flat _ (hC) rfl ?_|(refine .aE [0,1,4,5,6,7,8,9,10,11,12,20,28,29,59,75] hK ?_;clear hK K)|(with_reducible refine .done (hK _ ?_);clear hK K)|refine U.of rfl ?_|(with_reducible refine aw.aF (fun h =>?_) (fun h =>?_) <;>try simp only[h])) <;>try simp only[aH,R,simprocAttr])
  all_goals clear R
  refine my ?_ (nX hn rfl rfl rfl rfl rfl rfl);rfl
theorem EO{s:Int}(hs:0≤s∧s<1000003){t:List UInt8}(ht:t.length≤281474976710656):eI Tryz.prog 70 [enc s,enc (aj.of t)] [] (fun r os'=>r=ki (gH s t)∧os'=[]):=by
 refine eI.Vo Tryz.func70 GO J9 Je (t8 rfl) (t8 rfl) (fun m hm=>by simp[aB,aJ] at hm) (zs:=na) Tw Hi (by decide) fun hwf W0 bF E1 =>?_;simp only[bB,Z8];clear hwf;refine .gT (by decide +kernel) fun K hK =>?_
 try simp only[zP,aZ,simprocAttr]
 refine .done (hK _ ?_);simp only[cP];refine ⟨_,_,mK,gG default 0 false,[0,1,4,5,6],[enc s,enc (aj.of t),.ptr 1900004 [],.ptr 1900005 [],.ptr 1900006 []],mq,pP s t,rfl,?_⟩;exact {
  bA:=rfl
  z6:=Tu
  arg:=⟨.inl ⟨rfl,rfl,rfl⟩,.inl ⟨(iE _ _).symm,bG _ _,fe _⟩,.inl ⟨rfl,rfl,rfl⟩,.inl ⟨rfl,rfl,rfl⟩,.inl ⟨rfl,rfl,rfl⟩,trivial⟩
  xg:=Fz s t
  Dn:=rfl
  len:=rfl
  box:=fun q hq=>by
   simp only[mq,na,List.zip_cons_cons,List.zip_nil_right,zz3,List.not_mem_nil,or_false] at hq;rcases hq with rfl | rfl | rfl <;>exact ⟨_,rfl,rfl⟩
  lB:=fun m hm=>by
   have:=kN.1 hm;exact ⟨Nat.le_trans (t8 rfl:_≤1000000) (by omega),by omega⟩
  rest:=fun W D E d=>Wq hs ht W D E _ d
  kv:=Fy s t }
theorem wP{s:Int}(hs:0≤s∧s<1000003){t:List UInt8}(ht:t.length≤281474976710656):aQ Tryz.prog 70 [enc s,enc (aj.of t)] (ki (gH s t)):=aQ.AY (EO hs ht)
def fF(s:Int)(t:List UInt8):ai×Int×Int:=if dQ 0 1000002 s=false then (default,0,1) else match dA bf s t with
 |some (r,n)=>(r,n,0)
 |none=>(default,0,87)
theorem Ey(s:Int)(t:List UInt8)(ht:t.length≤281474976710656):aQ Tryz.prog 31 [enc s,enc (aj.of t)] (.tuple [enc (fF s t).1,enc (fF s t).2.1,enc (fF s t).2.2]):=by
 refine aQ.bM Tryz.func31 GI HR I8 (t8 rfl) (fun hwf W0 bF E1 =>?_);simp only[xW,B9,bB,Z8];clear hwf;have f1:=wS s;cases q1:dQ 0 1000002 s
 ·rw[q1] at f1;have e:fF s t=(default,0,1):=by rw[fF,if_pos q1]
  rw[e];have R:=y6 @ec (y6 @dI aD)
  repeat' ((first |refine U.aG (by decide +kernel) rfl fun K hK =>?_|refine .flat _ (f1) rfl ?_|(refine .aE [0,1,4,5,6,7,8,9,12,22] hK ?_;clear hK K)|(with_reducible refine .done (hK _ ?_);clear hK K)|refine U.of rfl ?_|(with_reducible refine aw.aF (fun h =>?_) (fun h =>?_) <;>try simp only[h])) <;>try simp only[aH,R,simprocAttr])
  all_goals clear R
  all_goals rfl
 rw[q1] at f1;have f2:=wP (s:=s) (by have:=mc.1 q1;omega) ht;rw[ki] at f2;cases h:dA bf s t with
 |none =>
  have e:fF s t=(default,0,87):=by rw[fF,if_neg (by simp[q1]),h]
  have e2:gH s t=(default,0,false):=by rw[gH,h]
  rw[e];rw[e2] at f2;have R:=y6 @ec (y6 @dI aD)
  repeat' ((first |refine U.aG (by decide +kernel) rfl fun K hK =>?_|refine .flat _ (f1) rfl ?_|refine .lead _ (f2) ?_|(refine .aE [0,1,4,5,6,7,8,9,12,22] hK ?_;clear hK K)|(with_reducible refine .done (hK _ ?_);clear hK K)|refine U.of rfl ?_|(with_reducible refine aw.aF (fun h =>?_) (fun h =>?_) <;>try simp only[h])) <;>try simp only[aH,R,simprocAttr])
  all_goals clear R
  all_goals rfl
 |some p =>
  obtain ⟨r,n⟩:=p;have e:fF s t=(r,n,0):=by rw[fF,if_neg (by simp[q1]),h]
  have e2:gH s t=(r,n,true):=by rw[gH,h]
  rw[e];rw[e2] at f2;have R:=y6 @ec (y6 @dI aD)
  repeat' ((first |refine U.aG (by decide +kernel) rfl fun K hK =>?_|refine .flat _ (f1) rfl ?_|refine .lead _ (f2) ?_|(refine .aE [0,1,4,5,6,7,8,9,12,22] hK ?_;clear hK K)|(with_reducible refine .done (hK _ ?_);clear hK K)|refine U.of rfl ?_|(with_reducible refine aw.aF (fun h =>?_) (fun h =>?_) <;>try simp only[h])) <;>try simp only[aH,R,simprocAttr])
  all_goals clear R
  all_goals rfl
def gl(f:Nat):Nat→Nat→Nat→List UInt8→Int×Int×Bool
 |_,_,_,[]=>(0,0,false)
 |0,_,_,_::_=>(0,0,false)
 |k+1,n,i,c::u=>if c.toNat=32 then ((n:Int),((i+1:Nat):Int),decide (f<i)) else if fM c=true then gl f k (10*n+(c.toNat-48)) (i+1) u else (0,0,false)
def wz(x:Int×Int×Bool):I:=.tuple [.int .i64 x.1,.int .i64 x.2.1,.bool x.2.2]
def tm(f:Nat)(t:List UInt8)(x:Nat×Nat):ab:=ay [(0,enc (aj.of t)),(1,.int .i64 (f:Int)),(7,.int .i64 (x.2:Int)),(8,.int .i64 ((f+x.1:Nat):Int))] []
def DY(f:Nat)(t:List UInt8)(x:Nat×Nat):Prop:=x.1≤9∧f+x.1≤t.length∧x.2<10^x.1∧gl f 9 0 f (t.drop f)=gl f (9-x.1) x.2 (f+x.1) (t.drop (f+x.1))
theorem EF(t:List UInt8)(ht:t.length≤281474976710656)(f:Nat)(hf:f≤t.length):aQ Tryz.prog 84 [enc (aj.of t),.int .i64 (f:Int)] (wz (gl f 9 0 f (t.drop f))):=by
 refine aQ.bM Tryz.func84 G0 H8 Jp (t8 rfl) (fun hwf W0 bF E1 =>?_);simp only[yj,Cp,bB,Z8];clear hwf;have hl:=kX t;have R:=y6 @bg aD
 repeat' ((first |(with_reducible refine .guard (fun hb =>?_) (fun hb =>?_) <;>try simp only[hb])|refine U.aG (by decide +kernel) rfl fun K hK =>?_|(refine .aE [0,1,4,5,6,7,8,19,25,41] hK ?_;clear hK K)|(with_reducible refine .done (hK _ ?_);clear hK K)|refine U.of rfl ?_|(with_reducible refine aw.aF (fun h =>?_) (fun h =>?_) <;>try simp only[h])) <;>try simp only[aH,R,simprocAttr])
 all_goals clear R
 refine U.loop (tm f t) (DY f t) (fun x=>9-x.1) (0,0) ⟨by simp,by simpa using hf,by simp,by simp⟩ ?_ ?_
 ·simp only[tm];refine bw.cK ?_ ?_ ?_ ?_ <;>simp[cj,cn,cm,bQ,cg,I.only,bG]
 rintro ⟨j,n⟩ ⟨h1,h2,h3,h4⟩;simp only at h1 h2 h3 h4;simp only[tm];have hp:(10:Nat)^j≤10^9:=Nat.pow_le_pow_right (by omega) h1;have hp2:(10:Nat)^(j+1)=10*10^j:=by rw[Nat.pow_succ,Nat.mul_comm]
 have hn9:n<1000000000:=by omega
 have hw9:IntKind.i64.wrap ((f:Int)+9)=((f+9:Nat):Int):=by rw[dB _ (by omega) (by omega)];rfl
 rw[h4];by_cases hlt:f+j<t.length
 ·have hlc:=eO hlt;by_cases hj:j<9
  ·have hjc:decide (((f+j:Nat):Int)<((f+9:Nat):Int))=true:=decide_eq_true (by omega);have he:=oh t hlt;have hw:=eE (i:=f+j) (by omega);have hd:t.drop (f+j)=t[f+j]::t.drop (f+j+1):=List.drop_eq_getElem_cons hlt;rw[hd,show 9-j=(9-(j+1))+1 by omega,gl];generalize t[f+j]=c at *;have hc:=c.toNat_lt;by_cases q1:c.toNat=32
   ·have qe:((c.toNat:Int)==32)=true:=by simp;omega
    have qg:decide (((f+j:Nat):Int)>(f:Int))=decide (f<f+j):=by rw[decide_eq_decide];omega
    rw[if_pos q1];have R:=y6 @hl (y6 @hlc (y6 @hjc (y6 @hw9 (y6 @he (y6 @hw (y6 @qe (y6 @qg (y6 @bg aD))))))))
    repeat' ((first |(with_reducible refine .guard (fun hb =>?_) (fun hb =>?_) <;>try simp only[hb])|refine U.aG (by decide +kernel) rfl fun K hK =>?_|(refine .aE [0,1,4,5,6,7,8,19,25,41] hK ?_;clear hK K)|(with_reducible refine .done (hK _ ?_);clear hK K)|refine U.of rfl ?_|(with_reducible refine aw.aF (fun h =>?_) (fun h =>?_) <;>try simp only[h])) <;>try simp only[aH,R,simprocAttr])
    all_goals clear R
    all_goals rfl
   have qe:((c.toNat:Int)==32)=false:=by simp;omega
   rw[if_neg q1];by_cases q2:(c.toNat:Int)<48
   ·rw[if_neg (by simp[fM];omega)];have qd:decide ((c.toNat:Int)<48)=true:=decide_eq_true q2;have R:=y6 @hl (y6 @hlc (y6 @hjc (y6 @hw9 (y6 @he (y6 @hw (y6 @qe (y6 @qd (y6 @bg aD))))))))
    repeat' ((first |(with_reducible refine .guard (fun hb =>?_) (fun hb =>?_) <;>try simp only[hb])|refine U.aG (by decide +kernel) rfl fun K hK =>?_|(refine .aE [0,1,4,5,6,7,8,19,25,41] hK ?_;clear hK K)|(with_reducible refine .done (hK _ ?_);clear hK K)|refine U.of rfl ?_|(with_reducible refine aw.aF (fun h =>?_) (fun h =>?_) <;>try simp only[h])) <;>try simp only[aH,R,simprocAttr])
    all_goals clear R
    all_goals rfl
   have qd:decide ((c.toNat:Int)<48)=false:=decide_eq_false q2;by_cases q3:(c.toNat:Int)>57
   ·rw[if_neg (by simp[fM];omega)];have qf:decide ((c.toNat:Int)>57)=true:=decide_eq_true q3;have R:=y6 @hl (y6 @hlc (y6 @hjc (y6 @hw9 (y6 @he (y6 @hw (y6 @qe (y6 @qd (y6 @qf (y6 @bg aD)))))))))
    repeat' ((first |(with_reducible refine .guard (fun hb =>?_) (fun hb =>?_) <;>try simp only[hb])|refine U.aG (by decide +kernel) rfl fun K hK =>?_|(refine .aE [0,1,4,5,6,7,8,19,25,41] hK ?_;clear hK K)|(with_reducible refine .done (hK _ ?_);clear hK K)|refine U.of rfl ?_|(with_reducible refine aw.aF (fun h =>?_) (fun h =>?_) <;>try simp only[h])) <;>try simp only[aH,R,simprocAttr])
    all_goals clear R
    all_goals rfl
   have qf:decide ((c.toNat:Int)>57)=false:=decide_eq_false q3;rw[if_pos (by simp[fM];omega)];have g1:IntKind.i64.wrap (10*(n:Int))=10*(n:Int):=dB _ (by omega) (by omega);have g2:IntKind.u8.wrap ((c.toNat:Int)-48)=(c.toNat:Int)-48:=DL (by omega);have g3:IntKind.i64.wrap ((c.toNat:Int)-48)=(c.toNat:Int)-48:=dB _ (by omega) (by omega);have g4:IntKind.i64.wrap (10*(n:Int)+((c.toNat:Int)-48))=((10*n+(c.toNat-48):Nat):Int):=by rw[dB _ (by omega) (by omega)];omega
   have R:=y6 @hl (y6 @hlc (y6 @hjc (y6 @hw9 (y6 @he (y6 @hw (y6 @qe (y6 @qd (y6 @qf (y6 @g1 (y6 @g2 (y6 @g3 (y6 @g4 (y6 @bg aD)))))))))))))
   repeat' ((first |(with_reducible refine .guard (fun hb =>?_) (fun hb =>?_) <;>try simp only[hb])|refine U.aG (by decide +kernel) rfl fun K hK =>?_|(refine .aE [0,1,4,5,6,7,8,19,25,41] hK ?_;clear hK K)|(with_reducible refine .done (hK _ ?_);clear hK K)|refine U.of rfl ?_|(with_reducible refine aw.aF (fun h =>?_) (fun h =>?_) <;>try simp only[h])) <;>try simp only[aH,R,simprocAttr])
   all_goals clear R
   refine ⟨(j+1,10*n+(c.toNat-48)),⟨by simp only;omega,by simp only;omega,by simp only;omega,?_⟩,by simp only;omega,?_⟩
   ·rw[h4,hd,show 9-j=(9-(j+1))+1 by omega,gl,if_neg q1,if_pos (by simp[fM];omega)];rfl
   ·simp only[];clear hd h4;refine bw.cK ?_ ?_ ?_ ?_ <;>simp[cj,cn,cm,bQ,cg,I.only,bG]
    all_goals rfl
  ·have hjc:decide (((f+j:Nat):Int)<((f+9:Nat):Int))=false:=decide_eq_false (by omega);have hd:t.drop (f+j)=t[f+j]::t.drop (f+j+1):=List.drop_eq_getElem_cons hlt;rw[hd,show 9-j=0 by omega,gl];have R:=y6 @hl (y6 @hlc (y6 @hjc (y6 @hw9 (y6 @bg aD))))
   repeat' ((first |(with_reducible refine .guard (fun hb =>?_) (fun hb =>?_) <;>try simp only[hb])|refine U.aG (by decide +kernel) rfl fun K hK =>?_|(refine .aE [0,1,4,5,6,7,8,19,25,41] hK ?_;clear hK K)|(with_reducible refine .done (hK _ ?_);clear hK K)|refine U.of rfl ?_|(with_reducible refine aw.aF (fun h =>?_) (fun h =>?_) <;>try simp only[h])) <;>try simp only[aH,R,simprocAttr])
   all_goals clear R
   all_goals rfl
 ·have hlc:=fm hlt;rw[List.drop_eq_nil_of_le (by omega),gl];have R:=y6 @hl (y6 @hlc (y6 @bg aD))
  repeat' ((first |(with_reducible refine .guard (fun hb =>?_) (fun hb =>?_) <;>try simp only[hb])|refine U.aG (by decide +kernel) rfl fun K hK =>?_|(refine .aE [0,1,4,5,6,7,8,19,25,41] hK ?_;clear hK K)|(with_reducible refine .done (hK _ ?_);clear hK K)|refine U.of rfl ?_|(with_reducible refine aw.aF (fun h =>?_) (fun h =>?_) <;>try simp only[h])) <;>try simp only[aH,R,simprocAttr])
  all_goals clear R
  all_goals rfl
theorem ve(f:Nat):∀ (k n i:Nat) (u w v:List UInt8) (m:Nat),cE 32 u=some (w,v)→ea n w=some m→w.length<k→gl f k n i u=((m:Int),((i+w.length+1:Nat):Int),decide (f<i+w.length))
 |0,_,_,_,_,_,_,_,_,h=>by omega
 |k+1,n,i,[],w,v,m,h,_,_=>by simp[cE] at h
 |k+1,n,i,c::u,w,v,m,h,hd,hk=>by
  rw[gl];rw[cE] at h;by_cases q:c=32
  ·rw[if_pos q] at h;cases h;rw[if_pos (by rw[q];rfl)];simp only[ea,v6] at hd;subst hd;simp
  ·rw[if_neg q] at h;have q':¬ c.toNat=32:=fun e=>q (UInt8.toNat_inj.1 e);rw[if_neg q'];cases h2:cE 32 u with
   |none=>rw[h2] at h;cases h
   |some p =>
    obtain ⟨w2,v2⟩:=p;rw[h2,Z7] at h;cases h;rw[ea] at hd;by_cases q2:fM c=true
    ·rw[if_pos q2] at hd ⊢;rw[Nat.mul_comm] at hd;rw[ve f k _ (i+1) u w2 _ m h2 hd (by simp only[Y4] at hk;omega)];simp only[Y4,Prod.mk.injEq,true_and,decide_eq_decide];exact ⟨by omega,by omega⟩
    ·rw[if_neg q2] at hd;cases hd
theorem AV(f:Nat):∀ (k n i:Nat) (u:List UInt8),(gl f k n i u).2.2=true→∃ w v m,cE 32 u=some (w,v)∧ea n w=some m∧w.length<k∧f<i+w.length
 |k,n,i,[],h=>by cases k <;>simp[gl] at h
 |0,n,i,c::u,h=>by simp[gl] at h
 |k+1,n,i,c::u,h=>by
  rw[gl] at h;by_cases q:c.toNat=32
  ·rw[if_pos q] at h;have hc:c=32:=UInt8.toNat_inj.1 q;exact ⟨[],u,n,by rw[cE,if_pos hc],rfl,by simp,by simpa using h⟩
  ·rw[if_neg q] at h;by_cases q2:fM c=true
   ·rw[if_pos q2] at h;obtain ⟨w,v,m,h1,h2,h3,h4⟩:=AV f k _ _ u h;refine ⟨c::w,v,m,?_,?_,by simp only[Y4];omega,by simp only[Y4];omega⟩
    ·rw[cE,if_neg (fun e=>q (by rw[e];rfl)),h1];rfl
    ·rw[ea,if_pos q2,Nat.mul_comm];exact h2
   ·rw[if_neg q2] at h;cases h
theorem J7(t:List UInt8)(f:Nat):(∃ w v m,cE 32 (t.drop f)=some (w,v)∧gS w=some m∧gl f 9 0 f (t.drop f)=(m,((f+w.length+1:Nat):Int),true)∧v=t.drop (f+w.length+1)∧f+w.length+1≤t.length) ∨
  ((∀ w v,cE 32 (t.drop f)=some (w,v)→gS w=none)∧∃ a b,gl f 9 0 f (t.drop f)=(a,b,false)):=by
 cases h:(gl f 9 0 f (t.drop f)).2.2
 ·refine .inr ⟨fun w v hw =>?_,_,_,by rw[←h]⟩;rw[gS];split
  ·rfl
  rename_i hl;cases hd:ea 0 w with
  |none=>rfl
  |some m =>
   rw[ve f 9 0 f _ w v m hw hd (by omega)] at h;have:w.length≠0:=fun e=>hl (.inl (List.length_eq_zero_iff.1 e));have h':=of_decide_eq_false h;omega
 ·obtain ⟨w,v,m,h1,h2,h3,h4⟩:=AV f _ _ _ _ h;refine .inl ⟨w,v,(m:Int),h1,?_,?_,?_⟩
  ·rw[gS,if_neg,h2];rfl;rintro (e | e)
   ·subst e;simp at h4
   ·omega
  ·rw[ve f 9 0 f _ w v m h1 h2 h3,decide_eq_true h4]
  ·rcases nu 32 (t.drop f) with ⟨e,_⟩ | ⟨i,h0,h5,e⟩
   ·rw[e] at h1;cases h1
   ·rw[e] at h1;cases h1;have hw:(List.take i (t.drop f)).length=i:=by rw[Z9];omega
    rw[hw,List.drop_drop];refine ⟨congrArg (fun k=>t.drop k) (by omega),?_⟩;rw[zz1] at h0;omega
def dH(l:List Int):dS 8 Int:=⟨(l++List.replicate 8 0).take 8,by simp⟩
theorem VI{l:List Int}(h:l.length<8)(v:Int):(⟨(dH l).l.set l.length v,by simp[(dH l).h]⟩:dS 8 Int)=dH (l++[v]):=by
 simp only[dH,dS.mk.injEq];refine List.ext_getElem (by simp) fun i h1 h2 =>?_;simp only[Z9,Z1,List.length_replicate,List.length_set,Y4,X2] at h1 h2;simp only[List.getElem_set,List.getElem_take,List.getElem_append];by_cases e:l.length=i
 ·subst e;simp
 ·by_cases k:i<l.length
  ·rw[if_neg e,dif_pos k,dif_pos (by simp;omega),dif_pos k]
  ·rw[if_neg e,dif_neg k,dif_neg (by simp;omega)];simp only[List.getElem_replicate]
theorem KB:I.agg [.int .i64 0,.int .i64 0,.int .i64 0,.int .i64 0,.int .i64 0,.int .i64 0,.int .i64 0,.int .i64 0]=enc (dH []):=rfl
theorem VH{l:List Int}(h:l.length=8)(k:Nat):(dH l).g k=l.getD k 0:=by
 simp only[dS.g,dH];rw[List.take_left' h]
theorem WO{l:List Int}(h:l.length<8)(v:Int):(enc (dH l):I).dp [l.length] (.int .i64 v)=enc (dH (l++[v])):=by
 have h1:(enc (dH l):I).cZ=some ((dH l).l.map enc):=rfl;rw[sI,h1];simp only[mO,uI (dH l) h,oo,fi];rw[←VI h]
 change I.agg _=I.agg (((dH l).l.set l.length v).map enc)
 rw[List.map_set];rfl
theorem WX{A:ab}{n:Nat}{l:List Int}(h:l.length<8){v u:Int}{rest:List ar} : er A none n [l.length] (enc (dH l)) (.int .i64 v) rest (some (.int .i64 u))=ao rest (A.aP n (.box (enc (dH (l++[v]))))):=by
 rw[fj (s:=none) (v:=.int .i64 v) (old:=.int .i64 u) rfl rfl rfl,WO h]
theorem Kz{l:List Int}{u:List UInt8}(h:l.length=8):I.agg [.agg [.int .i64 ((dH l).g 1),.int .i64 ((dH l).g 2)],.int .i64 ((dH l).g 3),.int .i64 ((dH l).g 4),.int .i64 ((dH l).g 5),.agg [.int .i64 ((dH l).g 6),.int .i64 ((dH l).g 7)],enc (aj.of u)]=enc (fo l u):=by
 simp only[VH h];rfl
theorem V9{s:Int}{t u:List UInt8}{l:List Int}(hp:eW gS 8 t=some (l,u)) :
  jf bf s t=if t.getLast?=some 10∧u≠[] then (if bf (fo l u.dropLast)=true∧cR s (fo l u.dropLast)=t then some (fo l u.dropLast,cL s (cz (fo l u.dropLast))) else none) else none:=by
 rw[jf,hp,zz0];rfl
def n5(s:Int)(t:List UInt8):ai×Int×Int:=match jf bf s t with
 |some (r,n)=>(r,n,0)
 |none=>(default,0,87)
theorem pS{s:Int}{t:List UInt8}(h:jf bf s t=none):n5 s t=(default,0,87):=by rw[n5,h]
theorem V7{s:Int}(hs:dQ 0 1000002 s=true)(t:List UInt8):fF s t=n5 s t:=by
 rw[fF,if_neg (by simp[hs]),Wb (ok:=bf) (by have:=mc.1 hs;omega) (fun r h=>pM h),n5];all_goals (cases jf bf s t <;>rfl)
def wy(x:ai×Int×Int):I:=.tuple [enc x.1,enc x.2.1,enc x.2.2]
def tk(s:Int)(t:List UInt8)(x:List Int×Nat):ab:=ay [(0,enc s),(1,enc (aj.of t)),(4,.ptr 4 []),(7,.ptr 7 []),(8,.int .i64 (x.2:Int)),(9,.int .i64 (x.1.length:Int))] [(4,.box (enc (default:ai))),(7,.box (enc (dH x.1)))]
def DW(t:List UInt8)(x:List Int×Nat):Prop:=x.1.length≤8∧x.2≤t.length∧eW gS 8 t=(eW gS (8-x.1.length) (t.drop x.2)).map fun p=>(x.1++p.1,p.2)
theorem Ez(s:Int)(t:List UInt8)(ht:t.length≤281474976710656):aQ Tryz.prog 32 [enc s,enc (aj.of t)] (wy (fF s t)):=by
 refine aQ.bM Tryz.func32 GJ HS I9 (t8 rfl) (fun hwf W0 bF E1 =>?_);simp only[xX,Ca,bB,Z8];clear hwf;have f1:=lp s 0 1000002;cases q1:dQ 0 1000002 s
 ·rw[q1] at f1;have e:fF s t=(default,0,1):=by rw[fF,if_pos q1]
  rw[e];have R:=y6 @ec (y6 @dI aD)
  repeat' ((first |(with_reducible refine .guard (fun hb =>?_) (fun hb =>?_) <;>try simp only[hb])|refine U.aG (by decide +kernel) rfl fun K hK =>?_|refine .flat _ (f1) rfl ?_|(refine .aE [0,1,4,5,6,7,8,9,10,11,12,13,14,15,18,21,32,50,77,87] hK ?_;clear hK K)|(with_reducible refine .done (hK _ ?_);clear hK K)|refine U.of rfl ?_|(with_reducible refine aw.aF (fun h =>?_) (fun h =>?_) <;>try simp only[h])) <;>try simp only[aH,R,simprocAttr])
  all_goals clear R
  all_goals rfl
 rw[q1] at f1;rw[V7 q1];have hs:=mc.1 q1;have R:=y6 @ec (y6 @KB (y6 @dI aD))
 repeat' ((first |(with_reducible refine .guard (fun hb =>?_) (fun hb =>?_) <;>try simp only[hb])|refine U.aG (by decide +kernel) rfl fun K hK =>?_|refine .flat _ (f1) rfl ?_|(refine .aE [0,1,4,5,6,7,8,9,10,11,12,13,14,15,18,21,32,50,77,87] hK ?_;clear hK K)|(with_reducible refine .done (hK _ ?_);clear hK K)|refine U.of rfl ?_|(with_reducible refine aw.aF (fun h =>?_) (fun h =>?_) <;>try simp only[h])) <;>try simp only[aH,R,simprocAttr])
 all_goals clear R
 refine U.loop (tk s t) (DW t) (fun x=>8-x.1.length) ([],0) ⟨by simp,by simp,by simp⟩ ?_ ?_
 ·simp only[tk];refine bw.cK ?_ ?_ ?_ ?_ <;>simp[cj,cn,cm,bQ,aB,cg,dR,I.only,ah.only,bG,tZ]
  all_goals rfl
 rintro ⟨l,p⟩ ⟨hl8,hp,htk⟩;simp only at hl8 hp htk;simp only[tk];by_cases hlt8:l.length<8
 ·have hlc:decide ((l.length:Int)<8)=true:=decide_eq_true (by omega);have hib:=fun {y:Option I} =>nJ 1 (dH l) (y:=y) (show (0:Int)≤(l.length:Int)∧(l.length:Int)<(8:Nat) by omega) rfl;have hat:=fun p=>fJ (p:=p) (dH l) hlt8;have hst:=fun A n v u rest=>WX (A:=A) (n:=n) hlt8 (v:=v) (u:=u) (rest:=rest);have hws:=eE (i:=l.length) (by omega);have e8:8-l.length=(8-(l++[(0:Int)]).length)+1:=by simp;omega
  have f84:=EF t ht p hp;rcases J7 t p with ⟨w,v,m,hw1,ho1,hn1,hv1,hle⟩ | ⟨hno,a,b,hn1⟩
  ·rw[hn1,wz] at f84;have R:=y6 @hlc (y6 @hib (y6 @hat (y6 @hst (y6 @hws (y6 @Int.toNat_natCast (y6 @ec (y6 @dI aD)))))))
   repeat' ((first |(with_reducible refine .guard (fun hb =>?_) (fun hb =>?_) <;>try simp only[hb])|refine U.aG (by decide +kernel) rfl fun K hK =>?_|refine .lead _ (f84) ?_|(refine .aE [0,1,4,5,6,7,8,9,10,11,12,13,14,15,18,21,32,50,77,87] hK ?_;clear hK K)|(with_reducible refine .done (hK _ ?_);clear hK K)|refine U.of rfl ?_|(with_reducible refine aw.aF (fun h =>?_) (fun h =>?_) <;>try simp only[h])) <;>try simp only[aH,R,simprocAttr])
   all_goals clear R
   refine ⟨(l++[m],p+w.length+1),⟨by simp;omega,hle,?_⟩,by simp;omega,?_⟩
   ·rw[htk,e8,wm hw1 ho1,hv1];simp only[Z1,Y4,X2,Option.map_map]
    congr 1
    funext p
    simp
   ·have el:((l++[m]).length:Int)=((l.length+1:Nat):Int):=by simp
    simp only[el];refine bw.cK ?_ ?_ ?_ ?_ <;>simp[cj,cn,cm,bQ,aB,cg,dR,I.only,ah.only,bG]
    all_goals rfl
  ·rw[hn1,wz] at f84;rw[pS (by rw[jf,htk,e8,wj hno];rfl)];have R:=y6 @hlc (y6 @hib (y6 @hat (y6 @hst (y6 @hws (y6 @Int.toNat_natCast (y6 @ec (y6 @dI aD)))))))
   repeat' ((first |(with_reducible refine .guard (fun hb =>?_) (fun hb =>?_) <;>try simp only[hb])|refine U.aG (by decide +kernel) rfl fun K hK =>?_|refine .lead _ (f84) ?_|(refine .aE [0,1,4,5,6,7,8,9,10,11,12,13,14,15,18,21,32,50,77,87] hK ?_;clear hK K)|(with_reducible refine .done (hK _ ?_);clear hK K)|refine U.of rfl ?_|(with_reducible refine aw.aF (fun h =>?_) (fun h =>?_) <;>try simp only[h])) <;>try simp only[aH,R,simprocAttr])
   all_goals clear R
   all_goals rfl
 ·have hlc:decide ((l.length:Int)<8)=false:=decide_eq_false (by omega);have h8:l.length=8:=by omega
  have hib:=fun {k:Int} {y:Option I} (h:(0:Int)≤k∧k<(8:Nat))=>nJ 1 (dH l) (y:=y) h rfl;have hi1:=fun {y:Option I} =>hib (k:=1) (y:=y) (by decide);have hi2:=fun {y:Option I} =>hib (k:=2) (y:=y) (by decide);have hi3:=fun {y:Option I} =>hib (k:=3) (y:=y) (by decide);have hi4:=fun {y:Option I} =>hib (k:=4) (y:=y) (by decide);have hi5:=fun {y:Option I} =>hib (k:=5) (y:=y) (by decide);have hi6:=fun {y:Option I} =>hib (k:=6) (y:=y) (by decide);have hi7:=fun {y:Option I} =>hib (k:=7) (y:=y) (by decide);have ha1:=fun p=>fJ (p:=p) (dH l) (show 1<8 by decide);have ha2:=fun p=>fJ (p:=p) (dH l) (show 2<8 by decide);have ha3:=fun p=>fJ (p:=p) (dH l) (show 3<8 by decide);have ha4:=fun p=>fJ (p:=p) (dH l) (show 4<8 by decide);have ha5:=fun p=>fJ (p:=p) (dH l) (show 5<8 by decide);have ha6:=fun p=>fJ (p:=p) (dH l) (show 6<8 by decide);have ha7:=fun p=>fJ (p:=p) (dH l) (show 7<8 by decide);rw[h8,Nat.sub_self,eW,Z7,List.append_nil] at htk;have hT:=V9 (s:=s) htk;have hne:t≠[]:=fun e=>by rw[e] at htk;cases htk
  have hpos:0<t.length:=List.length_pos_iff.2 hne;have hlen:=kX t;have hw1:IntKind.i64.wrap ((t.length:Int)-1)=((t.length-1:Nat):Int):=by rw[dB _ (by omega) (by omega)];omega
  have he:=oh t (i:=t.length-1) (by omega);have hgl:t.getLast?=some (t[t.length-1]'(by omega)):=by rw[List.getLast?_eq_getElem?,Y8]
  rw[hgl] at hT;generalize (t[t.length-1]'(by omega))=c at *;by_cases qc:c=10
  ·have q2:((c.toNat:Int) != 10)=false:=by rw[qc];rfl
   by_cases qp:p<t.length
   ·have q3:decide ((p:Int)>((t.length-1:Nat):Int))=false:=decide_eq_false (by omega);rw[if_pos ⟨by rw[qc],by simp;omega⟩] at hT;have hss:=Da (aj.of t) (i:=p) (j:=t.length-1) (by omega) (by rw[aj.c6];omega);have hdl:(t.drop p).take (t.length-1-p)=(t.drop p).dropLast:=by rw[List.dropLast_eq_take,zz1];congr 1;omega
    rw[aj.c6,hdl] at hss;generalize (t.drop p).dropLast=u at *;have hmk:=Kz (u:=u) h8;generalize fo l u=r at *;have f34:=wO r;have hstr:=fun A n b rest=>dI.2 A n b rest r _ hmk;cases ho:bf r
    ·rw[show iC r=80 by simp[iC,ho]] at f34;rw[if_neg (by simp[ho])] at hT;rw[pS hT];have R:=y6 @hlc (y6 @hlen (y6 @hw1 (y6 @he (y6 @q2 (y6 @q3 (y6 @hi1 (y6 @hi2 (y6 @hi3 (y6 @hi4 (y6 @hi5 (y6 @hi6 (y6 @hi7 (y6 @ha1 (y6 @ha2 (y6 @ha3 (y6 @ha4 (y6 @ha5 (y6 @ha6 (y6 @ha7 (y6 @hss (y6 @ky (y6 @hstr (y6 @ec (y6 @dI (y6 @bg aD)))))))))))))))))))))))))
     repeat' ((first |(with_reducible refine .guard (fun hb =>?_) (fun hb =>?_) <;>try simp only[hb])|refine U.aG (by decide +kernel) rfl fun K hK =>?_|refine .flat _ (f34) rfl ?_|(refine .aE [0,1,4,5,6,7,8,9,10,11,12,13,14,15,18,21,32,50,77,87] hK ?_;clear hK K)|(with_reducible refine .done (hK _ ?_);clear hK K)|refine U.of rfl ?_|(with_reducible refine aw.aF (fun h =>?_) (fun h =>?_) <;>try simp only[h])) <;>try simp only[aH,R,simprocAttr])
     all_goals clear R
     all_goals rfl
    rw[show iC r=0 by simp[iC,ho]] at f34;have f83:=wT s (by omega) r ho;by_cases hq:cR s r=t
    ·rw[if_pos ⟨ho,hq⟩] at hT;rw[show n5 s t=(r,cL s (cz r),0) by rw[n5,hT]];have d2:(decide (cR s r=t))=true:=decide_eq_true hq;have R:=y6 @hlc (y6 @hlen (y6 @hw1 (y6 @he (y6 @q2 (y6 @q3 (y6 @hi1 (y6 @hi2 (y6 @hi3 (y6 @hi4 (y6 @hi5 (y6 @hi6 (y6 @hi7 (y6 @ha1 (y6 @ha2 (y6 @ha3 (y6 @ha4 (y6 @ha5 (y6 @ha6 (y6 @ha7 (y6 @hss (y6 @d2 (y6 @gI (y6 @ky (y6 @hstr (y6 @ec (y6 @dI (y6 @bg aD)))))))))))))))))))))))))))
     repeat' ((first |(with_reducible refine .guard (fun hb =>?_) (fun hb =>?_) <;>try simp only[hb])|refine U.aG (by decide +kernel) rfl fun K hK =>?_|refine .flat _ (f34) rfl ?_|refine .lead _ (f83) ?_|(refine .aE [0,1,4,5,6,7,8,9,10,11,12,13,14,15,18,21,32,50,77,87] hK ?_;clear hK K)|(with_reducible refine .done (hK _ ?_);clear hK K)|refine U.of rfl ?_|(with_reducible refine aw.aF (fun h =>?_) (fun h =>?_) <;>try simp only[h])) <;>try simp only[aH,R,simprocAttr])
     all_goals clear R
     all_goals rfl
    ·rw[if_neg (fun k=>hq k.2)] at hT;rw[pS hT];have d2:(decide (cR s r=t))=false:=decide_eq_false hq;have R:=y6 @hlc (y6 @hlen (y6 @hw1 (y6 @he (y6 @q2 (y6 @q3 (y6 @hi1 (y6 @hi2 (y6 @hi3 (y6 @hi4 (y6 @hi5 (y6 @hi6 (y6 @hi7 (y6 @ha1 (y6 @ha2 (y6 @ha3 (y6 @ha4 (y6 @ha5 (y6 @ha6 (y6 @ha7 (y6 @hss (y6 @d2 (y6 @gI (y6 @ky (y6 @hstr (y6 @ec (y6 @dI (y6 @bg aD)))))))))))))))))))))))))))
     repeat' ((first |(with_reducible refine .guard (fun hb =>?_) (fun hb =>?_) <;>try simp only[hb])|refine U.aG (by decide +kernel) rfl fun K hK =>?_|refine .flat _ (f34) rfl ?_|refine .lead _ (f83) ?_|(refine .aE [0,1,4,5,6,7,8,9,10,11,12,13,14,15,18,21,32,50,77,87] hK ?_;clear hK K)|(with_reducible refine .done (hK _ ?_);clear hK K)|refine U.of rfl ?_|(with_reducible refine aw.aF (fun h =>?_) (fun h =>?_) <;>try simp only[h])) <;>try simp only[aH,R,simprocAttr])
     all_goals clear R
     all_goals rfl
   ·have q3:decide ((p:Int)>((t.length-1:Nat):Int))=true:=decide_eq_true (by omega);rw[if_neg (fun k=>k.2 (List.drop_eq_nil_of_le (by omega)))] at hT;rw[pS hT];have R:=y6 @hlc (y6 @hlen (y6 @hw1 (y6 @he (y6 @q2 (y6 @q3 (y6 @ec (y6 @dI (y6 @bg aD))))))))
    repeat' ((first |(with_reducible refine .guard (fun hb =>?_) (fun hb =>?_) <;>try simp only[hb])|refine U.aG (by decide +kernel) rfl fun K hK =>?_|(refine .aE [0,1,4,5,6,7,8,9,10,11,12,13,14,15,18,21,32,50,77,87] hK ?_;clear hK K)|(with_reducible refine .done (hK _ ?_);clear hK K)|refine U.of rfl ?_|(with_reducible refine aw.aF (fun h =>?_) (fun h =>?_) <;>try simp only[h])) <;>try simp only[aH,R,simprocAttr])
    all_goals clear R
    all_goals rfl
  ·have q2:((c.toNat:Int) != 10)=true:=by
    have:¬ c.toNat=10:=fun e=>qc (UInt8.toNat_inj.1 e);simp;omega
   rw[if_neg (fun k=>qc (Option.some.inj k.1))] at hT;rw[pS hT];have R:=y6 @hlc (y6 @hlen (y6 @hw1 (y6 @he (y6 @q2 (y6 @ec (y6 @dI (y6 @bg aD)))))))
   repeat' ((first |(with_reducible refine .guard (fun hb =>?_) (fun hb =>?_) <;>try simp only[hb])|refine U.aG (by decide +kernel) rfl fun K hK =>?_|(refine .aE [0,1,4,5,6,7,8,9,10,11,12,13,14,15,18,21,32,50,77,87] hK ?_;clear hK K)|(with_reducible refine .done (hK _ ?_);clear hK K)|refine U.of rfl ?_|(with_reducible refine aw.aF (fun h =>?_) (fun h =>?_) <;>try simp only[h])) <;>try simp only[aH,R,simprocAttr])
   all_goals clear R
   all_goals rfl
theorem jk{α:Type}{l:List α}{i:Nat}(h:i<l.length):l.take (i+1)=l.take i++[l[i]]:=List.take_succ_eq_append_getElem h
theorem sQ(a:List ai):0≤ev 1 a∧ev 1 a<1000003:=DE a (by omega)
theorem rM{s:Int}(hs:0≤s∧s<1000003){r:ai}(h:bf r=true):(cR s r).length≤240:=by
 have h1:=tC (k:=160) (sd h) (pM h);have h2:=lR hs (cz r);have h3:=pt (k:=7) (n:=cL s (cz r)) (by omega);simp only[cR,da,List.flatMap_cons,List.flatMap_nil,Z1,Y4,X2];omega
theorem sR:∀ (l:List ai) {s:Int},0≤s∧s<1000003→(∀ r∈l,bf r=true)→(eQ s l).length≤240*l.length
 | [],_,_,_=>by simp[eQ]
 |r::l,s,hs,h=>by
  have h1:=rM hs (h r (by simp));have h2:=sR l (lR hs (cz r)) fun q hq=>h q (by simp[hq]);simp only[eQ,Z1,Y4];omega
theorem Ef(l:List ai)(hl:l.length≤1000000000)(h:∀ r∈l,bf r=true):aQ Tryz.prog 137 [enc l] (enc (ev 1 l)):=by
 refine aQ.bM Tryz.func137 Gj Hu IK (t8 rfl) (fun hwf W0 bF E1 =>?_);simp only[xD,BM,bB];clear hwf;have R:=aD
 repeat' ((first |refine U.aG (by decide +kernel) rfl fun K hK =>?_|(refine .aE [0,2,3,5,6,7,8,9] hK ?_;clear hK K)|(with_reducible refine .done (hK _ ?_);clear hK K)|refine U.of rfl ?_|(with_reducible refine aw.aF (fun h =>?_) (fun h =>?_) <;>try simp only[h])) <;>try simp only[aH,R,simprocAttr])
 all_goals clear R
 refine U.loop (fun i:Nat=>ay [(0,enc l),(3,.int .i64 (ev 1 (l.take i))),(6,enc l),(7,.int .i64 l.length),(8,.int .i64 i)] []) (fun i=>i≤l.length) (fun i=>l.length-i) 0 (Nat.zero_le _) ?_ ?_
 ·refine bw.cK ?_ ?_ ?_ ?_ <;>simp[cj,cn,cm,bQ,cg,I.only,bG]
  all_goals rfl
 intro i hi;by_cases hlt:i<l.length
 ·have hlc:=eO hlt;have he:=fun A=>fR (A:=A) 8 hlt rfl;have hw:=eE (i:=i) (by omega);have hsn:=(wq (l.take i) l[i] 1).2;rw[←jk hlt] at hsn;have hok:=h l[i] (List.getElem_mem hlt);have hst:=sQ (l.take i);generalize l[i]=r at *;generalize ev 1 (l.take i)=z at *;have f:=oD z hst r hok;have R:=y6 @hlc (y6 @he (y6 @hw (y6 @ec (y6 @dI aD))))
  repeat' ((first |refine U.aG (by decide +kernel) rfl fun K hK =>?_|refine .lead _ (f) ?_|(refine .aE [0,2,3,5,6,7,8,9] hK ?_;clear hK K)|(with_reducible refine .done (hK _ ?_);clear hK K)|refine U.of rfl ?_|(with_reducible refine aw.aF (fun h =>?_) (fun h =>?_) <;>try simp only[h])) <;>try simp only[aH,R,simprocAttr])
  all_goals clear R
  refine ⟨i+1,by omega,by omega,?_⟩;rw[hsn];refine bw.cK ?_ ?_ ?_ ?_ <;>simp[cj,cn,cm,bQ,cg,I.only,bG]
  all_goals rfl
 ·have hlc:=fm hlt;have hge:i=l.length:=by omega
  subst hge;rw[List.take_length];have R:=y6 @hlc aD
  repeat' ((first |refine U.aG (by decide +kernel) rfl fun K hK =>?_|(refine .aE [0,2,3,5,6,7,8,9] hK ?_;clear hK K)|(with_reducible refine .done (hK _ ?_);clear hK K)|refine U.of rfl ?_|(with_reducible refine aw.aF (fun h =>?_) (fun h =>?_) <;>try simp only[h])) <;>try simp only[aH,R,simprocAttr])
  all_goals clear R
  all_goals rfl
theorem Xu(l:List ai)(hl:l.length≤1000000000)(h:∀ r∈l,bf r=true):aQ Tryz.prog 90 [enc l] (enc (aj.of (eQ 1 l))):=by
 refine aQ.bM Tryz.func90 G5 Ie Ju (t8 rfl) (fun hwf W0 bF E1 =>?_);simp only[yn,Cu,bB];clear hwf;have R:=aD
 repeat' ((first |refine U.aG (by decide +kernel) rfl fun K hK =>?_|(refine .aE [0,2,3,4,5,6,7,11] hK ?_;clear hK K)|(with_reducible refine .done (hK _ ?_);clear hK K)|refine U.of rfl ?_|(with_reducible refine aw.aF (fun h =>?_) (fun h =>?_) <;>try simp only[h])) <;>try simp only[aH,R,simprocAttr])
 all_goals clear R
 refine U.loop (fun i:Nat=>ay [(0,enc l),(3,enc (aj.of (eQ 1 (l.take i)))),(4,.int .i64 (ev 1 (l.take i))),(5,.int .i64 i)] []) (fun i=>i≤l.length) (fun i=>l.length-i) 0 (Nat.zero_le _) ?_ ?_
 ·refine bw.cK ?_ ?_ ?_ ?_ <;>simp[cj,cn,cm,bQ,cg,I.only,bG]
  all_goals exact ⟨rfl,rfl⟩
 intro i hi;by_cases hlt:i<l.length
 ·have hlc:=eO hlt;have he:=fun A=>fR (A:=A) 8 hlt rfl;have hw:=eE (i:=i) (by omega);have hsn:=wq (l.take i) l[i] 1;rw[←jk hlt] at hsn;have hok:=h l[i] (List.getElem_mem hlt);have hst:=sQ (l.take i);have hln:=sR (l.take i) (s:=1) (by omega) fun q hq=>h q (List.mem_of_mem_take hq);have hli:(l.take i).length=i:=by rw[Z9];omega
  generalize l[i]=r at *;have hll:=rM hst hok;generalize ev 1 (l.take i)=z at *;generalize eQ 1 (l.take i)=u at *;have f:=wT z hst r hok;have ha:=eH u (cR z r) (by omega);have R:=y6 @hlc (y6 @he (y6 @hw (y6 @ha aD)))
  repeat' ((first |refine U.aG (by decide +kernel) rfl fun K hK =>?_|refine .lead _ (f) ?_|(refine .aE [0,2,3,4,5,6,7,11] hK ?_;clear hK K)|(with_reducible refine .done (hK _ ?_);clear hK K)|refine U.of rfl ?_|(with_reducible refine aw.aF (fun h =>?_) (fun h =>?_) <;>try simp only[h])) <;>try simp only[aH,R,simprocAttr])
  all_goals clear R
  refine ⟨i+1,by omega,by omega,?_⟩;rw[hsn.1,hsn.2];clear hsn;refine bw.cK ?_ ?_ ?_ ?_ <;>simp[cj,cn,cm,bQ,cg,I.only,bG]
  all_goals rfl
 ·have hlc:=fm hlt;have hge:i=l.length:=by omega
  subst hge;rw[List.take_length];have R:=y6 @hlc aD
  repeat' ((first |refine U.aG (by decide +kernel) rfl fun K hK =>?_|(refine .aE [0,2,3,4,5,6,7,11] hK ?_;clear hK K)|(with_reducible refine .done (hK _ ?_);clear hK K)|refine U.of rfl ?_|(with_reducible refine aw.aF (fun h =>?_) (fun h =>?_) <;>try simp only[h])) <;>try simp only[aH,R,simprocAttr])
  all_goals clear R
  all_goals rfl
def di(l:List ai):dS 6 Int:=⟨(List.range 6).map fun m=>(fb l (m:Nat):Int),by simp⟩
theorem qP(l:List ai){k:Nat}(h:k<6):(di l).g k=fb l k:=by
 have:∀ j:Fin 6,(di l).g j=fb l (j:Nat):=fun j=>by
  match j with
  |0=>rfl
  |1=>rfl
  |2=>rfl
  |3=>rfl
  |4=>rfl
  |5=>rfl
 exact this ⟨k,h⟩
theorem y9:I.agg [.int .i64 0,.int .i64 0,.int .i64 0,.int .i64 0,.int .i64 0,.int .i64 0]=enc (di []):=rfl
theorem Iw(l:List ai)(r:ai){k:Nat}(h:k<6)(hm:r.bd=(k:Int)):(⟨(di l).l.set k ((di l).g k+1),by simp[(di l).h]⟩:dS 6 Int)=di (l++[r]):=by
 rw[qP l h];simp only[di,dS.mk.injEq];refine List.ext_getElem (by simp) fun i h1 h2 =>?_;simp only[List.getElem_set,List.getElem_map,List.getElem_range,oS,hm];by_cases e:k=i
 ·subst e;simp
 ·rw[if_neg e,if_neg (by omega)];simp
theorem WM(l:List ai)(r:ai){k:Nat}(h:k<6)(hm:r.bd=(k:Int)):(enc (di l):I).dp [k] (.int .i64 ((di l).g k+1))=enc (di (l++[r])):=by
 have h1:(enc (di l):I).cZ=some ((di l).l.map enc):=rfl;rw[sI,h1];simp only[mO,uI (di l) h,oo,fi];rw[←Iw l r h hm]
 change I.agg _=I.agg (((di l).l.set k ((di l).g k+1)).map enc)
 rw[List.map_set];rfl
theorem Dw(l:List ai)(r:ai){k:Nat}(h:k<6)(hm:r.bd=(k:Int))(A:ab)(n:Nat)(u:Int)(rest:List ar):er A none n [k] (enc (di l)) (.int .i64 ((di l).g k+1)) rest (some (.int .i64 u))=ao rest (A.aP n (.box (enc (di (l++[r]))))):=by
 rw[fj (s:=none) (v:=.int .i64 ((di l).g k+1)) (old:=.int .i64 u) rfl rfl rfl,WM l r h hm]
theorem kg:(∀ A n b rest (q r:dS 6 Int),er A (some 6) n [] b (enc q) rest (some (enc r))=ao rest (A.aP n (.box (enc q))))∧(∀ q:dS 6 Int,bU (some 6) (enc q)=true) :=
 ⟨fun A n b rest q r=>by rw[fj (fe _) (by rw[ib];rfl) ((eA _).trans (eA _).symm),fi],fun q=>by rw[ib];rfl⟩
theorem yN(l:List ai)(m:Int):fb l m≤l.length:=List.countP_le_length
def pj(l:List ai):Prop:=∀ r∈l,0≤r.bd∧r.bd≤5
theorem wE(l:List ai)(hl:l.length≤1000000000)(h:pj l):aQ Tryz.prog 100 [enc l] (enc (di l)):=by
 refine aQ.bM Tryz.func100 F3 Hj Iy (t8 rfl) (fun hwf W0 bF E1 =>?_);simp only[xq,BA,bB];clear hwf;have R:=y6 @y9 aD
 repeat' ((first |refine U.aG (by decide +kernel) rfl fun K hK =>?_|(refine .aE [0,2,3,5,6,7,8,9] hK ?_;clear hK K)|(with_reducible refine .done (hK _ ?_);clear hK K)|refine U.of rfl ?_|(with_reducible refine aw.aF (fun h =>?_) (fun h =>?_) <;>try simp only[h])) <;>try simp only[aH,R,simprocAttr])
 all_goals clear R
 refine U.loop (fun i:Nat=>ay [(0,enc l),(2,.ptr 2 []),(3,.ptr 3 []),(6,enc l),(7,.int .i64 l.length),(8,.int .i64 i)] [(2,.box (enc (di []))),(3,.box (enc (di (l.take i))))]) (fun i=>i≤l.length) (fun i=>l.length-i) 0 (Nat.zero_le _) ?_ ?_
 ·refine bw.cK ?_ ?_ ?_ ?_ <;>simp[cj,cn,cm,bQ,aB,cg,dR,I.only,ah.only,bG]
  all_goals rfl
 intro i hi;by_cases hlt:i<l.length
 ·have hlc:=eO hlt;have he:=fun A=>fR (A:=A) 8 hlt rfl;have hw:=eE (i:=i) (by omega);have hsn:=jk hlt;have hin:=h l[i] (List.getElem_mem hlt);have hle:=yN (l.take i);have hli:(l.take i).length=i:=by rw[Z9];omega
  generalize l[i]=r at *;obtain ⟨k,hk⟩:=Y1 hin.1;have hk6:k<6:=by omega
  have hib:=fun {y:Option I} =>nJ 1 (di (l.take i)) (y:=y) (show (0:Int)≤(k:Int)∧(k:Int)<(6:Nat) by omega) rfl;have hat:=fun p=>fJ (p:=p) (di (l.take i)) hk6;have hst:=Dw (l.take i) r hk6 hk;have hw1:IntKind.i64.wrap ((di (l.take i)).g k+1)=(di (l.take i)).g k+1:=by
   have:=hle k;rw[qP _ hk6];exact dB _ (by omega) (by omega)
  rw[←hsn] at hst;have R:=y6 @hlc (y6 @he (y6 @hw (y6 @hk (y6 @hib (y6 @hat (y6 @hst (y6 @hw1 (y6 @Int.toNat_natCast (y6 @ec (y6 @dI aD))))))))))
  repeat' ((first |refine U.aG (by decide +kernel) rfl fun K hK =>?_|(refine .aE [0,2,3,5,6,7,8,9] hK ?_;clear hK K)|(with_reducible refine .done (hK _ ?_);clear hK K)|refine U.of rfl ?_|(with_reducible refine aw.aF (fun h =>?_) (fun h =>?_) <;>try simp only[h])) <;>try simp only[aH,R,simprocAttr])
  all_goals clear R
  refine ⟨i+1,by omega,by omega,?_⟩;clear hsn;refine bw.cK ?_ ?_ ?_ ?_ <;>simp[cj,cn,cm,bQ,aB,cg,dR,I.only,ah.only,bG]
  all_goals rfl
 ·have hlc:=fm hlt;have hge:i=l.length:=by omega
  subst hge;rw[List.take_length];have R:=y6 @hlc (y6 @kg aD)
  repeat' ((first |refine U.aG (by decide +kernel) rfl fun K hK =>?_|(refine .aE [0,2,3,5,6,7,8,9] hK ?_;clear hK K)|(with_reducible refine .done (hK _ ?_);clear hK K)|refine U.of rfl ?_|(with_reducible refine aw.aF (fun h =>?_) (fun h =>?_) <;>try simp only[h])) <;>try simp only[aH,R,simprocAttr])
  all_goals clear R
  all_goals rfl
theorem D5(l:List ai)(hl:l.length≤1000000000)(h:pj l):aQ Tryz.prog 102 [enc l] (enc (di l)):=by
 refine aQ.bM Tryz.func102 F4 Hk Iz (t8 rfl) (fun hwf W0 bF E1 =>?_);simp only[xr,BB,bB];clear hwf;have R:=y6 @y9 aD
 repeat' ((first |refine U.aG (by decide +kernel) rfl fun K hK =>?_|(refine .aE [0,2,3,4,8] hK ?_;clear hK K)|(with_reducible refine .done (hK _ ?_);clear hK K)|refine U.of rfl ?_|(with_reducible refine aw.aF (fun h =>?_) (fun h =>?_) <;>try simp only[h])) <;>try simp only[aH,R,simprocAttr])
 all_goals clear R
 refine U.loop (fun i:Nat=>ay [(0,enc l),(2,.ptr 2 []),(3,.ptr 3 []),(4,.int .i64 i)] [(2,.box (enc (di []))),(3,.box (enc (di (l.take i))))]) (fun i=>i≤l.length) (fun i=>l.length-i) 0 (Nat.zero_le _) ?_ ?_
 ·refine bw.cK ?_ ?_ ?_ ?_ <;>simp[cj,cn,cm,bQ,aB,cg,dR,I.only,ah.only,bG]
  all_goals rfl
 intro i hi;by_cases hlt:i<l.length
 ·have hlc:=eO hlt;have he:=fun A=>fR (A:=A) 8 hlt rfl;have hw:=eE (i:=i) (by omega);have hsn:=jk hlt;have hin:=h l[i] (List.getElem_mem hlt);have hle:=yN (l.take i);have hli:(l.take i).length=i:=by rw[Z9];omega
  generalize l[i]=r at *;obtain ⟨k,hk⟩:=Y1 hin.1;have hk6:k<6:=by omega
  have hib:=fun {y:Option I} =>nJ 1 (di (l.take i)) (y:=y) (show (0:Int)≤(k:Int)∧(k:Int)<(6:Nat) by omega) rfl;have hat:=fun p=>fJ (p:=p) (di (l.take i)) hk6;have hst:=Dw (l.take i) r hk6 hk;have hw1:IntKind.i64.wrap ((di (l.take i)).g k+1)=(di (l.take i)).g k+1:=by
   have:=hle k;rw[qP _ hk6];exact dB _ (by omega) (by omega)
  rw[←hsn] at hst;have R:=y6 @hlc (y6 @he (y6 @hw (y6 @hk (y6 @hib (y6 @hat (y6 @hst (y6 @hw1 (y6 @Int.toNat_natCast aD))))))))
  repeat' ((first |refine U.aG (by decide +kernel) rfl fun K hK =>?_|(refine .aE [0,2,3,4,8] hK ?_;clear hK K)|(with_reducible refine .done (hK _ ?_);clear hK K)|refine U.of rfl ?_|(with_reducible refine aw.aF (fun h =>?_) (fun h =>?_) <;>try simp only[h])) <;>try simp only[aH,R,simprocAttr])
  all_goals clear R
  refine ⟨i+1,by omega,by omega,?_⟩;clear hsn;refine bw.cK ?_ ?_ ?_ ?_ <;>simp[cj,cn,cm,bQ,aB,cg,dR,I.only,ah.only,bG]
  all_goals rfl
 ·have hlc:=fm hlt;have hge:i=l.length:=by omega
  subst hge;rw[List.take_length];have R:=y6 @hlc (y6 @kg aD)
  repeat' ((first |refine U.aG (by decide +kernel) rfl fun K hK =>?_|(refine .aE [0,2,3,4,8] hK ?_;clear hK K)|(with_reducible refine .done (hK _ ?_);clear hK K)|refine U.of rfl ?_|(with_reducible refine aw.aF (fun h =>?_) (fun h =>?_) <;>try simp only[h])) <;>try simp only[aH,R,simprocAttr])
  all_goals clear R
  all_goals rfl
theorem uT(l:List ai){m:Int}(h:0≤m∧m≤5):mg 6 1 none m (some ((di l).l.map enc))=some (.int .i64 (fb l m)):=by
 obtain ⟨k,rfl⟩:=Y1 h.1;have hk:k<6:=by omega
 rw[TL (x:=di l) 1 (k:=(k:Int)) ⟨h.1,by simpa using hk⟩ rfl];have e:enc ((di l).l[((k:Int)).toNat]'((di l).lt (by simpa using hk)))=I.int .i64 (fb l k):=by
  have:=qP l hk;rw[←dS.uH _ hk] at this;rw[←this];rfl
 rw[e];rfl
theorem wQ(l:List ai)(r:ai)(hl:l.length≤1000000000)(h:pj l)(hr:0≤r.bd∧r.bd≤5):aQ Tryz.prog 71 [enc l,enc r] (enc (dc l r)):=by
 refine aQ.bM Tryz.func71 GP HX Jf (t8 rfl) (fun hwf W0 bF E1 =>?_);simp only[ya,Cf,bB,Z8];clear hwf;have hF:=wE l hl h;have hix:=uT l hr;rw[show dc l r=(decide ((l.length:Int)<60)&&((fb l r.bd:Int)==r.no)) by
  simp only[dc];congr 1;rw[decide_eq_decide];omega]
 cases q1:decide ((l.length:Int)<60)
 ·have R:=y6 @q1 (y6 @hix (y6 @kg aD))
  repeat' ((first |(with_reducible refine .guard (fun hb =>?_) (fun hb =>?_) <;>try simp only[hb])|refine U.aG (by decide +kernel) rfl fun K hK =>?_|refine .lead _ (hF) ?_|(refine .aE [0,1,3,4] hK ?_;clear hK K)|(with_reducible refine .done (hK _ ?_);clear hK K)|refine U.of rfl ?_|(with_reducible refine aw.aF (fun h =>?_) (fun h =>?_) <;>try simp only[h])) <;>try simp only[aH,R,simprocAttr])
  all_goals clear R
  all_goals rfl
 ·have R:=y6 @q1 (y6 @hix (y6 @kg aD))
  repeat' ((first |(with_reducible refine .guard (fun hb =>?_) (fun hb =>?_) <;>try simp only[hb])|refine U.aG (by decide +kernel) rfl fun K hK =>?_|refine .lead _ (hF) ?_|(refine .aE [0,1,3,4] hK ?_;clear hK K)|(with_reducible refine .done (hK _ ?_);clear hK K)|refine U.of rfl ?_|(with_reducible refine aw.aF (fun h =>?_) (fun h =>?_) <;>try simp only[h])) <;>try simp only[aH,R,simprocAttr])
  all_goals clear R
  all_goals rfl
theorem ED(l:List ai)(r:ai)(hl:l.length≤1000000000)(h:pj l)(hr:bf r=true→0≤r.bd∧r.bd≤5):aQ Tryz.prog 72 [enc l,enc r] (enc (bf r&&dc l r)):=by
 refine aQ.bM Tryz.func72 GQ HY Jg (t8 rfl) (fun hwf W0 bF E1 =>?_);simp only[yb,Cg,bB,Z8];clear hwf;have hF:=D5 l hl h;have f34:=wO r;cases ho:bf r
 ·rw[show iC r=80 by simp[iC,ho]] at f34;have R:=y6 @kg aD
  repeat' ((first |(with_reducible refine .guard (fun hb =>?_) (fun hb =>?_) <;>try simp only[hb])|refine U.aG (by decide +kernel) rfl fun K hK =>?_|refine .flat _ (f34) rfl ?_|refine .lead _ (hF) ?_|(refine .aE [0,1,3,4] hK ?_;clear hK K)|(with_reducible refine .done (hK _ ?_);clear hK K)|refine U.of rfl ?_|(with_reducible refine aw.aF (fun h =>?_) (fun h =>?_) <;>try simp only[h])) <;>try simp only[aH,R,simprocAttr])
  all_goals clear R
  all_goals rfl
 rw[show iC r=0 by simp[iC,ho]] at f34;have hix:=uT l (hr ho);rw[show dc l r=(decide ((l.length:Int)<60)&&(r.no==(fb l r.bd:Int))) by
  simp only[dc];rw[Bool.eq_iff_iff];simp;omega]
 cases q1:decide ((l.length:Int)<60)
 ·have R:=y6 @q1 (y6 @hix (y6 @kg aD))
  repeat' ((first |(with_reducible refine .guard (fun hb =>?_) (fun hb =>?_) <;>try simp only[hb])|refine U.aG (by decide +kernel) rfl fun K hK =>?_|refine .flat _ (f34) rfl ?_|refine .lead _ (hF) ?_|(refine .aE [0,1,3,4] hK ?_;clear hK K)|(with_reducible refine .done (hK _ ?_);clear hK K)|refine U.of rfl ?_|(with_reducible refine aw.aF (fun h =>?_) (fun h =>?_) <;>try simp only[h])) <;>try simp only[aH,R,simprocAttr])
  all_goals clear R
  all_goals rfl
 ·have R:=y6 @q1 (y6 @hix (y6 @kg aD))
  repeat' ((first |(with_reducible refine .guard (fun hb =>?_) (fun hb =>?_) <;>try simp only[hb])|refine U.aG (by decide +kernel) rfl fun K hK =>?_|refine .flat _ (f34) rfl ?_|refine .lead _ (hF) ?_|(refine .aE [0,1,3,4] hK ?_;clear hK K)|(with_reducible refine .done (hK _ ?_);clear hK K)|refine U.of rfl ?_|(with_reducible refine aw.aF (fun h =>?_) (fun h =>?_) <;>try simp only[h])) <;>try simp only[aH,R,simprocAttr])
  all_goals clear R
  all_goals rfl
def gL:List ai→List ai→Bool
 |_,[]=>true
 |out,r::l=>bf r&&dc out r&&gL (out++[r]) l
theorem wC:∀ (l out:List ai),gL out l=true↔iN bf dc out l
 | [],_=>by simp[gL,iN]
 |r::l,out=>by simp only[gL,iN,Z0,wC l,and_assoc]
theorem Xm{l:List ai}{i:Nat}(h:i<l.length):gL (l.take i) (l.drop i)=(bf l[i]&&dc (l.take i) l[i]&&gL (l.take (i+1)) (l.drop (i+1))):=by
 rw[List.drop_eq_getElem_cons h,gL,←jk h]
theorem lH{r:ai}(h:bf r=true):0≤r.bd∧r.bd≤5:=(pK (pL h)).1
theorem A9{l:List ai}{i:Nat}(hi:i<l.length)(h:∀ r∈l.take i,bf r=true)(h2:bf l[i]=true):∀ r∈l.take (i+1),bf r=true:=fun r hr=>by
 rw[jk hi] at hr;rcases zz2.1 hr with h1 | h1
 ·exact h r h1
 ·rw[List.mem_singleton.1 h1];exact h2
theorem EM(l:List ai)(hl:l.length≤1000000000):aQ Tryz.prog 98 [enc l] (enc (gL [] l)):=by
 refine aQ.bM Tryz.func98 G9 Ii Jy (t8 rfl) (fun hwf W0 bF E1 =>?_);simp only[yu,Cy,bB];clear hwf;have R:=aD
 repeat' ((first |(with_reducible refine .guard (fun hb =>?_) (fun hb =>?_) <;>try simp only[hb])|refine U.aG (by decide +kernel) rfl fun K hK =>?_|(refine .aE [0,2,3,4,5,6,7,8,22] hK ?_;clear hK K)|(with_reducible refine .done (hK _ ?_);clear hK K)|refine U.of rfl ?_|(with_reducible refine aw.aF (fun h =>?_) (fun h =>?_) <;>try simp only[h])) <;>try simp only[aH,R,simprocAttr])
 all_goals clear R
 refine U.loop (fun i:Nat=>ay [(0,enc l),(5,enc l),(6,.int .i64 l.length),(7,.int .i64 i)] []) (fun i=>i≤l.length∧(∀ r∈l.take i,bf r=true)∧gL [] l=gL (l.take i) (l.drop i)) (fun i=>l.length-i) 0 ⟨Nat.zero_le _,by simp,by simp⟩ ?_ ?_
 ·refine bw.cK ?_ ?_ ?_ ?_ <;>simp[cj,cn,cm,bQ,cg,I.only,bG]
  all_goals rfl
 rintro i ⟨hi,hk,heq⟩;by_cases hlt:i<l.length
 ·have hlc:=eO hlt;have he:=fun A=>fR (A:=A) 8 hlt rfl;have hw:=eE (i:=i) (by omega);have hnx:=A9 hlt hk;rw[Xm hlt] at heq;rw[heq];have hsl:=fun A=>Dl (l:=l) (k:=i) A (esz:=8) rfl (by omega);have hli:(l.take i).length=i:=by rw[Z9];omega
  generalize l[i]=r at *;have f80:=oC r;cases q1:bf r
  ·rw[q1] at f80;have R:=y6 @hlc (y6 @he (y6 @hw (y6 @ec (y6 @dI aD))))
   repeat' ((first |(with_reducible refine .guard (fun hb =>?_) (fun hb =>?_) <;>try simp only[hb])|refine U.aG (by decide +kernel) rfl fun K hK =>?_|refine .flat _ (f80) rfl ?_|(refine .aE [0,2,3,4,5,6,7,8,22] hK ?_;clear hK K)|(with_reducible refine .done (hK _ ?_);clear hK K)|refine U.of rfl ?_|(with_reducible refine aw.aF (fun h =>?_) (fun h =>?_) <;>try simp only[h])) <;>try simp only[aH,R,simprocAttr])
   all_goals clear R
   all_goals rfl
  rw[q1] at f80;have f71:=wQ (l.take i) r (by omega) (fun q hq=>lH (hk q hq)) (lH q1);cases q2:dc (l.take i) r
  ·rw[q2] at f71;have R:=y6 @hlc (y6 @he (y6 @hw (y6 @hsl (y6 @ec (y6 @dI aD)))))
   repeat' ((first |(with_reducible refine .guard (fun hb =>?_) (fun hb =>?_) <;>try simp only[hb])|refine U.aG (by decide +kernel) rfl fun K hK =>?_|refine .flat _ (f80) rfl ?_|refine .flat _ (f71) rfl ?_|(refine .aE [0,2,3,4,5,6,7,8,22] hK ?_;clear hK K)|(with_reducible refine .done (hK _ ?_);clear hK K)|refine U.of rfl ?_|(with_reducible refine aw.aF (fun h =>?_) (fun h =>?_) <;>try simp only[h])) <;>try simp only[aH,R,X7,simprocAttr])
   all_goals clear R
   all_goals rfl
  rw[q2] at f71;have R:=y6 @hlc (y6 @he (y6 @hw (y6 @hsl (y6 @ec (y6 @dI aD)))))
  repeat' ((first |(with_reducible refine .guard (fun hb =>?_) (fun hb =>?_) <;>try simp only[hb])|refine U.aG (by decide +kernel) rfl fun K hK =>?_|refine .flat _ (f80) rfl ?_|refine .flat _ (f71) rfl ?_|(refine .aE [0,2,3,4,5,6,7,8,22] hK ?_;clear hK K)|(with_reducible refine .done (hK _ ?_);clear hK K)|refine U.of rfl ?_|(with_reducible refine aw.aF (fun h =>?_) (fun h =>?_) <;>try simp only[h])) <;>try simp only[aH,R,X7,simprocAttr])
  all_goals clear R
  refine ⟨i+1,⟨by omega,hnx q1,?_⟩,by omega,?_⟩
  ·rfl
  refine bw.cK ?_ ?_ ?_ ?_ <;>simp[cj,cn,cm,bQ,cg,I.only,bG]
  all_goals rfl
 ·have hlc:=fm hlt;rw[heq,List.drop_eq_nil_of_le (by omega),gL];have R:=y6 @hlc aD
  repeat' ((first |(with_reducible refine .guard (fun hb =>?_) (fun hb =>?_) <;>try simp only[hb])|refine U.aG (by decide +kernel) rfl fun K hK =>?_|(refine .aE [0,2,3,4,5,6,7,8,22] hK ?_;clear hK K)|(with_reducible refine .done (hK _ ?_);clear hK K)|refine U.of rfl ?_|(with_reducible refine aw.aF (fun h =>?_) (fun h =>?_) <;>try simp only[h])) <;>try simp only[aH,R,simprocAttr])
  all_goals clear R
  all_goals rfl
end Go.Proofs.YtoffnnjbplgnaaaGreatDoor
namespace Go.Proofs.YtoffnnjbplgnaaaGreatDoor
open Go Go.Abs Go.Shelf Go.RowKit
open Go.Abs.Enc (enc)
def lv(r:ai):List Value:=[.int .i64 r.bd,.int .i64 r.no,.int .i64 r.kind,.int .i64 r.dZ,.int .i64 r.known,.int .i64 r.eU,.int .i64 r.fh,.string ⟨r.text.toArray⟩]
theorem V3{w:World}{D:aI}{E:aN}{r:ai}{cs:List Value}(h:af w D E (enc r) cs):cs=lv r:=by
 obtain ⟨h1,_⟩:=CF (fg (v:=.agg cs.toArray) (by simp[aW,show (enc r:I).isAgg=true from rfl]) h);simp only[Value.agg.injEq] at h1;have:=congrArg Array.toList h1;simpa[lv] using this
theorem Ak{n:Int}(h:0≤n∧n<100000000):IntKind.i64.min≤n∧n≤IntKind.i64.max:=by
 have a:IntKind.i64.min=-9223372036854775808:=rfl;have b:IntKind.i64.max=9223372036854775807:=rfl;omega
theorem Wc{w:World}{D:aI}{E:aN}{r:ai}(h:bf r=true):af w D E (enc r) (lv r):=by
 have hn:=pM h;have ht:=sd h
 show af w D E (.agg [.agg [.int .i64 r.bd,.int .i64 r.no],.int .i64 r.kind,.int .i64 r.dZ,.int .i64 r.known,.agg [.int .i64 r.eU,.int .i64 r.fh],.ak ⟨r.text.toArray⟩]) _
 have g:∀ n∈dz r,af w D E (.int .i64 n) [.int .i64 n]:=fun n hn'=>⟨rfl,Ak (hn n hn')⟩
 simp only[af,aC];refine ⟨[.int .i64 r.bd,.int .i64 r.no],_,rfl,⟨[.int .i64 r.bd],_,rfl,by simpa only[af] using g r.bd (by simp[dz]),[.int .i64 r.no],[],rfl,by simpa only[af] using g r.no (by simp[dz]),rfl⟩,
  [.int .i64 r.kind],_,rfl,by simpa only[af] using g r.kind (by simp[dz]),[.int .i64 r.dZ],_,rfl,by simpa only[af] using g r.dZ (by simp[dz]),[.int .i64 r.known],_,rfl,by simpa only[af] using g r.known (by simp[dz]),
  [.int .i64 r.eU,.int .i64 r.fh],_,rfl,⟨[.int .i64 r.eU],_,rfl,by simpa only[af] using g r.eU (by simp[dz]),[.int .i64 r.fh],[],rfl,by simpa only[af] using g r.fh (by simp[dz]),rfl⟩,
  [.string ⟨r.text.toArray⟩],[],rfl,⟨rfl,?_⟩,rfl⟩
 show r.text.toArray.size≤maxLen
 simp only[List.size_toArray,maxLen];omega
theorem He{z:Int}(hz:0≤z∧z<1000003){r:ai}(h:bf r=true)(W:World)(hl:ew Tryz.prog W (fun _=>False)):Calls Tryz.prog 81 #[.int .i64 z,.agg (lv r).toArray] W fun e w'=>e=.returned (.tuple #[.string ⟨(cR z r).toArray⟩,.int .i64 (cL z (cz r))])∧Below W.heap.size W w':=by
 have hc:=oD z hz r h;refine (hc.2 W (fun _ _=>False) [.int .i64 z,.agg (lv r).toArray] hl (fun _ _ h=>h.elim) ?_).mono ?_
 ·simp only[al];refine ⟨_,_,[.int .i64 z],rfl,rfl,?_,_,_,lv r,rfl,by simp[aW,show (enc r:I).isAgg=true from rfl],Wc h,rfl⟩
  show af _ _ _ (.int .i64 z) _
  simp only[af];exact ⟨trivial,Ak (by omega)⟩
 ·rintro e w' ⟨v,D',rfl,hv,hb,_⟩;refine ⟨?_,hb⟩;have hv':∃ vs:List Value,v=.tuple vs.toArray∧al w' D' cG [enc (aj.of (cR z r)),enc (cL z (cz r))] vs:=hv;obtain ⟨vs,rfl,h2⟩:=hv';simp only[al] at h2;obtain ⟨v1,_,c1,rfl,p1,r1,v2,_,c2,rfl,p2,im,rfl⟩:=h2;have r1':af w' D' cG (.ak ⟨(cR z r).toArray⟩) c1:=r1;have r2':af w' D' cG (.int .i64 (cL z (cz r))) c2:=im;simp only[af] at r1' r2';obtain ⟨rfl,_⟩:=r1';obtain ⟨rfl,_⟩:=r2';simp[aW,show (enc (aj.of (cR z r)):I).isAgg=false from rfl,show (enc (cL z (cz r)):I).isAgg=false from rfl] at p1 p2;subst p1 p2;rfl
def oF(w:World)(a:Option Addr)(l:List ai):Prop:=∀ (j:Nat) (h:j<l.length),∃ b off,a=some ⟨b,off,none⟩∧w.rangeAt b (off+j*8) (lv l[j])∧b<w.heap.size
theorem oF.later{w w':World}{a:Option Addr}{l:List ai}(h:oF w a l)(hb:Below w.heap.size w w'):oF w' a l:=by
 intro j hj;obtain ⟨b,off,h1,h2,h3⟩:=h j hj;refine ⟨b,off,h1,fun k v hk =>?_,Nat.lt_of_lt_of_le h3 hb.size⟩;have:=h2 k v hk;simp only[World.cell?] at this ⊢;rw[hb.block b h3];exact this
theorem WC{w:World}{D:aI}(hD:∀ b o,D b o→b<w.heap.size){l:List ai}{v:Value}(h:aO w D cG (enc l) v):∃ a cap,v=.slice a l.length cap∧oF w a l:=by
 have h':aO w D cG (.slice 8 (l.map enc)) v:=h;obtain ⟨a,cap,h1,h2,h3,h4,h5⟩:=kb h';refine ⟨a,cap,by rw[h1,Z2],fun j hj =>?_⟩;rcases h4 with h4 | ⟨b,off,cs,rfl,h6,h7⟩
 ·rw[List.map_eq_nil_iff] at h4;rw[h4] at hj;exact absurd hj (by simp)
 ·obtain ⟨c2,k1,k2⟩:=ua (k:=j) (x:=enc l[j]) h6 h7 h5 (by simp[hj]);have e:=V3 k2;subst e;refine ⟨b,off,rfl,fun k v hk=>(k1 k v hk).1,hD b (off+j*8+0) (k1 0 _ rfl).2⟩
theorem Xb(l:List ai)(hl:l.length≤1000000)(h:∀ r∈l,bf r=true)(a:Option Addr)(cap:Nat)(w:World)(hL:ew Tryz.prog w (fun _=>False))(hR:oF w a l) :
  Calls Tryz.prog 135 #[.slice a l.length cap] w fun e w'=>e=.returned (.string ⟨(eQ 1 l).toArray⟩)∧Below w.heap.size w w':=by
 go_enter Tryz.func135,Tryz.ntmps135
 go_wp2
 go_loopw [4,10] (fun s i wr=>∃ j:Nat,j≤l.length∧i=.int .i64 j∧s=.int .i64 (ev 1 (l.take j))∧kp w.heap.size w.heap.size (eQ 1 (l.take j)) wr∧Below w.heap.size w wr) (fun _ i _=>l.length-(RowKit.intOf i).toNat)
 case atStart =>
  refine ⟨0,by omega,rfl,rfl,.inl ⟨by omega,.slice none 0 0,heap_alloc_new w _,⟨rfl,.inl ⟨rfl,rfl⟩⟩,by simp[Value.ownBlock]⟩,iQ w _⟩
 case round =>
  obtain ⟨j,hj,rfl,rfl,hI,hbw⟩:=hrel;have hB1:w.heap.size≤wr.heap.size:=hbw.size;by_cases hlt:j<l.length
  ·obtain ⟨b,off,ha,hr,hb⟩:=hR.later hbw j hlt;subst ha;have hok:=h l[j] (List.getElem_mem hlt);have hst:=sQ (l.take j);have hsn:=wq (l.take j) l[j] 1;rw[←jk hlt] at hsn;generalize l[j]=r at *;have hcall:=He hst hok;have k0:wr.cell? ⟨b,off+j*8,none⟩=some (.int .i64 r.bd):=hr 0 _ rfl;have k1:wr.cell? ⟨b,off+j*8+1,none⟩=some (.int .i64 r.no):=hr 1 _ rfl;have k2:wr.cell? ⟨b,off+j*8+2,none⟩=some (.int .i64 r.kind):=hr 2 _ rfl;have k3:wr.cell? ⟨b,off+j*8+3,none⟩=some (.int .i64 r.dZ):=hr 3 _ rfl;have k4:wr.cell? ⟨b,off+j*8+4,none⟩=some (.int .i64 r.known):=hr 4 _ rfl;have k5:wr.cell? ⟨b,off+j*8+5,none⟩=some (.int .i64 r.eU):=hr 5 _ rfl;have k6:wr.cell? ⟨b,off+j*8+6,none⟩=some (.int .i64 r.fh):=hr 6 _ rfl;have k7:wr.cell? ⟨b,off+j*8+7,none⟩=some (.string ⟨r.text.toArray⟩):=hr 7 _ rfl;simp only[lv] at hcall;have hw:=eE (i:=j) (by omega);have hlt':decide ((j:Int)<(l.length:Int))=true:=eO hlt;have hll:=rM hst hok;have htl:=sR (l.take j) (s:=1) (by omega) fun q hq=>h q (List.mem_of_mem_take hq);have hli:(l.take j).length=j:=by rw[Z9];omega
   have hsz:(⟨(cR (ev 1 (l.take j)) r).toArray⟩:ByteArray).size=(cR (ev 1 (l.take j)) r).length:=by show (cR _ r).toArray.size=_;simp
   go_wp2_with (first | (go_at_call 81;refine (hcall _ (Ar hL (hbw.trans ((iQ wr _).mono hB1)))).mono ?_;rintro e W1 ⟨rfl,hb1⟩) | (go_at_call 156;refine (DP w.heap.size w.heap.size _ _ _ (rE (rE hI (iQ wr _)) hb1) (by rw[hsz];omega) (by have:=hb1.size;simp at this;omega)).mono ?_;rintro e W2 ⟨rfl,hI2,hb2,hk2⟩))
   refine ⟨⟨j+1,by omega,rfl,?_,?_,?_⟩,by simp only[RowKit.intOf];omega⟩
   ·rw[hsn.2]
   ·rw[hsn.1];exact hI2
   ·exact ((hbw.trans ((iQ wr _).mono hB1)).trans (hb1.mono (by simp;omega))).trans hb2
  ·have hge:j=l.length:=by omega
   subst hge;have hlt':decide ((l.length:Int)<(l.length:Int))=false:=by simp
   rw[List.take_length] at hI
   go_wp2_with (go_at_call 157;refine (xj w.heap.size w.heap.size _ _ hI hB1).mono ?_;rintro e W2 ⟨rfl,hI2,hb2,hk2⟩)
   go_ret
   exact ⟨rfl,hbw.trans hb2⟩
theorem wJ(l:List ai)(hl:l.length≤1000000)(h:∀ r∈l,bf r=true):aQ Tryz.prog 135 [enc l] (enc (aj.of (eQ 1 l))):=by
 refine ⟨Gh,fun w D vs hL hD hv =>?_⟩;simp only[al] at hv;obtain ⟨v,rest,cs,rfl,h1,h2,rfl⟩:=hv;obtain ⟨a,cap,rfl,hR⟩:=WC hD (fg h1 h2);refine (Xb l hl h a cap w hL hR).mono ?_;rintro e w' ⟨rfl,hbl⟩;have hlen:=sR l (s:=1) (by omega) h;exact ⟨_,D,rfl,CX (l:=eQ 1 l) (by unfold maxLen;omega),hbl,fun b o hd=>Nat.lt_of_lt_of_le (hD b o hd) hbl.size,fun _ _ h _=>h⟩
end Go.Proofs.YtoffnnjbplgnaaaGreatDoor
namespace Go.Proofs.YtoffnnjbplgnaaaGreatDoor
open Go Go.Abs
open Go.Abs.Enc (enc)
theorem tP{c:UInt8} : ∀ {l:List UInt8},cE c l=none→∀ b∈l,b≠c
 | [],_=>by simp
 |b::l,h=>by
  rw[cE] at h;by_cases e:b=c
  ·rw[if_pos e] at h;cases h
  ·rw[if_neg e] at h;cases h2:cE c l with
   |some p=>rw[h2] at h;cases h
   |none =>
    intro x hx;rcases zz3.1 hx with rfl | hx
    ·exact e
    ·exact tP h2 x hx
theorem nv{c:UInt8} : ∀ {l w v:List UInt8},cE c l=some (w,v)→l=w++c::v∧∀ b∈w,b≠c
 | [],_,_,h=>by simp[cE] at h
 |b::l,w,v,h=>by
  rw[cE] at h;by_cases e:b=c
  ·rw[if_pos e] at h;cases h;exact ⟨by rw[e];rfl,by simp⟩
  ·rw[if_neg e] at h;cases h2:cE c l with
   |none=>rw[h2] at h;cases h
   |some p =>
    obtain ⟨w2,v2⟩:=p;rw[h2,Z7] at h;cases h;obtain ⟨h3,h4⟩:=nv h2;refine ⟨by rw[h3];rfl,fun x hx =>?_⟩;rcases zz3.1 hx with rfl | hx
    ·exact e
    ·exact h4 x hx
theorem rN{u:List UInt8}(h:cE 10 u=none):dj u=[]:=uY (tP h)
theorem pA{u w v:List UInt8}(h:cE 10 u=some (w,v)):dj u=(w++[10])::dj v:=by
 obtain ⟨rfl,h2⟩:=nv h;exact Ug v h2
def ed:Nat→List UInt8→List UInt8
 |0,t=>t
 |k+1,t=>match cE 10 t with
  |none=>t
  |some p=>ed k p.2
theorem vF:∀ {k:Nat} {t w v:List UInt8},cE 10 (ed k t)=some (w,v)→ed (k+1) t=v
 |0,t,w,v,h=>by rw[ed] at h;rw[ed,h];rfl
 |k+1,t,w,v,h=>by
  rw[ed] at h ⊢;cases h2:cE 10 t with
  |none=>rw[h2] at h;simp only at h;rw[h2] at h;cases h
  |some p=>rw[h2] at h;exact vF h
theorem oa:∀ {k:Nat} {t:List UInt8},k≤(dj t).length→dj (ed k t)=(dj t).drop k
 |0,t,_=>rfl
 |k+1,t,h=>by
  rw[ed];cases h2:cE 10 t with
  |none=>rw[rN h2] at h;simp at h
  |some p =>
   obtain ⟨w,v⟩:=p;rw[pA h2] at h ⊢;simp only[Y4] at h;exact oa (k:=k) (t:=v) (by omega)
theorem CN:∀ (k:Nat) (t:List UInt8),(ed k t).length≤t.length
 |0,_=>Z3 _
 |k+1,t=>by
  rw[ed];cases h2:cE 10 t with
  |none=>exact Z3 _
  |some p =>
   have:=qS h2;have:=CN k p.2;simp only;omega
def dw(u:List UInt8)(out:List ai)(s:Int)(z:Nat):List (Nat×ah):=[(1000001,.box (enc (aj.of u))),(1000004,.box (.own 1000080 out.length)),(1000080,.bC 50 8 (out.map enc)),(1000005,.box (.int .i64 s)),(1000006,.box (.int .i64 (z:Int)))]
theorem mS(u:List UInt8)(out:List ai)(s:Int)(z:Nat)(u':List UInt8)(out':List ai)(s':Int)(z':Nat):eY (dw u out s z) (dw u' out' s' z'):=by
 refine ⟨fun n=>by simp only[dw,aB,aJ];(repeat' split) <;>rfl,fun n x h =>?_,fun n h =>?_⟩
 ·simp only[dw,aJ] at h
  repeat' split at h
  all_goals first | (cases h;done) | (simp only[v6] at h;subst h;exact ⟨by simp[dw,aB,aJ,ah.only,bG,I.only,mw],rfl⟩)
 ·simp only[dw,aB,aJ] at h
  repeat' split at h
  all_goals first | omega | (simp at h;done)
section
variable (t:List UInt8) (P:Nat→List ai→Int→Nat→Prop) (bl:List ai→Nat→Prop)
def rC(k:Nat)(os:List (Nat×ah)):Prop:=∃ out s z,os=dw (ed k t) out s z∧P k out s z
def rD(k:Nat)(os:List (Nat×ah)):Prop:=∃ out s z,os=dw (ed k t) out s z∧P (k+1) out s z
def pn(e:Option Nat)(os:List (Nat×ah)):Prop:=e=some 0∧∃ u out s z,os=dw u out s z∧bl out z
def nL(k:Nat):List I:=[enc (aj.of ((dj t).getD k []))]
end
def C4(o:Obj)(v:Value)(t:List UInt8)(x:Nat×List ai×Int×Nat):ab:=ay [(0,.raw v),(1,.ptr 1000001 [])] (bL o (dw (ed x.1 t) x.2.1 x.2.2.1 x.2.2.2))
theorem Ac{o:Obj}{u:List UInt8}{out:List ai}{s:Int}{z:Nat}{ts:List (Nat×I)} : ∀ n x,aJ (bL o (dw u out s z)) n=some x→(ay ts (bL o (dw u out s z))).o n=some x∧x.only (aB (bL o (dw u out s z)))=true∧x.ef=true:=fun n x h =>
 ⟨h,(((mS u out s z u out s z).bL o o).ok n x h)⟩
theorem WZ:∀ A n b rest (x y:List UInt8),er A none n [] b (enc (aj.of x)) rest (some (enc (aj.of y)))=ao rest (A.aP n (.box (enc (aj.of x)))) :=
 fun A n b rest x y=>by rw[fj (s:=none) (v:=enc (aj.of x)) (old:=enc (aj.of y)) (fe _) rfl rfl,fi]
theorem Uh{t:List UInt8}(ht:t.length≤281474976710656){P:Nat→List ai→Int→Nat→Prop}{bl:List ai→Nat→Prop}{out0:List ai}{s0:Int}{z0:Nat}(h0:P 0 out0 s0 z0)
  (Y:Value→List I→List (Nat×ah)→bY→Prop) (v:Value) (o:Obj) (oX:Option Nat→Obj) (hv:v.oneCell'=true)
  (hY:∀ k osb post,k<(dj t).length→rC t P k osb→(∀ r os2,(r=.bool true∧∃ osb2,os2=bL o osb2∧rD t P k osb2)∨(r=.bool false∧∃ e osb2,os2=bL (oX e) osb2∧pn bl e osb2)→post r os2)→Y v (nL t k) (bL o osb) post) :
  iL Tryz.prog 122 Y [.raw v,.ptr 1000001 []] (bL o (dw t out0 s0 z0)) (fun r os'=>r=.tuple []∧((∃ osb,os'=bL o osb∧rC t P (dj t).length osb)∨∃ e osb,os'=bL (oX e) osb∧pn bl e osb)):=by
 refine iL.bM Tryz.func122 yz Hn IC (t8 rfl) (t8 rfl) (((mS t out0 s0 z0 t out0 s0 z0).bL o o).lB) (fun hwf W0 bF E1 =>?_);simp only[xv,BE,bB,Z8];clear hwf;refine U.block (U.loop (C4 o v t) (fun x=>x.1≤(dj t).length∧P x.1 x.2.1 x.2.2.1 x.2.2.2) (fun x=>(dj t).length-x.1) (0,out0,s0,z0) ⟨by simp,h0⟩ ?_ ?_)
 ·exact bw.refl _
 rintro ⟨k,out,s,z⟩ ⟨hk,hP⟩;simp only at hk hP;have hrl:=CN k t;have hrd:=oa hk;have hrn:=fun w v=>vF (k:=k) (t:=t) (w:=w) (v:=v);obtain ⟨u,hu⟩:∃ u,u=ed k t:=⟨_,rfl⟩
 have hfin:dj u=[]→∃ osb,bL o (dw u out s z)=bL o osb∧rC t P (dj t).length osb:=fun e=>by
  rw[hu,hrd,List.drop_eq_nil_iff] at e;have:k=(dj t).length:=by omega
  exact ⟨_,rfl,out,s,z,by rw[←this,←hu],by rw[←this];exact hP⟩
 simp only[C4,←hu];rw[←hu] at hrl hrd hrn;have heldF:=fun ts=>Ac (o:=o) (u:=u) (out:=out) (s:=s) (z:=z) (ts:=ts);rcases hq:decide (u=[])
 rotate_left
 ·have hu0:u=[]:=of_decide_eq_true hq;have hf:=hfin (by rw[hu0];exact uY (by simp));simp only[bL,dw] at hf heldF ⊢;have R:=y6 @hZ (y6 @gI (y6 @hq (y6 @bg aD)))
  repeat' ((first |(with_reducible refine .guard (fun hb =>?_) (fun hb =>?_) <;>try simp only[hb])|refine U.aG (by decide +kernel) rfl fun K hK =>?_|(refine .aE [0,1,3,5,18] hK ?_;clear hK K)|(with_reducible refine .done (hK _ ?_);clear hK K)|refine U.of rfl ?_|(with_reducible refine aw.aF (fun h =>?_) (fun h =>?_) <;>try simp only[h])) <;>try simp only[aH,R,simprocAttr])
  all_goals clear R
  rw[Ws];exact ⟨_,[],heldF _,trivial,rfl,.inl hf⟩
 have hF:=D6 (aj.of u) 10;rw[aj.c6] at hF;rcases nu 10 u with ⟨h1,h2⟩ | ⟨i,hi,h2,h1⟩
 ·have hf:=hfin (rN h1);obtain ⟨n,hn1⟩:∃ n:Int,n=-1:=⟨_,rfl⟩
  rw[h2,←hn1] at hF;have hneg:decide (n<0)=true:=by rw[hn1];rfl
  simp only[bL,dw] at hf heldF ⊢;have R:=y6 @hZ (y6 @gI (y6 @hq (y6 @hneg (y6 @bg aD))))
  repeat' ((first |(with_reducible refine .guard (fun hb =>?_) (fun hb =>?_) <;>try simp only[hb])|refine U.aG (by decide +kernel) rfl fun K hK =>?_|refine .flat _ (hF) rfl ?_|(refine .aE [0,1,3,5,18] hK ?_;clear hK K)|(with_reducible refine .done (hK _ ?_);clear hK K)|refine U.of rfl ?_|(with_reducible refine aw.aF (fun h =>?_) (fun h =>?_) <;>try simp only[h])) <;>try simp only[aH,R,simprocAttr])
  all_goals clear R
  rw[jG];exact ⟨_,[],heldF _,trivial,rfl,.inl hf⟩
 rw[h2] at hF;have hlt:k<(dj t).length:=by
  have:=congrArg List.length hrd;rw[pA h1,zz1] at this;simp only[Y4] at this;omega
 have jv:nL t k=[enc (aj.of (u.take (i+1)))]:=by
  have e:(dj t)[k]=u.take i++[10]:=by
   have h3:=hrd;rw[pA h1,List.drop_eq_getElem_cons hlt] at h3;exact (List.cons.inj h3).1.symm
  have h10:u[i]=10:=by
   obtain ⟨e1,_⟩:=nv h1;have:=congrArg (fun l=>l[i]?) e1;simp only[Y8 hi] at this;rw[List.getElem?_append_right (by rw[Z9];omega),Z9,show i-min i u.length=0 by omega] at this;exact Option.some.inj this
  rw[nL,Y7,Y8 hlt,Option.getD_some,e,jk hi,h10]
 have hlz:decide ((i:Int)<0)=false:=decide_eq_false (by omega);have hw:=eE (i:=i) (by omega);have hsh:=oi (aj.of u) (j:=i+1) (by rw[aj.c6];omega);have hsl:=vQ (aj.of u) (i:=i+1) (by rw[aj.c6];omega);rw[aj.c6] at hsh hsl;have hyy:=hY k (dw u out s z) _ hlt ⟨out,s,z,by rw[←hu],hP⟩ (fun r os2 h=>h);rw[jv] at hyy;simp only[bL,dw] at hyy ⊢;have R:=y6 @hZ (y6 @gI (y6 @hq (y6 @hlz (y6 @hw (y6 @hsh (y6 @Hf (y6 @bg aD)))))))
 repeat' ((first |(with_reducible refine .guard (fun hb =>?_) (fun hb =>?_) <;>try simp only[hb])|refine U.aG (by decide +kernel) rfl fun K hK =>?_|refine .flat _ (hF) rfl ?_|(refine .aE [0,1,3,5,18] hK ?_;clear hK K)|(with_reducible refine .done (hK _ ?_);clear hK K)|refine U.of rfl ?_|(with_reducible refine aw.aF (fun h =>?_) (fun h =>?_) <;>try simp only[h])) <;>try simp only[aH,R,simprocAttr])
 all_goals clear R
 refine aX.Xo (ow:=[]) (In:=fun os2=>∃ osb2,os2=bL o osb2∧rD t P k osb2) (Ix:=fun os2=>∃ e osb2,os2=bL (oX e) osb2∧pn bl e osb2) hyy ((mS t out0 s0 z0 u out s z).bL o o) (fun os' h =>?_) (fun os' h =>?_) (by simp[I.b9,jS]) (fun m h=>by simp[aB,aJ] at h) (fun os2 h =>?_) (fun os2 h =>?_)
 ·obtain ⟨_,rfl,out',s',z',rfl,_⟩:=h;exact (mS ..).bL _ _
 ·obtain ⟨e,_,rfl,_,u',out',s',z',rfl,_⟩:=h;exact (mS ..).bL _ _
 ·obtain ⟨_,rfl,out',s',z',rfl,hP'⟩:=h;rw[←hu]
  try simp only[bL,dw,X3,aZ,simprocAttr]
  refine .done (hK _ ?_);clear hK K;have hn:=hrn _ _ h1;have R:=y6 @hw (y6 @hsl (y6 @hlz (y6 @WZ (y6 @bg aD))))
  repeat' ((first |(with_reducible refine .guard (fun hb =>?_) (fun hb =>?_) <;>try simp only[hb])|refine U.aG (by decide +kernel) rfl fun K hK =>?_|(refine .aE [0,1,3,5,18] hK ?_;clear hK K)|(with_reducible refine .done (hK _ ?_);clear hK K)|refine U.of rfl ?_|(with_reducible refine aw.aF (fun h =>?_) (fun h =>?_) <;>try simp only[h])) <;>try simp only[aH,R,simprocAttr])
  all_goals clear R
  refine ⟨(k+1,out',s',z'),⟨by simp only;omega,hP'⟩,by simp only;omega,?_⟩;simp only[hn];refine bw.slots ?_ (fun n =>?_)
  ·simp[cj,cg]
  ·simp only[dR];(repeat' split) <;>simp_all
 ·obtain ⟨e,_,rfl,he,u',out',s',z',rfl,hF'⟩:=h
  try simp only[bL,dw,X3,aZ,simprocAttr]
  refine .done (hK _ ?_);clear hK K;have R:=y6 @bg aD
  repeat' ((first |(with_reducible refine .guard (fun hb =>?_) (fun hb =>?_) <;>try simp only[hb])|refine U.aG (by decide +kernel) rfl fun K hK =>?_|(refine .aE [0,1,3,5,18] hK ?_;clear hK K)|(with_reducible refine .done (hK _ ?_);clear hK K)|refine U.of rfl ?_|(with_reducible refine aw.aF (fun h =>?_) (fun h =>?_) <;>try simp only[h])) <;>try simp only[aH,R,simprocAttr])
  all_goals clear R
  rw[jG];exact ⟨_,[],Ac (o:=oX e) (u:=u') (out:=out') (s:=s') (z:=z'),trivial,rfl,.inr ⟨e,_,rfl,he,u',out',s',z',rfl,hF'⟩⟩
def VL(t:List UInt8):bY:=fun r os'=>r=.func 122 [.ptr 1 []]∧os'=[(1,.box (enc (aj.of t)))]
theorem EC(t:List UInt8):eI Tryz.prog 69 [enc (aj.of t)] [] (VL t):=by
 refine eI.bM Tryz.func69 GN HW Jd (t8 rfl) (t8 rfl) (fun m hm=>by simp[aB,aJ] at hm) (fun hwf W0 bF E1 =>?_);simp only[x9,Ce,bB];clear hwf;have hall:([I.ptr 1 []].all fun y=>y.cw)=true:=rfl;have R:=y6 @hall (y6 @bg aD)
 repeat' ((first |refine U.aG (by decide +kernel) rfl fun K hK =>?_|(refine .aE [0,1,2] hK ?_;clear hK K)|(with_reducible refine .done (hK _ ?_);clear hK K)|refine U.of rfl ?_|(with_reducible refine aw.aF (fun h =>?_) (fun h =>?_) <;>try simp only[h])) <;>try simp only[aH,R,simprocAttr])
 all_goals clear R
 exact ⟨[(1,.box (enc (aj.of t)))],[.func 122 [.ptr 1 []]],nH rfl (fun p=>bG _ _),⟨⟨_,rfl,.inl ⟨rfl,rfl,rfl⟩⟩,trivial⟩,rfl,rfl⟩
end Go.Proofs.YtoffnnjbplgnaaaGreatDoor
namespace Go.Abs
open Go Go.RowKit
open Enc (enc)
def ES(P:Program)(nn:Nat)(x y:bj)(ps:List Nat)(tsR:List (Nat×I))(N:Nat)(item:Nat→List I)(aY J:Nat→List (Nat×ah)→Prop)(Ix:Option Nat→List (Nat×ah)→Prop):Prop :=
 ∀ k osb,k<N→aY k osb→∀ (w:World) (D:aI) (E:aN) (l:Nat) (o1 o2:Obj),
  U ⟨P,w,D,nn,bO E,E,fq,some l,none⟩ x (cP (fun B=>B.o 1999999=some (.c8 o1)∧U ⟨P,w,D,nn,bO E,E,fq,some l,none⟩ y (CQ o2 (J k) Ix) (B.aP 1999999 (.c8 o2))) (fun _ _=>False)) (ay (sk ps (item k) tsR) (bL o1 osb))
theorem xd{aA:Bool}{A0:ab}{ρ:List (Nat×Nat)}{os:List (Nat×ah)} : ∀ {caps:List I},(∀ x∈caps,x.only (aB os)=true∧x.cw=true)→fI aA A0 ρ os (caps.map fun x=>x.aR (bp ρ)) caps
 | [],_=>trivial
 |x::xs,h=>⟨.inl ⟨rfl,(h x (by simp)).1,(h x (by simp)).2⟩,xd fun y hy=>h y (by simp[hy])⟩
theorem Fs{aA:Bool}{A0:ab}{ρ:List (Nat×Nat)}{os:List (Nat×ah)}{v:Value}{caps0 caps:List I}(hc:caps0=caps.map fun x=>x.aR (bp ρ))(h:∀ x∈caps,x.only (aB os)=true∧x.cw=true):fI aA A0 ρ os (.raw v::caps0) (.raw v::caps):=by
 subst hc;exact ⟨.inl ⟨by simp[I.aR],by simp[I.only],rfl⟩,xd h⟩
section
variable {c:cd} {Q:Exit→ab→Prop}
theorem U.Wx{f:av}{ps:List Nat}{x y:bj}{ts tsR:List (Nat×I)}{os0 osb0:List (Nat×ah)}{ρ:List (Nat×Nat)}{g:FuncId}{caps0 caps:List I}{N:Nat}{item:Nat→List I}
  (aY J:Nat→List (Nat×ah)→Prop) (Ix:Option Nat→List (Nat×ah)→Prop) (hr0:c.p6=none∧c.dT=none) (hn6:c.n≤1000000)
  (hf:ae (ay ts os0) f=.func g caps0) (hc0:caps0=caps.map fun x=>x.aR (bp ρ)) (hcp:∀ x∈caps,x.only (aB osb0)=true∧x.cw=true) (hcb:dM c.P g=true)
  (jv:∀ (Y:Value→List I→List (Nat×ah)→bY→Prop) (v:Value) (o:Obj) (oX:Option Nat→Obj),v.oneCell'=true →
   (∀ k osb post,k<N→aY k osb→(∀ r os2,(r=.bool true∧∃ osb2,os2=bL o osb2∧J k osb2)∨(r=.bool false∧∃ e osb2,os2=bL (oX e) osb2∧Ix e osb2)→post r os2)→Y v (item k) (bL o osb) post) →
   iL c.P g Y (.raw v::caps) (bL o osb0) (fun r os'=>r=.tuple []∧((∃ osb,os'=bL o osb∧aY N osb)∨∃ e osb,os'=bL (oX e) osb∧Ix e osb))) (hlen:∀ k,(item k).length=ps.length)
  (hfree:aJ os0 999999=none) (h19:aB osb0 1999999=false) (hρ:bp ρ 1999999=999999)
  (hgv:∀ o,eJ ρ (bL o osb0) ((999999,.c8 o)::os0)) (hts:lQ ρ (aB osb0) ts tsR)
  (hI:∀ k os,aY k os→eY osb0 os) (hIx:∀ e os,Ix e os→eY osb0 os) (h0:aY 0 osb0)
  (hround:ES c.P c.n x y ps tsR N item aY J Ix)
  (hdone:∀ os,aY N os→Q .normal (ay ts (cX ρ os++os0))) (hexit:∀ e os,Ix e os→Q (ug e) (ay ts (cX ρ os++os0))) :
  U c (.mJ f ps x y) Q (ay ts os0):=by
 obtain ⟨hr,hbase⟩:=hr0;intro code hc a w hs;cases code <;>simp only[dL] at hc <;>try (first | (cases hc;done) | ((repeat' split at hc) <;>cases hc;done))
 rename_i cf cps cx cy;split at hc
 case h_2=>cases hc
 rename_i f' x' y' hcf hcx hcy;split at hc
 case isFalse=>cases hc
 rename_i hpn;simp only[v6,bj.mJ.injEq] at hc;obtain ⟨rfl,rfl,rfl,rfl⟩:=hc;obtain ⟨D,E,hs⟩:=hs;have hF:c.bl=Fence.wide:=by unfold cd.bl;rw[hr]
 have hE0:c.cG 999999=none:=hs.iW (.inr (by decide));have hval:∃ vs:List Value,a.eval cf=.func (.func g) #[] vs.toArray∧al w D E caps0 vs:=by
  have hv:=bo hs hcf;rw[hf] at hv;obtain ⟨cs,q1,q2⟩:=hv;simp only[af] at q2;obtain ⟨vs,q3,q4⟩:=q2;exact ⟨vs,by rw[←lA (yF hcb)];simpa[aW,I.isAgg,q3] using q1.symm,q4⟩
 obtain ⟨vs,hval,hvs⟩:=hval;rw[hF];refine wpIn_rangeFunc fun fn hfn =>?_;obtain ⟨rec,hrec⟩:∃ rec:LoopState→Option Code→Loop,rec=fun aV pe => { state:=aV,pending:=pe,fn,tmps:=a.tmps,params:=cps,assign:=cx,body:=cy,defers:=w.heap.size } :=⟨_,rfl⟩
 obtain ⟨E1,hs1,hE1,hup⟩:=hs.enter hbase hfree hE0 (o:=.loop (rec .ready none)) rfl;obtain ⟨W1,hW1⟩:∃ W1,(w.alloc (.deferred (some []))).alloc (.loop (rec .ready none))=W1:=⟨_,rfl⟩
 rw[hW1] at hs1 hup;obtain ⟨l,hl⟩:∃ l,l=w.heap.size+1:=⟨_,rfl⟩
 rw[←hl] at hE1;obtain ⟨yv,hyv⟩:∃ yv:Value,yv=.func (.yield l) #[] #[]:=⟨_,rfl⟩
 obtain ⟨a1,ha1⟩:∃ a1:Act,a1 = { a with defers := { target:=.collected w.heap.size,args := #[] } :: a.defers } :=⟨_,rfl⟩
 rw[←ha1] at hs1;refine ⟨l,[{ target:=.collected w.heap.size,args := #[] }],W1,{ target:=.fn (.func g) vs.toArray,args := #[yv] },W1,g,#[yv]++vs.toArray,W1,?_,?_,?_,?_,fun _=>by decide,?_⟩
 ·rw[←hW1,hrec,hl];exact run_enterLoop_outer _ _ _ _ _
 ·simp only[resolve,hval,hyv];simp[go_sem]
 ·intro f' _;trivial
 ·simp only[invoke,lO hcb]
 ·-- the iterator's own bargain
  have hG0:=hI 0 osb0 h0;obtain ⟨I',hI'⟩:∃ I':Nat→List (Nat×ah)→Prop,I'=fun k os=>∃ osb,os=bL (.loop (rec .ready none)) osb∧aY k osb:=⟨_,rfl⟩
  obtain ⟨J',hJ'⟩:∃ J':Nat→List (Nat×ah)→Prop,J'=fun k os=>∃ osb,os=bL (.loop (rec .ready none)) osb∧J k osb:=⟨_,rfl⟩
  obtain ⟨Ix',hIx'⟩:∃ Ix':List (Nat×ah)→Prop,Ix'=fun os=>∃ e osb,os=bL (.loop (rec .done (some (rF e)))) osb∧Ix e osb:=⟨_,rfl⟩
  obtain ⟨os1,hos1⟩:∃ os1,os1=bL (.loop (rec .ready none)) osb0:=⟨_,rfl⟩
  obtain ⟨Y,hY⟩:∃ Y:Value→List I→List (Nat×ah)→bY→Prop,Y=fun v args os post=>v=yv∧∃ k,args=item k∧k<N∧I' k os∧∀ r os2,(r=.bool true∧J' k os2)∨(r=.bool false∧Ix' os2)→post r os2:=⟨_,rfl⟩
  have ju:∀ k os',I' k os'→eY os1 os':=fun k os' h=>by
   rw[hI'] at h;obtain ⟨osb,rfl,h⟩:=h;rw[hos1];exact (hI k osb h).bL _ _
  have goodx:∀ os',Ix' os'→eY os1 os':=fun os' h=>by
   rw[hIx'] at h;obtain ⟨e,osb,rfl,h⟩:=h;rw[hos1];exact (hIx e osb h).bL _ _
  have hctr:iL c.P g Y (.raw yv::caps) os1 (fun r os'=>r=.tuple []∧(I' N os'∨Ix' os')):=by
   rw[hI',hIx',hos1];refine jv Y yv (.loop (rec .ready none)) (fun e=>.loop (rec .done (some (rF e)))) (by rw[hyv];rfl) (fun k osb post hk h1 h2 =>?_);rw[hY];refine ⟨rfl,k,rfl,hk,by rw[hI'];exact ⟨osb,rfl,h1⟩,fun r os2 h3=>h2 r os2 ?_⟩;rw[hJ',hIx'] at h3;exact h3
  have hgv1:eJ ρ os1 ((999999,.c8 (.loop (rec .ready none)))::os0):=by rw[hos1];exact hgv _
  obtain ⟨A0,hA0⟩:∃ A0:ab,A0=ay ts ((999999,.c8 (.loop (rec .ready none)))::os0):=⟨_,rfl⟩
  have hand:lW (Calls c.P g) (fun w D E=>∀ n,nh ⟨c.P,w,D,n,bO E,E,Y,none,none⟩) (.raw yv::caps) os1 (fun r os'=>r=.tuple []∧(I' N os'∨Ix' os')):=fun w D E vs hy hlive hheld hv=>by
   refine (hctr.2 w D E vs hy hlive hheld hv).mono fun e w' ⟨v,he,D',E',r,os',q⟩=>⟨v,D',E',r,os',he,q⟩
  have hshare:=hs1.mP;obtain ⟨Dh,hDh⟩:∃ Dh,Dh=mL (ay ts ((999999,.c8 (.loop (rec .ready none)))::os0)) D E1:=⟨_,rfl⟩
  rw[←hDh] at hshare;have hsh:=hshare.1;obtain ⟨Eh,hEh⟩:∃ Eh,Eh=aq ρ os1 E1:=⟨_,rfl⟩
  have isrec:aB os1 1999999=true:=by rw[hos1,jx];simp
  have hEl:Eh 1999999=some (.op l):=by rw[hEh];simp only[aq,isrec,if_true,hρ];exact hE1
  have EhIn:∀ n e,Eh n=some e→aB os1 n=true:=fun n e h=>by
   rw[hEh] at h;simp only[aq] at h;split at h
   ·assumption
   ·cases h
  have hyok:∀ n,nh ⟨c.P,W1,Dh,n,bO Eh,Eh,Y,none,none⟩:=by
   refine fun n=>⟨by rw[hEh];exact hs1.nN,?_⟩
   intro v' args os' post' hYv w2 D2 E2 vs2 hsince hlive hheld hrvs;rw[hY] at hYv;obtain ⟨rfl,k,rfl,hkN,hIk,hpost⟩:=hYv;have hIk0:=hIk;rw[hI'] at hIk;obtain ⟨osb,rfl,hIk⟩:=hIk;have gk:=ju k _ hIk0;have gkb:=hI k osb hIk;have in2:∀ m,aB os1 m=true→E2 m≠none:=fun m hm=>by
    rw[←gk.same m] at hm;cases hx:aJ (bL (.loop (rec .ready none)) osb) m with
    |none=>simp[aB,hx] at hm
    |some x=>have:=hheld.bx m;rw[hx] at this;exact pI this
   have same2:∀ m e,Eh m=some e→e.ef=true→E2 m=some e:=fun m e he hfx=>by
    rcases hsince.dv m e he with h | ⟨e',h,hle⟩
    ·exact absurd h (in2 m (EhIn m e he))
    ·rw[hle.eq hfx] at h;exact h
   have hEl2:E2 1999999=some (.op l):=same2 _ _ hEl rfl;have hob:=hheld.bx 1999999;rw[nQ,if_pos rfl] at hob;obtain ⟨b,j1,_,j3,_,_⟩:=hob;rw[hEl2] at j1;cases j1;have hsz:vs2.toArray.size=cps.size:=by have:=p8 hrvs;rw[hlen] at this;simpa using this
   have hyr:=run_yield (P:=c.P) (args:=vs2.toArray) j3 (by rw[hrec];exact hsz);rw[hrec] at hyr;refine ⟨l,hyv,fn,_,cx,cy,hyr,roundIn_of_wpIn trivial ?_⟩;clear hyr
   -- the round's own frame
   obtain ⟨cr,hcr⟩:∃ cr:cd,cr=⟨c.P,w2,D2,c.n,bO E2,E2,fq,some l,none⟩:=⟨_,rfl⟩
   have hFr:cr.bl=Fence.wide.inRound l:=by rw[hcr];rfl
   have hlat:df W1 Dh Eh w2 D2 E2:=by
    refine ⟨hsince.cq,hsince.eV.cell,fun m b aK he=>same2 m _ he rfl,fun m az l he =>?_,fun m b he=>same2 m _ he rfl,fun m b he=>same2 m _ he rfl,hsince.eV.ig⟩;rcases hsince.dv m _ he with h | ⟨e',h,hle⟩
    ·exact absurd h (in2 m (EhIn m _ he))
    ·rcases hle with rfl | ⟨_,_,blk',l',e,rfl,k1,k2⟩
     ·exact ⟨az,l,h,Z3 _,fun _=>rfl⟩
     ·cases e;exact ⟨blk',l',h,k1,k2⟩
   have hslots:lQ ρ (aB os1) ts tsR:=by
    have:∀ tsR:List (Nat×I),lQ ρ (aB osb0) ts tsR→lQ ρ (aB os1) ts tsR:=by
     intro tsR
     induction tsR with
     |nil=>exact fun h=>h
     |cons q r ih =>
      intro h;obtain ⟨h1,h2,h3⟩:=h;exact ⟨h1,jd (fun n hn=>by rw[hos1,jx,hn];simp) _ h2,ih h3⟩
    exact this tsR hts
   have hsr:aL cr (ay tsR (bL (.loop (rec .ready none)) osb)) { tmps:=a.tmps,defers:=[] } w2 D2 E2:=by
    rw[hcr];refine ⟨hs.sz,⟨[],rfl,.nil,fun _ h=>by simp at h⟩,fun t =>?_,ej.refl _ _,fun _ _ h _=>h,hlive,fun m=>(hheld.bx m).jb fun e b he hb=>.inr ⟨m,e,he,hb⟩,hheld.ct,fun _ e h=>.inr ⟨e,h,.refl e⟩,fun m hm =>?_,fun _ _ h=>h,⟨hsince.py,fun _ _ _ _ h=>h.elim⟩,.refl _ _⟩
    ·rcases Dp hslots t with h | ⟨h1,h2⟩
     ·simp only[ay];rw[h];simp[aO]
     ·have h3:=hsh.dx t;rw[ha1] at h3;simp only[ay] at h3 ⊢;rw[h1] at h3;have h4:=(aO.aR (w:=W1) (D:=Dh) (p:=aB os1) (ρ:=bp ρ) (E:=Eh) (E':=E1) (fun n hn=>by rw[hEh];simp only[aq,hn,if_true]) h2).1 h3;exact aO.later hlat h4
    ·have hmi:aB os1 m=true:=by
      rw[←gk.same m];have:=hheld.bx m;cases hx:aJ (bL (.loop (rec .ready none)) osb) m with
      |none=>rw[hx] at this;exact absurd this hm
      |some x=>simp[aB,hx]
     have:=gk.lB m hmi;exact ⟨Nat.le_trans hn6 this,this⟩
   have hsp:=aL.Bz cps.toList vs2 (item k) tsR _ hsr (fun p hp=>by rw[hcr];have:=X6.1 hpn p hp;simpa using this) hrvs (by have:=hsz;simpa using this.symm);have htm:(cps.zip vs2.toArray).foldl (fun t (q:Tmp×Value)=>t.setIfInBounds q.1 q.2) a.tmps=(cps.toList.zip vs2).foldl (fun t q=>t.setIfInBounds q.1 q.2) a.tmps:=by
    rw[←Array.foldl_toList];simp
   have hx:=hround k osb hkN hIk w2 D2 E2 l (.loop (rec .ready none)) (.loop { rec .ready none with state:=.busy });rw[←hcr] at hx;have hx1:=hx cx (by rw[hcr];exact hcx) _ w2 ⟨D2,E2,hsp⟩;rw[hFr] at hx1;simp only[←htm] at hx1;rw[hcr] at hx1;refine wpIn_mono hx1 ?_;rintro e ax wx ⟨B,hq,hsx⟩;rw[←hcr] at hq hsx;cases e <;>simp only[cP] at hq <;>try exact hq.elim
   simp only[Exit.then];obtain ⟨hB1,hB2⟩:=hq;obtain ⟨Dx,Ex,hsx⟩:=hsx;have hElx:Ex 1999999=some (.op l):=by
    have ho:=hsx.bx 1999999;rw[hB1] at ho;rcases hsx.uy (n:=1999999) (by rw[hcr];exact hEl2) rfl with h | h
    ·exact absurd h (pI ho)
    ·exact h
   have hLx:wx.heap[l]?=some (.loop (rec .ready none)):=by
    have ho:=hsx.bx 1999999;rw[hB1] at ho;obtain ⟨b,k1,_,k3,_⟩:=ho;rw[hElx] at k1;cases k1;exact k3
   refine ⟨_,run_beginRound hLx (by rw[hrec]),?_⟩;have hsb:=hsx.vU (o':=.loop { rec .ready none with state:=.busy }) hB1 hElx rfl;have hy1:=hB2 cy (by rw[hcr];exact hcy) _ _ ⟨Dx,Ex,hsb⟩;rw[hFr] at hy1;rw[hcr] at hy1;refine wpIn_mono hy1 ?_;rintro e a3 w3 ⟨A3,hq3,D3,E3,hs3⟩;rw[←hcr] at hs3
   -- the end of the round
   have ba:∀ (os:List (Nat×ah)) (jump:Option Code),oy (.loop { rec .ready none with state:=.busy }) A3 os→(post' (.bool jump.isNone) (bL (.loop (rec (if jump.isNone then .ready else .done) jump)) os)) →
     ∃ v w',(Instr.endRound l jump).run c.P w3=.ok v w'∧(fun e w'=>∃ v D' E' r os',e=Ending.returned v∧post' r os'∧aO w' D' E' r v∧iM (fun b=>w2.heap.size≤b∨bO E2 b) w' D' E' (aJ os') ∧
      ej (fun b=>w2.heap.size≤b∨bO E2 b) w2 w'∧(∀ b o,D2 b o→D' b o)∧(∀ b o,D' b o→b<w'.heap.size)∧(∀ b o,D' b o→b<w2.heap.size→¬ bO E2 b→D2 b o) ∧
      (∀ n e,E2 n=some e→aB os' n=true→∃ e',E' n=some e'∧e.ff e')∧fH w2 D2 w') (.returned v) w':=fun os jump hbk hp=>by
    have hA3:A3.o 1999999=some (.c8 (.loop { rec .ready none with state:=.busy })):=(hbk 1999999 _ (by rw[nQ,if_pos rfl])).1;have hEl3:E3 1999999=some (.op l):=by
     have ho:=hs3.bx 1999999;rw[hA3] at ho;rcases hs3.uy (n:=1999999) (by rw[hcr];exact hEl2) rfl with h | h
     ·exact absurd h (pI ho)
     ·exact h
    have hL3:w3.heap[l]?=some (.loop { rec .ready none with state:=.busy }):=by
     have ho:=hs3.bx 1999999;rw[hA3] at ho;obtain ⟨b,k1,_,k3,_⟩:=ho;rw[hEl3] at k1;cases k1;exact k3
    have hend:=run_endRound (P:=c.P) jump hL3;have erec:({ rec .ready none with state:=if jump.isNone then LoopState.ready else .done,pending:=jump } : Loop)=rec (if jump.isNone then .ready else .done) jump:=by rw[hrec]
    have hend':(Instr.endRound l jump).run c.P w3=.ok (.bool jump.isNone) (w3.putObj l (.loop (rec (if jump.isNone then .ready else .done) jump))):=by
     rw[hend];rw[hrec]
    have hs4:=hs3.vU (o':=.loop (rec (if jump.isNone then .ready else .done) jump)) hA3 hEl3 rfl;rw[hcr] at hs4;obtain ⟨D',E',_,_,_,q1,q2,q3,q4,q5,q6⟩:=hs4.uX (Tv hbk _);exact ⟨_,_,hend',_,D',E',.bool jump.isNone,_,rfl,hp,⟨[.bool jump.isNone],by simp[aW,I.isAgg],by simp[af]⟩,q1,q2,q3,q4,q5,q6⟩
   cases e with
   |normal =>
    obtain ⟨os,hbk,hin⟩:=hq3;exact ba os none hbk (hpost _ _ (.inl ⟨rfl,by rw[hJ'];exact ⟨os,rfl,hin⟩⟩))
   |ret =>
    obtain ⟨os,hbk,hin⟩:=hq3;exact ba os (some .ret) hbk (hpost _ _ (.inr ⟨rfl,by rw[hIx'];exact ⟨none,os,rfl,hin⟩⟩))
   |exit id =>
    obtain ⟨os,hbk,hin⟩:=hq3;exact ba os (some (.exit id)) hbk (hpost _ _ (.inr ⟨rfl,by rw[hIx'];exact ⟨some id,os,rfl,hin⟩⟩))
   |goto t=>exact hq3.elim
   |panic ch=>exact hq3.elim
   |outgrown=>exact hq3.elim
  -- the call
  have hargs:dV (aO W1 D E1) (.raw yv::caps0) (yv::vs):=by
   exact .cons ⟨[yv],by simp[aW,I.isAgg],by rw[hyv];exact ⟨rfl,rfl⟩⟩ (od (hup caps0 vs hvs))
  have hus:=hand.use (ρ:=ρ) hs1 false (fun h=>h.mono) ⟨(fun h=>by cases h),fun _=>by rw[←hDh,←hEh];exact hyok⟩ hgv1 (Fs hc0 fun x hx=>⟨jd (fun n hn=>by rw[hos1,jx,hn];simp) _ (hcp x hx).1,(hcp x hx).2⟩)
   (fun r os' hp=>by
    have gg:eY os1 os':=by
     rcases hp.2 with h | h
     ·exact ju _ _ h
     ·exact goodx _ h
    refine ⟨fun m x hx=>⟨(gg.ok m x hx).1,(gg.ok m x hx).2,fun h=>by cases h⟩,fun m m' h1 h2=>hgv1.inj m m' (by rw[←gg.same];exact h1) (by rw[←gg.same];exact h2),fun m hm=>by rw[gg.same];exact hm,fun m h1 h2=>(by rw[gg.same,h2] at h1;cases h1),(by rw[hp.1];simp[I.only,I.cF]),fun h=>by cases h⟩) hargs
  have ecl : #[yv]++vs.toArray=(yv::vs).toArray:=by simp
  rw[ecl];refine CallsIn.mono (callsIn_wide.2 hus) ?_;rintro e w3 ⟨v,r,os',D2,E2,rfl,hp,hs2,_,hE2⟩;have key:∀ (o3:Obj) (osb:List (Nat×ah)),os'=bL o3 osb→nK o3=true→E2 999999=some (.op l)∧w3.heap[l]?=some o3∧∀ o4,nK o4=true→bz c (ay ts (cX ρ osb++os0)) a1 (w3.putObj l o4):=fun o3 osb he h3=>by
   subst he;have hn2:E2 999999=some (.op l):=by
    obtain ⟨e',h1,h2⟩:=hE2 1999999 (.op l) (by rw[←hEh];exact hEl) (by rw[jx];simp);rw[hρ] at h1;rw[h1,h2.eq rfl]
   have eos:cX ρ (bL o3 osb)=(999999,.c8 o3)::cX ρ osb:=by simp only[bL,cX,Z4,hρ,ah.aR]
   rw[eos] at hs2;have ha:(ay ts ((999999,ah.c8 o3)::cX ρ osb++(999999,.c8 (.loop (rec .ready none)))::os0)).o 999999=some (.c8 o3):=by simp[ay,aJ]
   have hgb:∀ m,aB osb m=true→bp ρ m≠999999:=fun m hm e=>by
    have h5:aB (bL o3 osb) m=true:=by rw[jx,hm];simp
    have g5:eY os1 (bL o3 osb):=by
     rcases hp.2 with h | h
     ·exact ju _ _ h
     ·exact goodx _ h
    have h6:=hgv1.inj m 1999999 (by rw[←g5.same];exact h5) isrec (by rw[hρ];exact e);subst h6;have h7:eY osb0 osb:=by
     rcases hp.2 with h | h
     ·rw[hI'] at h;obtain ⟨osb',h8,h9⟩:=h;simp only[bL,Y6] at h8;rw[h8.2];exact hI _ _ h9
     ·rw[hIx'] at h;obtain ⟨e,osb',h8,h9⟩:=h;simp only[bL,Y6] at h8;rw[h8.2];exact hIx _ _ h9
    rw[h7.same,h19] at hm;cases hm
   refine ⟨hn2,?_,fun o4 h4 =>?_⟩
   ·have ho:=hs2.bx 999999;rw[ha] at ho;obtain ⟨b,k1,_,k3,_⟩:=ho;rw[hn2] at k1;cases k1;exact k3
   ·have h5:=(hs2.vU (o':=o4) ha hn2 h4).Kv hn2;have hst:(⟨((ay ts ((999999,ah.c8 o3)::cX ρ osb++(999999,.c8 (.loop (rec .ready none)))::os0)).aP 999999 (.c8 o4)).t,fun m=>if m=999999 then none else
      ((ay ts ((999999,ah.c8 o3)::cX ρ osb++(999999,.c8 (.loop (rec .ready none)))::os0)).aP 999999 (.c8 o4)).o m⟩:ab)=ay ts (cX ρ osb++os0):=by
     simp only[ay,ab.aP]
     congr 1
     funext m
     by_cases hm:m=999999
     ·subst hm;simp only[if_true,rQ];cases hq:pre ρ osb 999999 with
      |none=>exact hfree.symm
      |some k=>exact absurd (kP hq).2 (hgb k (kP hq).1)
     ·simp only[if_neg hm,Y3,aJ,rQ]
    rw[hst] at h5;exact ⟨D2,_,h5⟩
  rcases hp.2 with h | h
  ·rw[hI'] at h;obtain ⟨osb,he,hin⟩:=h;obtain ⟨k1,k2,k3⟩:=key _ osb he rfl;refine ⟨none,_,(by have:=run_endLoop (P:=c.P) k2 (by rw[hrec];simp);rw[hrec] at this;exact this),_,hdone osb hin,?_⟩;have:=k3 (.loop { rec .ready none with state:=.exhausted }) rfl;rw[ha1] at this;rw[hrec] at this;exact this
  ·rw[hIx'] at h;obtain ⟨e,osb,he,hin⟩:=h;obtain ⟨k1,k2,k3⟩:=key _ osb he rfl;refine ⟨some (rF e),_,(by have:=run_endLoop (P:=c.P) k2 (by rw[hrec];simp);rw[hrec] at this;exact this),?_⟩;have:=k3 (.loop { rec .done (some (rF e)) with state:=.exhausted }) rfl;rw[ha1] at this;rw[hrec] at this;have hq:rL c Q (ug e) { a with defers := { target:=.collected w.heap.size,args := #[] } :: a.defers } _:=⟨_,hexit e osb hin,this⟩
   cases e with
   |none=>exact wpIn_ret hq
   |some id=>exact wpIn_exit hq
end
end Go.Abs
