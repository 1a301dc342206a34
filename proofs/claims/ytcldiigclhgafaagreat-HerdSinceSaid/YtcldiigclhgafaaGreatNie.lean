/-
  A part of the proof that the law HerdSince returns true for every input; conditions: none beyond the statement's own. (part 5 of 7)
-/
import Derived.Shelf.Sort.Plain
import Derived.Shelf.Slices.In.SortNone
import Derived.Test.YtcldiigclhgafaaGreatRows
import Derived.Test.YtcldiigclhgafaaGreatNid
set_option linter.unusedSimpArgs false
set_option linter.unusedVariables false
set_option maxHeartbeats 16000000
set_option maxRecDepth 100000
namespace Go.Proofs.YtcldiigclhgafaaGreat
open Go Go.Abs
open Go.Abs.Enc (enc)
def ej(bs:List aP):List (Nat×ah):=(43,.box (.agg [.mref 41]))::(41,.cE (dA bs) (eE 2000 bs.length))::fo 2000 0 bs
def oh(bs:List aP)(b:aP):List (Nat×ah):=(41,.cE (dA (bs++[b])) (eE 2000 bs.length++[.ptr (2002+2*bs.length) []]))::(2002+2*bs.length,.box (eJ b (.nils 6)))::ej bs
def gY(n:Nat):List (Nat×Nat):=(33,2002+2*n)::(1000000,43)::(1000001,41)::(List.range' 0 200).map fun j=>(1000002+j,2002+j)
theorem Qb(m:Nat):∀ k a,bD ((List.range' a k).map fun j=>(1000002+j,2002+j)) m=if 1000002+a≤m∧m<1000002+a+k then m-998000 else m
 |0,a=>by
  rw[if_neg (by omega)];rfl
 |k+1,a=>by
  rw[List.range'_succ,zy2,bD,Qb m k (a+1)];by_cases h:m=1000002+a
  ·rw[if_pos h,if_pos (by omega)];omega
  ·rw[if_neg h];by_cases h2:1000002+(a+1)≤m∧m<1000002+(a+1)+k
   ·rw[if_pos h2,if_pos (by omega)]
   ·rw[if_neg h2,if_neg (by omega)]
theorem mO(n m:Nat):bD (gY n) m=if m=33 then 2002+2*n else if m=1000000 then 43 else if m=1000001 then 41 else if 1000002≤m∧m<1000202 then m-998000 else m:=by
 simp only[gY,bD,Qb]
theorem P9{n i:Nat}(h:i≤80):bD (gY n) (1000000+2+2*i)=2000+2+2*i:=by
 rw[mO,if_neg (by omega),if_neg (by omega),if_neg (by omega),if_pos (by omega)];omega
theorem apr{n i:Nat}(h:i≤80):bD (gY n) (1000000+3+2*i)=2000+3+2*i:=by
 rw[mO,if_neg (by omega),if_neg (by omega),if_neg (by omega),if_pos (by omega)];omega
theorem P6(n:Nat):bD (gY n) 1000000=43:=by rw[mO];rfl
theorem P7(n:Nat):bD (gY n) 1000001=41:=by rw[mO];rfl
theorem P8(n:Nat):bD (gY n) 33=2002+2*n:=by rw[mO];rfl
theorem z1(ρ:List (Nat×Nat))(k:Nat)(v:ah)(os:List (Nat×ah)):dB ρ ((k,v)::os)=(bD ρ k,v.aN (bD ρ))::dB ρ os:=rfl
theorem P0(n:Nat):∀ (bs:List aP) (i:Nat),i+bs.length≤80→dB (gY n) (fo 1000000 i bs)=fo 2000 i bs
 | [],_,_=>rfl
 |b::bs,i,h=>by
  simp only[zu5] at h;have ih:=P0 n bs (i+1) (by omega);simp only[fo,z1,ih,P9 (n:=n) (i:=i) (by omega),apr (n:=n) (i:=i) (by omega),ah.aN,eP,eJ,I.aN,I.cZ]
theorem P2(n:Nat){k:Nat}(h:k≤80):I.cZ (bD (gY n)) (eE 1000000 k)=eE 2000 k:=by
 simp only[eE,pI,List.map_map];refine List.map_congr_left fun i hi =>?_;have:=zw4.1 hi;simp only[Function.comp,I.aN,P9 (n:=n) (i:=i) (by omega)]
theorem P1(ρ:Nat→Nat)(bs:List aP):I.cZ ρ (dA bs)=dA bs:=by
 simp only[dA,eP]
theorem vj(n:Nat){bs:List aP}(h:bs.length≤80):dB (gY n) (cB 1000000 bs)=ej bs:=by
 have h1:=P0 n bs 0 (by omega);simp only[cB,ej,z1,h1,ah.aN,I.aN,I.cZ,P1,P2 n h,P6,P7,Nat.reduceAdd]
theorem ape(ρ:Nat→Nat)(xs ys:List I):I.cZ ρ (xs++ys)=I.cZ ρ xs++I.cZ ρ ys:=by simp only[pI,zx4]
theorem apc{bs:List aP}{b:aP}(h:bs.length≤80):dB (gY bs.length) (ik 1000000 33 bs b)=oh bs b:=by
 have h1:=vj bs.length h;simp only[ik,oh,z1,h1,ah.aN,I.aN,I.cZ,P1,ape,P2 bs.length h,P7,P8,eJ,Nat.reduceAdd]
def uO(n m:Nat):Prop:=m=33∨(1000000≤m∧m<1000002+2*n)
theorem vn{n k m m':Nat}(hk:k≤80)(hm:1000000≤m∧m<1000002+2*k)(hm':1000000≤m'∧m'<1000002+2*k)(h:bD (gY n) m=bD (gY n) m'):m=m':=by
 rw[mO,mO] at h;rw[if_neg (by omega),if_neg (show ¬ m'=33 by omega)] at h
 (repeat' split at h) <;>omega
theorem apq{n m m':Nat}(hk:n≤80)(hm:uO n m)(hm':uO n m')(h:bD (gY n) m=bD (gY n) m'):m=m':=by
 simp only[uO] at hm hm';rw[mO,mO] at h
 (repeat' split at h) <;>omega
theorem amH{ρ:List (Nat×Nat)}{os:List (Nat×ah)}{m:Nat}{y:ah}(inj:∀ m',aq os m'=true→bD ρ m'=bD ρ m→m'=m)(h:ao os m=some y):ao (dB ρ os) (bD ρ m)=some (y.aN (bD ρ)):=by
 have h1:=sg ρ os [] (bD ρ m);rw[zx6] at h1;rw[h1];cases hp:pre ρ os (bD ρ m) with
 |none=>exact absurd rfl (zN hp (by simp[aq,h]))
 |some m' =>
  obtain ⟨k1,k2⟩:=mL hp;have:=inj m' k1 k2;subst this;simp only[h,zy6]
theorem yC{bs:List aP}{n:Nat} : aq (ej bs) n=decide (n=43∨n=41∨(2002≤n∧n<2002+2*bs.length)):=by
 have h2:aq (fo 2000 0 bs) n=decide (2002≤n∧n<2002+2*bs.length):=by
  by_cases h1:n<2002
  ·simp only[aq,ux 2000 bs 0 n (by omega)];simp;omega
  by_cases h3:2002+2*bs.length≤n
  ·simp only[aq,uv 2000 bs 0 n (by omega)];simp;omega
  ·rcases uN 2000 n bs.length with h | h | h | ⟨k,hk,h⟩ | ⟨k,hk,h⟩ | h
   ·omega
   ·omega
   ·omega
   ·have:=uw 2000 bs 0 k hk;rw[zz4] at this;rw[h];simp only[aq,this];simp;omega
   ·have:=uy 2000 bs 0 k hk;rw[zz4] at this;rw[h];simp only[aq,this];simp;omega
   ·omega
 simp only[aq,ej,ao] at h2 ⊢;by_cases h3:n=43
 ·simp[h3]
 by_cases h4:n=41
 ·simp[h4]
 simp only[h3,h4,if_false,h2,false_or]
theorem cF.post{P:Program}{f:FuncId}{args:List I}{os:List (Nat×ah)}{post post':cO}(h:cF P f args os post)(hp:∀ r os',post r os'→post' r os'):cF P f args os post' :=
 ⟨h.1,fun w D E vs hs hD ho hv=>(h.2 w D E vs hs hD ho hv).mono fun _ _ ⟨v,D',E',r,os',k1,k2,k⟩=>⟨v,D',E',r,os',k1,hp _ _ k2,k⟩⟩
def n8:List I:=[.int .i64 1,.int .i64 2,.int .i64 3,.int .i64 4,.int .i64 5,.int .i64 6]
def n9:List I:=[.func 172 [],.func 173 [],.func 174 [],.func 175 [],.func 176 [],.func 177 []]
theorem amd{x:ak}(h:gB x=true):0≤x.kind∧x.kind≤6∧(x.kind=2→x.fg=0):=by
 simp only[gB,zz3,decide_eq_true_eq] at h;obtain ⟨h1,h2,_⟩:=h;have h3:x.kind=2→x.fg=0:=fun hk=>by rw[h2];simp[jt,hk]
 simp only[oc] at h1;refine ⟨?_,?_,h3⟩
 all_goals
  split at h1
  ·omega
  ·simp only[zz3] at h1;obtain ⟨-,h1⟩:=h1
   repeat' split at h1
   all_goals first | omega | (simp only[decide_eq_true_eq] at h1;omega)
theorem wW{bs:List aP}{x:ak}(hok:gB x=true)(hk0:x.kind≠0)(hd:(bs.map (·.no)).Nodup)(hlen:∀ b∈bs,b.bS.length≤1000) :
  ∃ f,gN (.i .i64) .dz (.int .i64 x.kind) n8 n9=some (.func f [],true)∧[172,173,174,175,176,177].contains f=true∧cF Tryz.prog f [.ptr 1000000 [],enc x] (cB 1000000 bs) (jB 1000000 33 bs x):=by
 obtain ⟨h1,h2,h3⟩:=amd hok;have h4:x.kind=1∨x.kind=2∨x.kind=3∨x.kind=4∨x.kind=5∨x.kind=6:=by omega
 rcases h4 with h | h | h | h | h | h
 ·exact ⟨172,by rw[h];simp[gN,fv,cw,n8,n9],rfl,RT bs x h⟩
 ·refine ⟨173,by rw[h];simp[gN,fv,cw,n8,n9],rfl,cF.post (sX bs x) ?_⟩;have hdam:jd bs x=true:=by simp[jd,h3 h]
  rintro r os' (⟨k1,rfl,rfl⟩ | ⟨k1,rfl,rfl⟩)
  ·exact kr (by simp[eR,h,k1])
  ·exact ui (.inr h) k1 hdam
 ·exact ⟨174,by rw[h];simp[gN,fv,cw,n8,n9],rfl,RU bs x 33 h hd⟩
 ·exact ⟨175,by rw[h];simp[gN,fv,cw,n8,n9],rfl,RV bs x 33 h hd hlen⟩
 ·exact ⟨176,by rw[h];simp[gN,fv,cw,n8,n9],rfl,RW bs x 33 h hd⟩
 ·exact ⟨177,by rw[h];simp[gN,fv,cw,n8,n9],rfl,RX bs x 33 h hd⟩
theorem wa{bs bs':List aP}{x:ak}(hk:¬ (x.kind=1∨x.kind=2))(h:eR fh bs x=some bs'):bs'.length=bs.length:=by
 simp only[eR,if_neg hk] at h;split at h
 ·cases h
 ·simp only[zz1] at h;obtain ⟨b',_,rfl⟩:=h;simp[mR]
theorem cK.wW{hs:List FuncId}{K:af→Prop}{f:FuncId}{x:ak}{avs:List I}{a1 a2:Option (List I)}{dst:Option Nat}{rest:List aE}{ts:List (Nat×I)}{z y:ah}{bs:List aP}(hlen:bs.length≤60)(hf:hs.contains f=true)
  (hc:cF Tryz.prog f [.ptr 1000000 [],enc x] (cB 1000000 bs) (jB 1000000 33 bs x)) (hav:avs=[.ptr 43 [],enc x])
  (h1:eR fh bs x=none→cK Tryz.prog hs K (aF rest ((aw ts (ej bs++((900,z)::(ej bs++[(3,y)])))).aT dst (.bool false))))
  (h2:∀ bs',eR fh bs x=some bs'→¬ (x.kind=1∨x.kind=2)→cK Tryz.prog hs K (aF rest ((aw ts (ej bs'++((900,z)::(ej bs++[(3,y)])))).aT dst (.bool true))))
  (h3:eR fh bs x=some (bs++[gz x])→cK Tryz.prog hs K (aF rest ((aw ts (oh bs (gz x)++((900,z)::(ej bs++[(3,y)])))).aT dst (.bool true)))) :
  cK Tryz.prog hs K (.call f avs a1 a2 dst rest (aw ts ((900,z)::(ej bs++[(3,y)])))):=by
 subst hav;have nm:∀ {bs:List aP} {m},aq (cB 1000000 bs) m=true→1000000≤m∧m<1000002+2*bs.length:=fun {bs m} h=>by
  rw[oq] at h;simpa using h
 have hlow:∀ {bs':List aP},bs'.length≤60→∀ {m y},ao (cB 1000000 bs') m=some y→ao (ej bs') (bD (gY bs.length) m)=some (y.aN (bD (gY bs.length))):=fun {bs'} hl {m y} hy=>by
  rw[←vj bs.length (bs:=bs') (by omega)];exact amH (fun m' hm' he=>vn (by omega) (nm hm') (nm (by simp[aq,hy])) he) hy
 refine .zn false (gY bs.length) (cB 1000000 bs) [.ptr 1000000 [],enc x] _ hf hc ⟨fun m y' hy =>?_,fun m m' h h' e=>vn (n:=bs.length) (by omega) (nm h) (nm h') e⟩ ⟨.inl ⟨?_,?_,rfl⟩,.inl ⟨(ij _ _).symm,bg _ _,du _⟩,trivial⟩ ?_ ?_
 ·have hm:=nm (bs:=bs) (m:=m) (by simp[aq,hy]);refine ⟨?_,fQ hy⟩;have h9:bD (gY bs.length) m≠900:=fun e=>by
   rw[mO] at e
   (repeat' split at e) <;>omega
  simp only[ao,if_neg h9,kW,hlow hlen hy]
 ·simp only[I.aN,P6]
 ·simp only[I.only];simp[aq,kU]
 ·intro r os' hp;simp only[jB] at hp;split at hp
  ·obtain ⟨rfl,rfl⟩:=hp;exact ⟨fun m y hy=>⟨(fQ hy).1,(fQ hy).2,fun h=>by cases h⟩,fun m m' h h' e=>vn (n:=bs.length) (k:=bs.length) (by omega) (nm h) (nm h') e,fun m hm=>hm,(fun m a b=>by rw[a] at b;cases b),rfl,(fun h=>by cases h)⟩
  ·rename_i bs' hb;obtain ⟨rfl,rfl⟩:=hp;split
   ·rename_i hk;have hbs:bs'=bs++[gz x]:=by
     simp only[eR,if_pos hk] at hb;split at hb
     ·simpa[fh] using hb.symm
     ·cases hb
    subst hbs;have hN:∀ {m},aq (ik 1000000 33 bs (gz x)) m=true→uO bs.length m:=fun {m} h=>by
     rw[oi] at h;simp only[Bool.or_eq_true,decide_eq_true_eq] at h;rcases h with h | h
     ·exact .inl h
     ·exact .inr (nm h)
    refine ⟨fun m y hy=>⟨(oj hy).1,(oj hy).2,fun h=>by cases h⟩,fun m m' h h' e=>apq (by omega) (hN h) (hN h') e,fun m hm =>?_,fun m a b =>?_,rfl,fun h=>by cases h⟩
    ·show aq (ik 1000000 33 bs (gz x)) m=true
     rw[oi,hm,Bool.or_true]
    ·have a':aq (ik 1000000 33 bs (gz x)) m=true:=a;rw[oi,b,Bool.or_false,decide_eq_true_eq] at a';subst a';rw[P8];refine ⟨?_,by omega⟩;have h9:¬ 2002+2*bs.length=900:=by omega
     have h3:¬ 2002+2*bs.length=3:=by omega
     have hno:ao (ej bs) (2002+2*bs.length)=none:=by
      have:=yC (bs:=bs) (n:=2002+2*bs.length);rw[decide_eq_false (by omega)] at this;simpa[aq] using this
     simp only[ao,if_neg h9,kW,hno,if_neg h3]
   ·rename_i hk;have hl:=wa hk hb;refine ⟨fun m y hy=>⟨(fQ hy).1,(fQ hy).2,fun h=>by cases h⟩,fun m m' h h' e=>vn (n:=bs.length) (k:=bs'.length) (by omega) (nm h) (nm h') e,fun m hm =>?_,fun m a b =>?_,rfl,fun h=>by cases h⟩
    ·rw[oq] at hm ⊢;rw[hl];exact hm
    ·rw[oq] at a b;rw[hl] at a;rw[a] at b;cases b
 ·intro r os' hp;simp only[jB] at hp;split at hp
  ·rename_i hb;obtain ⟨rfl,rfl⟩:=hp;rw[vj bs.length (by omega)];exact h1 hb
  ·rename_i bs' hb;obtain ⟨rfl,rfl⟩:=hp;split
   ·rename_i hk;have hbs:bs'=bs++[gz x]:=by
     simp only[eR,if_pos hk] at hb;split at hb
     ·simpa[fh] using hb.symm
     ·cases hb
    subst hbs;have e:dB (gY bs.length) ((1000000+1,ah.cE (dA (bs++[gz x])) (eE 1000000 bs.length++[.ptr 33 []]))::(33,.box (eJ (gz x) (.nils 6)))::cB 1000000 bs)=oh bs (gz x):=apc (by omega);rw[e];exact h3 hb
   ·rename_i hk;have hl:=wa hk hb;rw[vj bs.length (by omega)];exact h2 bs' hb hk
def vX(a b c d e f:Int):aX 6 Int:=⟨[a,b,c,d,e,f],rfl⟩
def a5(a b c d e:Int):aX 5 Int:=⟨[a,b,c,d,e],rfl⟩
theorem ES(a b c d e:Int):I.agg [.int .i64 a,.int .i64 b,.int .i64 c,.int .i64 d,.int .i64 e]=enc (a5 a b c d e):=rfl
theorem ET(a b c d e f:Int):I.agg [.int .i64 a,.int .i64 b,.int .i64 c,.int .i64 d,.int .i64 e,.int .i64 f]=enc (vX a b c d e f):=rfl
theorem pM{zs:List I}{i:Nat}{v z:I}{rest:List (Nat×I)}(h:zs[i]?=some z)(h1:v.cq=true)(h2:v.size=z.size):dN zs ((i,v)::rest)=dN (zs.set i v) rest:=by
 simp only[dN,h];rw[if_pos ⟨h1,h2⟩]
theorem TJ(o:Int)(m:aX 6 Int):dN [.int .i64 0,enc (vX 0 0 0 0 0 0)] [(0,.int .i64 o),(1,enc m)]=some [.int .i64 o,enc m]:=by
 have h2:((enc m:I).cq=true∧(enc m:I).size=(enc (vX 0 0 0 0 0 0)).size):=⟨du _,by rw[gG,gG]⟩
 have h1:((I.int .i64 o).cq=true∧(I.int .i64 o).size=(I.int .i64 0).size):=⟨rfl,rfl⟩
 rw[pM rfl h1.1 h1.2,pM rfl h2.1 h2.2];rfl
theorem abE(o:Int)(m:aX 6 Int):I.agg [.int .i64 o,enc m]=enc (⟨o,m⟩:cu):=rfl
theorem rR(w:aX 5 Int)(n:Int)(l:List cu):I.agg [enc w,.int .i64 n,enc l]=enc (⟨w,n,l⟩:bY):=rfl
theorem Sk(x:ak):aA Tryz.prog 62 [enc x] (enc (if gB x then (0:Int) else 40)):=by
 refine aA.bp Tryz.func62 Vv Xz ZM (t7 rfl) (fun hwf W0 D0 E1 =>?_);simp only[Du,Pt,bl];have R:=v6 @aO @ab
 repeat' ((first |refine U.aI (by decide +kernel) rfl fun K hK =>?_|refine .flat _ (vK _) rfl ?_|(refine .aD [0,1,2,5] hK ?_;clear hK K)|(with_reducible refine .done (hK _ ?_);clear hK K)|refine U.of rfl ?_|(with_reducible refine al.aH (fun h =>?_) (fun h =>?_) <;>try simp only[h])) <;>try simp only[aJ,R,simprocAttr])
 all_goals clear R
 all_goals simp_all
theorem Ep(a b:Item):decide (ma a b<0)=before a b:=by
 simp only[ma,mI,jX,before]
 repeat' split
 all_goals simp_all
 all_goals omega
theorem Yb(a b:Item):(ma a b==0)=decide (a=b):=by
 rw[Bool.eq_iff_iff,beq_iff_eq,decide_eq_true_eq,Item.xi];simp only[ma,mI,jX]
 repeat' split
 all_goals (simp_all <;>try omega)
theorem qg{a b c:Item}(h:before a b=true)(k:before b c=true):before a c=true:=by
 simp only[before,Bool.or_eq_true,decide_eq_true_eq,zz3] at *;omega
theorem o5(a:Item):before a a=false:=by simp[before]
theorem Tl{a b:Item}(h:before a b=false):before b a=true∨a=b:=by
 rw[Item.xi];simp only[before,Bool.or_eq_false_iff,Bool.and_eq_false_iff,decide_eq_false_iff_not,Bool.or_eq_true,decide_eq_true_eq,zz3] at *;omega
theorem Er(a b:Item):decide (0≤ma a b) = !before a b:=by
 rw[←Ep];by_cases h:ma a b<0
 ·have:¬ 0≤ma a b:=by omega
  simp[h,this]
 ·have:0≤ma a b:=by omega
  simp[h,this]
theorem fN{l:List ak}{i:Nat}(h:i<l.length):l[i]=ae l i:=by simp[ae,h]
theorem kv{l:List ak}{i:Nat}(h:i<l.length)(A:af):jh A 17 (i:Int) (enc l)=some (.ref (enc (ae l i))):=by
 rw[fm 17 h rfl,fN h]
theorem fw{i n:Nat}(h:i<n):decide ((i:Int)<(n:Int))=true:=by simp;omega
theorem fP{i n:Nat}(h:¬ i<n):decide ((i:Int)<(n:Int))=false:=by simp;omega
theorem sR{n:Nat}(h:n≤9223372036854775807):IntKind.i64.wrap (n:Int)=(n:Int):=cG _ (by omega) (by omega)
theorem ea{i:Nat}(h:i<9223372036854775807):IntKind.i64.wrap ((i:Int)+1)=((i+1:Nat):Int):=by rw[cG _ (by omega) (by omega)];rfl
theorem aqB{i:Nat}(h:0<i)(h2:i<9223372036854775807):IntKind.i64.wrap ((i:Int)-1)=((i-1:Nat):Int):=by rw[cG _ (by omega) (by omega)];omega
theorem kD{l:List ak}(h:c8 l=true):l.length≤60:=by simp[c8] at h;exact h.1
theorem zw{l:List ak}(h:c8 l=true){i:Nat}(hi:i<l.length):kZ l i=true:=by
 simp only[c8,zz3,zx3,zw4] at h;exact h.2 i hi
theorem M2{l:List ak}{i:Nat}(hi:i<l.length)(h:kZ l i=false):c8 l=false:=by
 cases hk:c8 l with
 |false=>rfl
 |true=>rw[zw hk hi] at h;cases h
theorem M4{l:List ak}(hl:l.length≤60)(h:∀ i,i<l.length→kZ l i=true):c8 l=true:=by
 simp only[c8,zz3,zx3,zw4,decide_eq_true_eq];exact ⟨hl,h⟩
theorem zx{l:List ak}(h:c8 l=true){i:Nat}(hi:i<l.length):gB (ae l i)=true:=by
 have:=zw h hi;simp only[kZ,zz3] at this;exact this.1
theorem M6{l:List ak}(h:c8 l=true):∀ {j i:Nat},i<j→j<l.length→before (ae l i).bd (ae l j).bd=true
 |0,i,hij,_=>by omega
 |j+1,i,hij,hj=>by
  have h1:=zw h hj;simp only[kZ,zz3,Bool.or_eq_true,decide_eq_true_eq,Nat.add_sub_cancel] at h1;have h2:=h1.2.resolve_left (by omega);by_cases e:i=j
  ·rw[e];exact h2
  ·exact qg (M6 h (j:=j) (by omega) (by omega)) h2
theorem Mv{p:Nat→Prop}{i:Nat}(h:∀ j,j<i→p j)(hi:p i):∀ j,j<i+1→p j:=fun j hj=>by
 by_cases e:j=i
 ·exact e▸hi
 ·exact h j (by omega)
theorem rC(l:List ak):aA Tryz.prog 64 [enc l] (enc (if c8 l then (0:Int) else 41)):=by
 refine aA.bp Tryz.func64 Vw XA ZN (t7 rfl) (fun hwf W0 D0 E1 =>?_);simp only[Dv,Pu,bl];have hlen:l.length≤maxLen:=((kL l).1 hwf.1).1;simp only[maxLen] at hlen;clear hwf;refine .ar (by decide +kernel) fun K hK =>?_;simp only[Ks,ab,simprocAttr];refine .done (hK _ ?_);clear hK K;refine U.seq (U.seq ?_);refine .bx (by decide +kernel) fun K hK =>?_;simp only[Kt,ab,simprocAttr]
 try simp only[aZ,ab,simprocAttr]
 refine .done (hK _ ?_);clear hK K;try simp only[au]
 refine U.bL ?_;simp only[al,ab,simprocAttr];refine ⟨fun h =>?_,fun h =>?_⟩
 ·have R:=v6 @aO @ab
  repeat' ((first |(with_reducible refine .guard (fun hb =>?_) (fun hb =>?_) <;>try simp only[hb])|refine U.aI (by decide +kernel) rfl fun K hK =>?_|(refine .aD [0,2,3,4,7,8,9,10,11,33] hK ?_;clear hK K)|(with_reducible refine .done (hK _ ?_);clear hK K)|refine U.of rfl ?_|(with_reducible refine al.aH (fun h =>?_) (fun h =>?_) <;>try simp only[h])) <;>try simp only[aJ,R,simprocAttr])
  all_goals clear R
  have:¬ l.length≤60:=by simp at h;omega
  simp[c8,this]
 have hl6:l.length≤60:=by simp at h;omega
 refine U.skip ?_;try simp only[au,simprocAttr]
 refine U.seq (U.seq ?_);refine .bx (by decide +kernel) fun K hK =>?_;simp only[Ku,ab,simprocAttr]
 try simp only[aZ,ab,simprocAttr]
 refine .done (hK _ ?_);clear hK K;try simp only[au]
 refine U.block (U.loop (fun i:Nat=>aw [(0,enc l),(8,enc l),(9,.int .i64 l.length),(10,.int .i64 i)] []) (fun i=>i≤l.length∧∀ j,j<i→kZ l j=true) (fun i=>l.length-i) 0 ⟨by omega,fun k h=>by omega⟩ ?_ (fun i hi =>?_))
 ·refine aB.bE ?_ ?_ ?_ ?_ <;>simp[aQ,bt,br,aY,aS,I.only,bg]
 by_cases hlt:i<l.length
 ·have he:=kv hlt;have hc:=fw hlt;have hw:=ea (i:=i) (by omega);by_cases h0:i=0
  ·have hc0:decide ((0:Int)<(i:Int))=false:=by simp;omega
   have R:=v6 @he (v6 @hc (v6 @hw (v6 @hc0 (v6 @Er (v6 @aO @ab)))))
   repeat' ((first |(with_reducible refine .guard (fun hb =>?_) (fun hb =>?_) <;>try simp only[hb])|refine U.aI (by decide +kernel) rfl fun K hK =>?_|refine .flat _ (vK _) rfl ?_|refine .flat _ (vL _ _) rfl ?_|(refine .aD [0,2,3,4,7,8,9,10,11,33] hK ?_;clear hK K)|(with_reducible refine .done (hK _ ?_);clear hK K)|refine U.of rfl ?_|(with_reducible refine al.aH (fun h =>?_) (fun h =>?_) <;>try simp only[h])) <;>try simp only[aJ,R,simprocAttr])
   all_goals clear R
   all_goals first
    |(refine ⟨i+1,⟨by omega,Mv hi.2 (by simp_all[kZ])⟩,by omega,?_⟩;(refine aB.bE ?_ ?_ ?_ ?_ <;>simp[aQ,bt,br,aY,aS,I.only,bg]))
    |(rw[M2 hlt (by simp_all[kZ])];rfl)
  ·have he2:=kv (l:=l) (i:=i-1) (by omega);have hw2:=aqB (i:=i) (by omega) (by omega);have hc0:decide ((0:Int)<(i:Int))=true:=by simp;omega
   have R:=v6 @he (v6 @hc (v6 @hw (v6 @he2 (v6 @hw2 (v6 @hc0 (v6 @Er (v6 @aO @ab)))))))
   repeat' ((first |(with_reducible refine .guard (fun hb =>?_) (fun hb =>?_) <;>try simp only[hb])|refine U.aI (by decide +kernel) rfl fun K hK =>?_|refine .flat _ (vK _) rfl ?_|refine .flat _ (vL _ _) rfl ?_|(refine .aD [0,2,3,4,7,8,9,10,11,33] hK ?_;clear hK K)|(with_reducible refine .done (hK _ ?_);clear hK K)|refine U.of rfl ?_|(with_reducible refine al.aH (fun h =>?_) (fun h =>?_) <;>try simp only[h])) <;>try simp only[aJ,R,simprocAttr])
   all_goals clear R
   all_goals first
    |(refine ⟨i+1,⟨by omega,Mv hi.2 (by simp_all[kZ])⟩,by omega,?_⟩;(refine aB.bE ?_ ?_ ?_ ?_ <;>simp[aQ,bt,br,aY,aS,I.only,bg]))
    |(rw[M2 hlt (by simp_all[kZ])];rfl)
 ·have hc:=fP hlt;have R:=v6 @hc (v6 @aO @ab)
  repeat' ((first |(with_reducible refine .guard (fun hb =>?_) (fun hb =>?_) <;>try simp only[hb])|refine U.aI (by decide +kernel) rfl fun K hK =>?_|(refine .aD [0,2,3,4,7,8,9,10,11,33] hK ?_;clear hK K)|(with_reducible refine .done (hK _ ?_);clear hK K)|refine U.of rfl ?_|(with_reducible refine al.aH (fun h =>?_) (fun h =>?_) <;>try simp only[h])) <;>try simp only[aJ,R,simprocAttr])
  all_goals clear R
  rw[M4 hl6 fun j hj=>hi.2 j (by omega)];rfl
theorem yz{l:List ak}{a:Item}{i:Nat}(hi:i<l.length)(h:(ae l i).bd=a):jg l a=true:=by
 simp only[jg,List.any_eq_true,decide_eq_true_eq];exact ⟨ae l i,by rw[←fN hi];exact zx5 _,h⟩
def bK(k:Nat)(ws:List Int):List (Nat×ah):=[(k,.box (.agg (ws.map enc)))]
theorem fZ(p:Nat→Bool)(l:List Int):(I.agg (l.map enc)).only p=true:=by simp only[I.only];exact c9 p l
theorem amJ(l:List Int):(I.agg (l.map enc)).cY=true:=by simp only[I.cY];exact uu l
theorem mP{ws:List Int} : ∀ m,aq (bK 1000000 ws) m=true→1000000≤m:=fun m hm=>by rw[cz.1 hm];exact zz7 _
def lq(ws:List Int)(i j:Nat):List Int:=(ws.set i (ws.getD j 0)).set j (ws.getD i 0)
theorem QW{A B C:List Int}{x y:Int}{i j:Nat}(hi:A.length=i)(hj:A.length+1+B.length=j):lq (A++x::B++y::C) i j=A++y::B++x::C:=by
 subst hi hj;have e1:(A++x::B++y::C).getD A.length 0=x:=by simp[zz0,zz5]
 have e2:(A++x::B++y::C).getD (A.length+1+B.length) 0=y:=by
  rw[zz0,zw0 (by simp;omega)];simp[];have:A.length+1+B.length-(A.length+(B.length+1))=0:=by omega
  rw[this];rfl
 simp only[lq,e1,e2];rw[zz5,List.set_append_right _ _ (zz7 _),Nat.sub_self,zz9,List.set_cons_zero];rw[List.set_append_right _ _ (by omega)];have:A.length+1+B.length-A.length=(B.length)+1:=by omega
 rw[this,List.set_cons_succ,List.set_append_right _ _ (zz7 _),Nat.sub_self,List.set_cons_zero];simp
theorem il{n i:Nat}(h:i<n)(fs:List I):lK 1000000 [] 1 0 n 1 (i:Int) (some fs)=some (.ptr 1000000 [i]):=by
 have:=uo (m:=1000000) (sz:=1) (lo:=0) (l:=n) (i:=i) (fs:=fs) h
 rwa [zz4] at this
theorem kN(x y:Nat)(h:x+y<9223372036854775807):IntKind.i64.wrap ((x:Int)+(y:Int))=((x+y:Nat):Int):=by rw[cG _ (by omega) (by omega)];omega
theorem jq{x y:Nat}(h:y≤x)(hx:x<9223372036854775807):IntKind.i64.wrap ((x:Int)-(y:Int))=((x-y:Nat):Int):=by rw[cG _ (by omega) (by omega)];omega
def kI(p x y z q:List Int)(i:Nat):List Int:=p++(z.take i++x.drop i)++y++(x.take i++z.drop i)++q
theorem aqe{p x y z q:List Int}{i a b:Nat}(hx:i<x.length)(hz:z.length=x.length)(ha:p.length=a)(hb:a+x.length+y.length=b):lq (kI p x y z q i) (a+i) (b+i)=kI p x y z q (i+1):=by
 have e1:kI p x y z q i=(p++z.take i)++x[i]::(x.drop (i+1)++y++x.take i)++z[i]::(z.drop (i+1)++q):=by
  simp only[kI];rw[zv8 hx,zv8 (l:=z) (by omega)];simp only[zz5,zz9]
 have e2:kI p x y z q (i+1)=(p++z.take i)++z[i]::(x.drop (i+1)++y++x.take i)++x[i]::(z.drop (i+1)++q):=by
  simp only[kI];rw[zz8 hx,zz8 (l:=z) (by omega)];simp only[zz5,zz9,zy3]
 rw[e1,e2];refine QW ?_ ?_
 ·simp;omega
 ·simp;omega
theorem aqd(p x y z q:List Int)(i:Nat)(hz:z.length=x.length)(hi:i≤x.length):(kI p x y z q i).length=p.length+x.length+y.length+x.length+q.length:=by
 simp only[kI,zz2,zy4,zy8];omega
def Ad(ws:List Int):cO:=fun r os'=>r=.tuple []∧os'=bK 1000000 ws
theorem oL{ts:List (Nat×I)}{ws ws':List Int}{os:List (Nat×ah)}{post:cO}(hl:ao os 1000000=some (.box (.agg (ws.map enc))))(he:ws=ws')(hp:post (.tuple []) (bK 1000000 ws')):lY [] post (aw ts os):=by
 subst he;exact ⟨bK 1000000 ws,[],iE hl (fun p=>fZ p _),trivial,hp⟩
theorem vS(p x y z q:List Int)(a b n k:Nat)(f:I)(hz:z.length=x.length)(ha:p.length=a)(hb:a+x.length+y.length=b)(hk:x.length=k)(hn:b+k≤n)(hN:n≤1000) :
  cF Tryz.prog 216 [.view 1000000 [] 1 0 n,enc (a:Int),enc (b:Int),enc (k:Int),f] (bK 1000000 (p++x++y++z++q)) (Ad (p++z++y++x++q)):=by
 refine cF.bp Tryz.func216 Vd Xh Zu (t7 rfl) (t7 rfl) mP (fun hwf W0 D0 E1 =>?_);simp only[Db,Pa,bl,zz4,Nat.reduceAdd];clear hwf;refine .ar (by decide +kernel) fun K hK =>?_;simp only[JR,ab,simprocAttr];refine .done (hK _ ?_);clear hK K;refine U.block (U.loop (fun i:Nat=>aw [(0,.view 1000000 [] 1 0 n),(1,.int .i64 a),(2,.int .i64 b),(3,.int .i64 k),(10,.int .i64 i)] (bK 1000000 (kI p x y z q i))) (fun i=>i≤k) (fun i=>k-i) 0 (by omega) ?_ (fun i hi =>?_))
 ·have e:kI p x y z q 0=p++x++y++z++q:=by simp[kI]
  rw[e];simp only[bK];refine aB.bE ?_ ?_ ?_ ?_ <;>simp[aQ,bt,br,aY,aq,aS,bT,I.only,ah.only,c9,fI]
 by_cases hlt:i<k
 ·have hc:=fw hlt;have hw:=ea (i:=i) (by omega);have w1:=kN a i (by omega);have w2:=kN b i (by omega);have hst:=aqe (p:=p) (q:=q) (i:=i) (by omega) hz ha hb;have hl:=aqd p x y z q i hz (by omega);simp only[bK];generalize kI p x y z q i=ws at hst hl;have v1:=il (n:=n) (i:=a+i) (by omega);have v2:=il (n:=n) (i:=b+i) (by omega);have l1:=fV (xs:=ws) (i:=a+i) (by omega);have l2:=fV (xs:=ws) (i:=b+i) (by omega);have s1:=fun (A:af) v u rest=>mV (A:=A) (n:=1000000) (xs:=ws) (i:=a+i) (by omega) v u rest;obtain ⟨ws2,hws2⟩:∃ ws2,ws2=ws.set (a+i) (ws.getD (b+i) 0):=⟨_,rfl⟩
  have s2:=fun (A:af) v u rest=>mV (A:=A) (n:=1000000) (xs:=ws2) (i:=b+i) (by rw[hws2];simp;omega) v u rest;have l3:=fV (xs:=ws2) (i:=b+i) (by rw[hws2];simp;omega);have R:=v6 @hc (v6 @hw (v6 @w1 (v6 @w2 (v6 @v1 (v6 @v2 (v6 @l1 (v6 @l2 (v6 @s1 (v6 @s2 (v6 @l3 (v6 @cL (v6 @aO @ab))))))))))))
  repeat' ((first |refine U.aI (by decide +kernel) rfl fun K hK =>?_|(refine .aD [0,1,2,3,10,13] hK ?_;clear hK K)|(with_reducible refine .done (hK _ ?_);clear hK K)|refine U.of rfl ?_|(with_reducible refine al.aH (fun h =>?_) (fun h =>?_) <;>try simp only[h])) <;>try simp only[aJ,R,←hws2,simprocAttr])
  all_goals clear R
  refine ⟨i+1,by omega,by omega,?_⟩;rw[←hst];simp only[lq,←hws2];generalize ws2.set _ _=ws3;refine aB.bE ?_ ?_ ?_ ?_ <;>simp[aQ,bt,br,aY,aq,aS,bT,I.only,ah.only,c9]
 ·have hc:=fP hlt;have he:i=k:=by omega
  subst he;have R:=v6 @hc (v6 @aO @ab)
  repeat' ((first |refine U.aI (by decide +kernel) rfl fun K hK =>?_|(refine .aD [0,1,2,3,10,13] hK ?_;clear hK K)|(with_reducible refine .done (hK _ ?_);clear hK K)|refine U.of rfl ?_|(with_reducible refine al.aH (fun h =>?_) (fun h =>?_) <;>try simp only[h])) <;>try simp only[aJ,R,simprocAttr])
  all_goals clear R
  rw[mN];refine oL rfl ?_ ⟨rfl,rfl⟩;have h1:z.take i=z:=zv6 (by omega);have h2:x.take i=x:=zv6 (by omega);have h3:z.drop i=[]:=zw9 (by omega);have h4:x.drop i=[]:=zw9 (by omega);simp only[kI,h1,h2,h3,h4,zx6]
end Go.Proofs.YtcldiigclhgafaaGreat
namespace Go.Proofs.YtcldiigclhgafaaGreat
open Go Go.Abs Go.Shelf
open Go.Abs.Enc (enc)
def amu:Go.Shelf.Ren:=⟨fun | 189=>107 | 125=>148 | 257=>147 | 128=>188 | 129=>189 | 294=>179 | 295=>180 | 296=>181 | 297=>182 | 298=>183 | 299=>184 | 216=>185 | 300=>186 | 301=>187 | 328=>205 | 329=>206 | 330=>207 | 331=>208 | 332=>209 | 215=>194 | 343=>214 | n=>n,fun | 28=>29 | 3=>3 | 46=>193 | 0=>0 | 51=>217 | 53=>219 | 4=>4 | 183=>210 | 182=>209 | 131=>150 | 5=>5 | 9=>9 | 218=>230 | 222=>234 | 228=>236 | 229=>237 | n=>n,fun | n=>n⟩
theorem Mf:Go.Proofs.Lays.n189 Tryz.prog amu := {
 mixed:=by kernel_rfl
 f125:=Tryz.func148.trans (congrArg some (by kernel_rfl))
 f128:=Tryz.func188.trans (congrArg some (by kernel_rfl))
 f129:=Tryz.func189.trans (congrArg some (by kernel_rfl))
 f189:=Tryz.func107.trans (congrArg some (by kernel_rfl))
 f215:=Tryz.func194.trans (congrArg some (by kernel_rfl))
 f216:=Tryz.func185.trans (congrArg some (by kernel_rfl))
 f257:=Tryz.func147.trans (congrArg some (by kernel_rfl))
 f294:=Tryz.func179.trans (congrArg some (by kernel_rfl))
 f295:=Tryz.func180.trans (congrArg some (by kernel_rfl))
 f296:=Tryz.func181.trans (congrArg some (by kernel_rfl))
 f297:=Tryz.func182.trans (congrArg some (by kernel_rfl))
 f298:=Tryz.func183.trans (congrArg some (by kernel_rfl))
 f299:=Tryz.func184.trans (congrArg some (by kernel_rfl))
 f300:=Tryz.func186.trans (congrArg some (by kernel_rfl))
 f301:=Tryz.func187.trans (congrArg some (by kernel_rfl))
 f328:=Tryz.func205.trans (congrArg some (by kernel_rfl))
 f329:=Tryz.func206.trans (congrArg some (by kernel_rfl))
 f330:=Tryz.func207.trans (congrArg some (by kernel_rfl))
 f331:=Tryz.func208.trans (congrArg some (by kernel_rfl))
 f332:=Tryz.func209.trans (congrArg some (by kernel_rfl))
 f343:=Tryz.func214.trans (congrArg some (by kernel_rfl))
 t0:=Tryz.underlying0
 a0:=Tryz.isAgg0
 z0:=Tryz.sizeOf0
 v0:=Tryz.zeroValue0
 t3:=Tryz.underlying3
 a3:=Tryz.isAgg3
 z3:=Tryz.sizeOf3
 v3:=Tryz.zeroValue3
 t4:=Tryz.underlying4
 a4:=Tryz.isAgg4
 z4:=Tryz.sizeOf4
 v4:=Tryz.zeroValue4
 t5:=Tryz.underlying5
 a5:=Tryz.isAgg5
 z5:=Tryz.sizeOf5
 v5:=Tryz.zeroValue5
 t9:=Tryz.underlying9
 a9:=Tryz.isAgg9
 z9:=Tryz.sizeOf9
 v9:=Tryz.zeroValue9
 t28:=Tryz.underlying29
 a28:=Tryz.isAgg29
 z28:=Tryz.sizeOf29
 v28:=Tryz.zeroValue29
 t46:=Tryz.underlying193
 a46:=Tryz.isAgg193
 z46:=Tryz.sizeOf193
 v46:=Tryz.zeroValue193
 t51:=Tryz.underlying217
 a51:=Tryz.isAgg217
 z51:=Tryz.sizeOf217
 v51:=Tryz.zeroValue217
 t53:=Tryz.underlying219
 a53:=Tryz.isAgg219
 z53:=Tryz.sizeOf219
 v53:=Tryz.zeroValue219
 t131:=Tryz.underlying150
 a131:=Tryz.isAgg150
 z131:=Tryz.sizeOf150
 v131:=Tryz.zeroValue150
 t182:=Tryz.underlying209
 a182:=Tryz.isAgg209
 z182:=Tryz.sizeOf209
 v182:=Tryz.zeroValue209
 t183:=Tryz.underlying210
 a183:=Tryz.isAgg210
 z183:=Tryz.sizeOf210
 v183:=Tryz.zeroValue210
 t218:=Tryz.underlying230
 a218:=Tryz.isAgg230
 z218:=Tryz.sizeOf230
 v218:=Tryz.zeroValue230
 t222:=Tryz.underlying234
 a222:=Tryz.isAgg234
 z222:=Tryz.sizeOf234
 v222:=Tryz.zeroValue234
 t228:=Tryz.underlying236
 a228:=Tryz.isAgg236
 z228:=Tryz.sizeOf236
 v228:=Tryz.zeroValue236
 t229:=Tryz.underlying237
 a229:=Tryz.isAgg237
 z229:=Tryz.sizeOf237
 v229:=Tryz.zeroValue237 }
def cS(xs:List Int):List Int:=xs.mergeSort fun x y=>decide (x≤y)
theorem PV{w:World}{D:aW}{E:a8} : ∀ {xs:List Int} {cs:List Value},aL w D E (xs.map enc) cs→cs=xs.map (Value.int .i64)∧∀ x∈xs,IntKind.i64.min≤x∧x≤IntKind.i64.max
 | [],cs,h=>by
  simp only[zx1,aL] at h;subst h;exact ⟨rfl,by simp⟩
 |x::xs,cs,h=>by
  simp only[zy2,aL] at h;obtain ⟨c1,c2,rfl,h1,h2⟩:=h;obtain ⟨rfl,h3⟩:=PV h2;have h1':c1=[.int .i64 x]∧IntKind.i64.min≤x∧x≤IntKind.i64.max:=h1;obtain ⟨rfl,h4⟩:=h1';refine ⟨rfl,fun y hy =>?_⟩;rcases zx2.1 hy with rfl | hy
  ·exact h4
  ·exact h3 y hy
theorem qY{w:World}{D:aW}{E:a8} : ∀ {xs:List Int},(∀ x∈xs,IntKind.i64.min≤x∧x≤IntKind.i64.max)→aL w D E (xs.map enc) (xs.map (Value.int .i64))
 | [],_=>rfl
 |x::xs,h=>⟨[.int .i64 x],xs.map (Value.int .i64),rfl,⟨rfl,h x (by simp)⟩,qY fun y hy=>h y (by simp[hy])⟩
theorem rf(xs:List Int):(I.agg (xs.map enc)).aV=.ez (List.replicate xs.length .one):=by
 show c5.ez (I.cT _)=_
 congr 1
 induction xs with
 |nil=>rfl
 |cons x xs ih=>simp only[zy2,I.cT,ih,zu5,List.replicate_succ];rfl
theorem ao3{xs ys q:List Int}(hl:ys.length=xs.length){cs:Array Value}(hc:cs.toList=(xs++q).map (Value.int .i64)):(Sort.putCells (Value.int .i64) 0 ys.toArray cs).toList=(ys++q).map (Value.int .i64):=by
 apply List.ext_getElem?;intro k;have h1:cs[k]?=((xs++q).map (Value.int .i64))[k]?:=by rw[←hc,zu1]
 rw[zu1,Sort.putCells,Array.getElem?_mapIdx,h1];simp only[zw8,List.size_toArray,zw3,true_and,zz4,Nat.sub_zero];by_cases hk:k<ys.length
 ·simp only[hk,if_true];rw[zy9 (by omega),zy9 hk,zy0 (by omega),zy0 hk];simp[hk]
 ·simp only[hk,if_false];rw[zw0 (by omega),zw0 (by omega),hl];cases (q[k-xs.length]?) <;>rfl
open Go.Sort Go.RowKit in
theorem vJ(xs q:List Int)(hn:xs.length≤200):cF Tryz.prog 107 [.view 1000000 [] 1 0 xs.length] (bK 1000000 (xs++q)) (Ad (cS xs++q)):=by
 refine ⟨DU,fun w D E vs _ hD hO hv =>?_⟩;have ho:=hO.bQ 1000000;simp only[bK,ao,if_true] at ho;obtain ⟨b,cs,T,az,-,hb,hr,hnD⟩:=ho;have hEn:∀ n,n≠1000000→E n=none:=fun n hn=>by
  have:=hO.bQ n;simpa only[bK,ao,if_neg hn,df] using this
 simp only[aK] at hv;obtain ⟨v,rest,cs',rfl,hp,hr',rfl⟩:=hv;obtain ⟨b',aV,off,l,hE',hoff,hpart,rfl,hl1,hl2,hl3⟩:=hr';rw[az] at hE';simp only[u8,bZ.aC.injEq] at hE';obtain ⟨rfl,rfl⟩:=hE';have hoff':off=0:=by
  have:(some 0:Option Nat)=some off:=by rw[←hoff];rw[rf];rfl
  injection this with this;exact this.symm
 subst hoff';have hp':v=.slice (some ⟨b,0,none⟩) xs.length (l.length-0):=by
  have:[Value.slice (some ⟨b,0+0*1,none⟩) xs.length (l.length-0)]=[v]:=hp;simpa using this.symm
 subst hp';obtain ⟨hcs,hrg⟩:=PV hr;have hbs:b<w.heap.size:=(zx9.1 hb).1;have hH:Holds (Value.int .i64) w b 0 xs.toArray:=fun j hj=>by
  simp only[List.size_toArray] at hj;constructor
  ·simp only[World.cell?,hb,Option.isSome_none,zz6,if_false,zz4];rw[←zu1,hcs];rw[zx4,zy9 (by simpa using hj)];simp[hj]
  ·simp[World.frozen?,hb]
 have hlen:(cS xs).length=xs.length:=by simp[cS]
 refine (Any.slices_Sort_int Mf b 0 (l.length-0) xs w hH hbs (by omega)).mono ?_;rintro e w' ⟨rfl,n,os,rfl⟩;have hb1:(putRow (Value.int .i64) (Sort.ahead w n) b 0 (cS xs).toArray).heap[b]?=some (.cells (putCells (Value.int .i64) 0 (cS xs).toArray cs) T (0,0)):=by
  simp[putRow,mapBlock,Sort.ahead,Array.getElem?_modify,hb,onCells]
 have hother:∀ k,k<w.heap.size→k≠b→(grow (putRow (Value.int .i64) (Sort.ahead w n) b 0 (cS xs).toArray) os).heap[k]?=w.heap[k]?:=fun k hk hkb=>by
  rw[heap_grow_old _ _ (by simpa[Sort.ahead] using hk)];simp[putRow,mapBlock,Sort.ahead,Array.getElem?_modify,Ne.symm hkb]
 have hb2:(grow (putRow (Value.int .i64) (Sort.ahead w n) b 0 (cS xs).toArray) os).heap[b]?=some (.cells (putCells (Value.int .i64) 0 (cS xs).toArray cs) T (0,0)):=by
  rw[heap_grow_old _ _ (by simpa[Sort.ahead] using hbs)];exact hb1
 have hsz:w.heap.size≤(grow (putRow (Value.int .i64) (Sort.ahead w n) b 0 (cS xs).toArray) os).heap.size:=by simp[Sort.ahead]
 have hshow:(grow (putRow (Value.int .i64) (Sort.ahead w n) b 0 (xs.mergeSort fun x y=>decide (x≤y)).toArray) os)=(grow (putRow (Value.int .i64) (Sort.ahead w n) b 0 (cS xs).toArray) os):=rfl;rw[hshow];have hw1:(grow (putRow (Value.int .i64) (Sort.ahead w n) b 0 (cS xs).toArray) os).os=w.os:=rfl;have hw2:(grow (putRow (Value.int .i64) (Sort.ahead w n) b 0 (cS xs).toArray) os).tape=w.tape:=rfl;have hw3:(grow (putRow (Value.int .i64) (Sort.ahead w n) b 0 (cS xs).toArray) os).output=w.output:=rfl;revert hother hb2 hsz hw1 hw2 hw3;generalize grow (putRow (Value.int .i64) (Sort.ahead w n) b 0 (cS xs).toArray) os=w2;intro hother hb2 hsz hw1 hw2 hw3;have hmem:∀ x∈cS xs++q,IntKind.i64.min≤x∧x≤IntKind.i64.max:=fun x hx=>hrg x (by
  rcases zy5.1 hx with h | h
  ·exact List.mem_append_left _ (by simpa[cS] using h)
  ·exact List.mem_append_right _ h)
 refine ⟨.tuple #[],D,E,.tuple [],bK 1000000 (cS xs++q),rfl,⟨rfl,rfl⟩,⟨[],rfl,rfl⟩,⟨fun m =>?_,hO.da⟩,⟨hw1,hw2,hw3,hsz,fun k hk =>?_⟩,fun _ _ h=>h,fun b0 o h=>Nat.lt_of_lt_of_le (hD b0 o h) hsz,fun _ _ h _ _=>h,fun m e h _=>⟨e,h,bZ.le.refl e⟩,⟨fun b0 o u hd hc =>?_,fun b0 es ck hd hc =>?_⟩⟩
 ·by_cases hm:m=1000000
  ·subst hm;simp only[bK,ao,if_true];refine ⟨b,_,T,?_,.inr ⟨1000000,_,az,rfl⟩,hb2,?_,hnD⟩
   ·rw[az,rf,rf,zz2,zz2,hlen]
   ·show aL w2 D E _ _
    rw[ao3 hlen hcs];exact qY hmem
  ·simp only[bK,ao,if_neg hm,df];exact hEn m hm
 ·by_cases hk2:k<w.heap.size
  ·exact hother k hk2 fun e=>hk (.inr ⟨1000000,_,az,by rw[e];rfl⟩)
  ·exact absurd (.inl (Nat.le_of_not_lt hk2)) hk
 ·have hne:b0≠b:=fun e=>hnD o (e▸hd);simp only[World.cell?,hother b0 (hD b0 o hd) hne] at hc ⊢;exact hc
 ·have hne:b0≠b:=fun e=>hnD 0 (e▸hd);rw[hother b0 (hD b0 0 hd) hne];exact hc
theorem AR(v:I)(hv0:v=.nils 1∨v=enc ([]:List Int)):aA Tryz.prog 107 [v] (.tuple []):=by
 refine ⟨DU,fun w D vs hD hv =>?_⟩;simp only[aK] at hv;obtain ⟨u,rest,cs',rfl,hp,hr',rfl⟩:=hv;have hu:∃ a cap,u=.slice a 0 cap:=by
  rcases hv0 with rfl | rfl
  ·have h1:cs'=[.slice none 0 0]:=hr';have h2:cs'=[u]:=hp;rw[h1] at h2;exact ⟨none,0,by simpa using h2.symm⟩
  ·obtain ⟨a,cap,h1,_⟩:=hr';have h2:cs'=[u]:=hp;rw[h1] at h2;exact ⟨a,cap,by simpa using h2.symm⟩
 obtain ⟨a,cap,rfl⟩:=hu;refine (Any.slices_Sort_int_none Mf a cap w).mono ?_;rintro e w' ⟨rfl,rfl⟩;exact ⟨.tuple #[],D,rfl,⟨[],rfl,rfl⟩,⟨rfl,rfl,rfl,zz7 _,fun _ _=>rfl⟩,hD,fun _ _ h _=>h⟩
end Go.Proofs.YtcldiigclhgafaaGreat
namespace Go.Proofs.YtcldiigclhgafaaGreat
open Go Go.Abs
open Go.Abs.Enc (enc)
theorem ug{os os2 ow:List (Nat×ah)}{ts:List (Nat×I)}(h:fJ os os2)(how:∀ m,aq ow m=true→m<1000000):∀ n x,ao os2 n=some x→(aw ts (ow++os2)).o n=some x∧x.only (aq os2)=true∧x.eZ=true:=fun n x hx=>by
 have hn:aq os2 n=true:=by simp[aq,hx]
 have hg:=h.ph n (by rw[←h.same];exact hn);refine ⟨?_,h.ok n x hx⟩;simp only[aw,kW];cases hw:ao ow n with
 |none=>exact hx
 |some y=>have:=how n (by simp[aq,hw]);omega
def AN:aX 5 Int:=⟨List.replicate 5 0,rfl⟩
theorem abL:I.agg [.int .i64 0,.int .i64 0,.int .i64 0,.int .i64 0,.int .i64 0]=enc AN:=rfl
def kP(a b:Int):Int:=IntKind.i64.wrap ((BitVec.ofInt IntKind.i64.bits a ||| BitVec.ofInt IntKind.i64.bits b).toNat:Int)
def vD(c:List Int)(k:Nat)(x:aX 5 Int):aX 5 Int :=
 if bd c k%12<5 then iA (iA x k (shl 1 k)) k (kP ((iA x k (shl 1 k)).g k) (shl 1 (bd c k%12).toNat)) else iA x k (shl 1 k)
def gn(c:List Int):Nat→aX 5 Int
 |0=>AN
 |k+1=>vD c k (gn c k)
theorem Sr(c:List Int)(hc:c.length≤4611686018427387904):aA Tryz.prog 85 [enc c] (enc (gn c 5)):=by
 refine aA.bp Tryz.func85 VJ XN Z0 (t7 rfl) (fun hwf W0 D0 E1 =>?_);simp only[DK,PH,bl];refine .ar (by decide +kernel) fun K hK =>?_;simp only[KO,ab,simprocAttr];refine .done (hK _ ?_);clear hK K;refine .ar (by decide +kernel) fun K hK =>?_;simp only[KP,ab,simprocAttr];simp only[abL];refine .done (hK _ ?_);clear hK K;refine U.seq (U.seq ?_);refine .bx (by decide +kernel) fun K hK =>?_;simp only[KQ,ab,simprocAttr];refine .done (hK _ ?_);clear hK K;try simp only[au]
 refine U.block (U.loop (fun k:Nat=>aw [(0,enc c),(2,.ptr 2 []),(3,.ptr 3 []),(4,.int .i64 k)] [(2,.box (enc AN)),(3,.box (enc (gn c k)))]) (fun k=>k≤5) (fun k=>5-k) 0 (by omega) ?_ (fun k hk =>?_))
 ·refine aB.bE ?_ ?_ ?_ ?_ <;>simp[aQ,bt,br,aY,aq,aS,bT,I.only,ah.only,bg]
  all_goals rfl
 refine U.seq (U.seq ?_);refine .bx (by decide +kernel) fun K hK =>?_;simp only[KR,ab,simprocAttr];refine .done (hK _ ?_);clear hK K;try simp only[au]
 refine U.bL ?_;simp only[al,ab,simprocAttr];refine ⟨fun h =>?_,fun h =>?_⟩
 ·have hlt:k<5:=by simp at h;omega
  refine U.skip ?_;try simp only[au,simprocAttr]
  refine U.seq (U.block ?_);refine .ar (by decide +kernel) fun K hK =>?_;simp only[KS,ab,simprocAttr]
  try simp only[aZ,jZ 1 (gn c k) hlt rfl,eL (gn c k) hlt,pU (gn c k) hlt,ab,simprocAttr]
  refine .done (hK _ ?_);clear hK K;refine .ar (by decide +kernel) fun K hK =>?_;simp only[KT,ab,simprocAttr]
  try simp only[cN,ab,simprocAttr]
  refine .flat _ (m0 c k hc) rfl ?_
  try simp only[ab,simprocAttr]
  refine .flat _ (gQ (bd c k) 12 (by omega) (by omega)) rfl ?_
  try simp only[ab,simprocAttr]
  refine .done (hK _ ?_);clear hK K;refine .ar (by decide +kernel) fun K hK =>?_;simp only[KU,ab,simprocAttr];refine .done (hK _ ?_);clear hK K;have h0:0≤bd c k%12:=zv1 _ (by omega);refine U.bL ?_;simp only[al,ab,simprocAttr];refine ⟨fun h =>?_,fun h =>?_⟩
  ·have h5:bd c k%12<5:=by simpa using h
   have e1:IntKind.i64.wrap (1*2^min k IntKind.i64.bits)=shl 1 k:=rfl;refine .bx (by decide +kernel) fun K hK =>?_;simp only[KV,ab,simprocAttr]
   try simp only[e1,aZ,jZ 1 (iA (gn c k) k (shl 1 k)) hlt rfl,eL (iA (gn c k) k (shl 1 k)) hlt,h0,ab,simprocAttr]
   try simp only[pU (iA (gn c k) k (shl 1 k)) hlt,ab,simprocAttr]
   refine .done (hK _ ?_);clear hK K;try simp only[au,bP]
   refine .bx (by decide +kernel) fun K hK =>?_;simp only[yc,ab,simprocAttr];refine .done (hK _ ?_);clear hK K;try simp only[au]
   refine ⟨k+1,by omega,by omega,?_⟩;rw[cG _ (by omega) (by omega)];simp only[gn,vD,if_pos h5];refine aB.bE ?_ ?_ ?_ ?_ <;>simp[aQ,bt,br,aY,aq,aS,bT,I.only,ah.only,bg]
   all_goals simp[kP,shl]
  ·have h5:¬ bd c k%12<5:=by simpa using h
   refine U.skip ?_;try simp only[au,bP,simprocAttr]
   refine .bx (by decide +kernel) fun K hK =>?_;simp only[yc,ab,simprocAttr];refine .done (hK _ ?_);clear hK K;try simp only[au]
   refine ⟨k+1,by omega,by omega,?_⟩;rw[cG _ (by omega) (by omega)];simp only[gn,vD,if_neg h5];refine aB.bE ?_ ?_ ?_ ?_ <;>simp[aQ,bt,br,aY,aq,aS,bT,I.only,ah.only,bg]
   all_goals simp[shl]
 ·have hge:k=5:=by simp at h;omega
  subst hge;refine U.exit ?_;try simp only[au,bP,simprocAttr]
  refine .ar (by decide +kernel) fun K hK =>?_;simp only[KW,ab,simprocAttr]
  try simp only[cI,ab,simprocAttr]
  rw[eG (du _) (by rw[fW];rfl) ((eT _).trans (eT _).symm)]
  try simp only[ab,simprocAttr]
  refine .done (hK _ ?_);clear hK K;refine U.ret ?_;simp only[ab,simprocAttr]
  try simp only[cI,cN,ab,simprocAttr]
def lD(k:Nat):Nat→Int
 |0=>((k / 5 / 5 / 5 / 5 / 5%5:Nat):Int)
 |1=>((k / 5 / 5 / 5 / 5%5:Nat):Int)
 |2=>((k / 5 / 5 / 5%5:Nat):Int)
 |3=>((k / 5 / 5%5:Nat):Int)
 |4=>((k / 5%5:Nat):Int)
 |5=>((k%5:Nat):Int)
 |_=>0
def tz(k:Nat):aX 6 Int:=⟨[lD k 0,lD k 1,lD k 2,lD k 3,lD k 4,lD k 5],rfl⟩
theorem abe(k i:Nat):0≤lD k i∧lD k i≤4:=by
 unfold lD;split <;>omega
theorem Te{n:Nat}{x y:aX n Int}(h:x.l=y.l):x=y:=by
 cases x;cases y;simp only at h;subst h;rfl
theorem aoj(k:Nat):ee (tz k)=true:=by
 simp only[ee,zx3,zw4];intro i hi;have:(tz k).g i=lD k i:=by
  match i,hi with
  |0,_ | 1,_ | 2,_ | 3,_ | 4,_ | 5,_=>rfl
  |n+6,h=>exact absurd h (by omega)
 rw[this];have:=abe k i;simp[b7,this.1,this.2]
theorem rl{A:af}{n:Nat}{b:I}{v u:aX 6 Int}{rest:List aE} : dT A (some 6) n [] b (enc v) rest (some (enc u))=aF rest (A.aU n (.box (enc v))):=by
 rw[eG (du _) (by rw[fW];rfl) ((eT _).trans (eT _).symm),fT]
theorem ap5{A:af}{n:Nat}{b:I}{v u:cu}{rest:List aE} : dT A (some 7) n [] b (enc v) rest (some (enc u))=aF rest (A.aU n (.box (enc v))):=by
 rw[eG (du _) (by rw[fW];rfl) ((eT _).trans (eT _).symm),fT]
theorem Q5:∀ k j:Fin 5,(0≤shl 1 k.1∧shl 1 k.1≤31∧iB (shl 1 k.1) k.1=true)∧(0≤kP (shl 1 k.1) (shl 1 j.1)∧kP (shl 1 k.1) (shl 1 j.1)≤31∧iB (kP (shl 1 k.1) (shl 1 j.1)) k.1=true):=by decide +kernel
theorem Q6(c:List Int):∀ n,n≤5→∀ j,j<n→0≤(gn c n).g j∧(gn c n).g j≤31∧iB ((gn c n).g j) j=true
 |0,_=>fun j h=>absurd h (by omega)
 |n+1,hn=>fun j hj=>by
  have ih:=Q6 c n (by omega);have hn5:n<5:=by omega
  simp only[gn,vD];have h0:0≤bd c n%12:=zv1 _ (by decide);split
  ·rename_i h12;rw[pg _ _ _ _ hn5];split
   ·rename_i e;subst e;rw[pg _ _ _ _ hn5,if_pos rfl];exact (Q5 ⟨n,hn5⟩ ⟨(bd c n%12).toNat,by omega⟩).2
   ·rw[pg _ _ _ _ hn5,if_neg (by assumption)];exact ih j (by omega)
  ·rw[pg _ _ _ _ hn5];split
   ·rename_i e;subst e;exact (Q5 ⟨n,hn5⟩ ⟨0,by decide⟩).1
   ·exact ih j (by omega)
theorem aom(c:List Int):iK (gn c 5)=true:=by
 simp only[iK,zx3,zw4,zz3];intro k hk;obtain ⟨h1,h2,h3⟩:=Q6 c 5 (zz7 _) k hk;simp[b7,h1,h2,h3]
theorem ana(k:Nat):iH (k:Int) 1=((k / 5:Nat):Int)∧iH (k:Int) 2=((k / 5 / 5:Nat):Int)∧iH (k:Int) 3=((k / 5 / 5 / 5:Nat):Int)∧iH (k:Int) 4=((k / 5 / 5 / 5 / 5:Nat):Int)∧iH (k:Int) 5=((k / 5 / 5 / 5 / 5 / 5:Nat):Int):=by
 have h:∀ n:Nat,(n:Int).tdiv 5=((n / 5:Nat):Int):=fun n=>Int.ofNat_tdiv n 5;simp only[iH,h,and_self]
theorem abf(k:Nat):kQ (k:Int) 6=tz k:=by
 obtain ⟨h1,h2,h3,h4,h5⟩:=ana k;have h:∀ n:Nat,(n:Int).tmod 5=((n%5:Nat):Int):=fun n=>Int.ofNat_tmod n 5;have h0:iH (k:Int) 0=k:=rfl;refine Te ?_;simp only[kQ,iA,tz,lD,h0,h1,h2,h3,h4,h5,h];rfl
theorem Nd(n:Int):ee (kQ (n%15625) 6)=true:=by
 have h0:0≤n%15625:=zv1 _ (by decide);have e:n%15625=(((n%15625).toNat:Nat):Int):=by omega
 rw[e,abf];exact aoj _
theorem apJ:∀ k:Fin 5,1≤shl 1 k.1∧shl 1 k.1≤31:=by decide +kernel
theorem M0{m:bY}{i:Nat} : iu m i=true↔(1≤(dc m i).bU∧(dc m i).bU≤99)∧ee (dc m i).mark=true∧(i=0∨(dc m (i-1)).bU<(dc m i).bU)∧∀ j,j<i→kJ m (dc m j).mark (dc m i).mark=false:=by
 simp only[iu,b7,zz3,Bool.or_eq_true,decide_eq_true_eq,beq_iff_eq,zx3,zw4,Bool.not_eq_true']
theorem qB{w:aX 5 Int}{f:Int}{l:List cu}{g:cu}{i:Nat}(h:i<l.length):dc ⟨w,f,l++[g]⟩ i=dc ⟨w,f,l⟩ i:=by
 simp only[dc,zz0,zy9 h]
theorem LM{w:aX 5 Int}{f:Int}{l:List cu}{g:cu} : dc ⟨w,f,l++[g]⟩ l.length=g:=by
 simp[dc,zz0]
def mE(c:List Int)(i:Nat)(o:Int):cu:=⟨o,kQ (IntKind.i64.wrap (IntKind.i64.wrap (c.getD i 0*7)+i*2503)%15625) 6⟩
def sj(c:List Int)(i:Nat)(p:Int×List cu):Int×List cu :=
 (p.1+(1+c.getD i 0%4),if p.2.any (fun h=>kJ ⟨gn c 5,bd c 5%2,p.2⟩ h.mark (mE c i 0).mark) then p.2 else p.2++[mE c i (p.1+(1+c.getD i 0%4))])
def de(c:List Int):Nat→Int×List cu
 |0=>(0,[])
 |i+1=>if i<c.length∧(de c i).2.length<9 then sj c i (de c i) else de c i
def ky(c:List Int)(n:Nat):bY:=⟨gn c 5,bd c 5%2,(de c n).2⟩
def nv(c:List Int):bY:=ky c 12
theorem Mx{c:List Int}{i:Nat}(h:¬ (i<c.length∧(de c i).2.length<9)):∀ n,i≤n→de c n=de c i
 |0,hn=>by
   have:i=0:=by omega
   subst this;rfl
 |n+1,hn=>by
  by_cases e:i=n+1
  ·subst e;rfl
  ·have ih:=Mx h n (by omega);simp only[de,ih];rw[if_neg];intro hh;exact h ⟨by omega,hh.2⟩
theorem MH(n:Int):0≤n%4∧n%4<4:=⟨zv1 _ (by decide),zv7 _ (by decide)⟩
theorem y9(c:List Int):∀ n,(0≤(de c n).1∧(de c n).1≤4*n)∧(de c n).2.length≤9∧(de c n).2.length≤n∧(∀ i,i<(de c n).2.length→(dc (ky c n) i).bU≤(de c n).1)∧(n≤12→∀ i,i<(de c n).2.length→iu (ky c n) i=true)
 |0=>by simp[de]
 |n+1=>by
  obtain ⟨h1,h2,h3,h4,h5⟩:=y9 c n;have m4:=MH (c.getD n 0);by_cases hc:n<c.length∧(de c n).2.length<9
  ·have hM:ky c n=⟨gn c 5,bd c 5%2,(de c n).2⟩:=rfl;have hM1:ky c (n+1)=⟨gn c 5,bd c 5%2,(de c (n+1)).2⟩:=rfl;have hU:de c (n+1)=sj c n (de c n):=by simp only[de,if_pos hc]
   rw[hM1,hU];rw[hM] at h4 h5;generalize de c n=p at h1 h2 h3 h4 h5 hc;obtain ⟨o,l⟩:=p;simp only at h1 h2 h3 h4 h5 hc;simp only[sj];split
   ·refine ⟨by omega,h2,by omega,fun i hi =>?_,fun hn i hi =>?_⟩
    ·have:=h4 i hi;omega
    ·exact h5 (by omega) i hi
   ·rename_i hany;have hnear:∀ g∈l,kJ ⟨gn c 5,bd c 5%2,l⟩ g.mark (mE c n 0).mark=false:=by
     intro g hg;cases hh:kJ ⟨gn c 5,bd c 5%2,l⟩ g.mark (mE c n 0).mark with
     |false=>rfl
     |true=>exact absurd (List.any_eq_true.2 ⟨g,hg,hh⟩) hany
    have ow:(mE c n (o+(1+c.getD n 0%4))).bU=o+(1+c.getD n 0%4):=rfl;have mk:(mE c n (o+(1+c.getD n 0%4))).mark=(mE c n 0).mark:=rfl;generalize hg:mE c n (o+(1+c.getD n 0%4))=g at ow mk;have hmk:ee g.mark=true:=by rw[mk];exact Nd _
    refine ⟨by omega,by simp;omega,by simp;omega,fun i hi =>?_,fun hn i hi =>?_⟩
    ·simp only[zz2,zv3] at hi;by_cases e:i=l.length
     ·subst e;rw[LM];omega
     ·rw[qB (by omega)];have:=h4 i (by omega);omega
    ·simp only[zz2,zv3] at hi;by_cases e:i=l.length
     ·subst e;rw[M0,LM];refine ⟨by omega,hmk,?_,fun j hj =>?_⟩
      ·by_cases e0:l.length=0
       ·exact .inl e0
       ·right
        rw[qB (by omega),ow];have:=h4 (l.length-1) (by omega);omega
      ·rw[qB hj,mk];have:=hnear (dc ⟨gn c 5,bd c 5%2,l⟩ j) (by rw[←jY hj];exact zx5 hj);exact this
     ·have hi':i<l.length:=by omega
      have:=h5 (by omega) i hi';rw[M0] at this ⊢;rw[qB hi'];refine ⟨this.1,this.2.1,?_,fun j hj =>?_⟩
      ·rcases this.2.2.1 with h | h
       ·exact .inl h
       ·right;rw[qB (by omega)];exact h
      ·rw[qB (by omega)];exact this.2.2.2 j hj
  ·have hU:de c (n+1)=de c n:=by simp only[de,if_neg hc]
   have hM:ky c (n+1)=ky c n:=by simp only[ky,hU]
   rw[hU,hM];exact ⟨by omega,h2,by omega,h4,fun hn=>h5 (by omega)⟩
theorem Nb(c:List Int){n:Nat}(hn:n≤12):ed (ky c n)=true:=by
 obtain ⟨h1,h2,h3,h4,h5⟩:=y9 c n;have m2:0≤bd c 5%2∧bd c 5%2<2:=⟨zv1 _ (by decide),zv7 _ (by decide)⟩
 have e1:b7 0 2 (bd c 5%2)=true:=by simp[b7,m2.1];omega
 have e2:decide ((de c n).2.length≤40)=true:=by simp;omega
 have e3:(List.range (de c n).2.length).all (iu (ky c n))=true:=by
  simp only[zx3,zw4];exact h5 hn
 simp only[ky] at e3;simp only[ed,ky,aom,e1,e3,Bool.true_and,Bool.and_true];exact e2
theorem Na(c:List Int):ed (nv c)=true:=Nb c (zz7 _)
theorem Nl{α:Type}[Enc α](l:List α):cj none (enc l)=true:=by simp[nj,oa]
theorem qJ:(∀ (x:I) xs (f:I→Bool),(x::xs).all f=(f x&&xs.all f))∧(∀ f:I→Bool,([]:List I).all f=true)∧(∀ n p,(I.ptr n p).cq=true)∧(∀ b,(true&&b)=b) :=
 ⟨fun _ _ _=>List.all_cons,fun _=>List.all_nil,fun _ _=>rfl,fun _=>rfl⟩
theorem qU:∀ m,aq [] m=true→m<1000000:=fun m h=>by simp[aq,ao] at h
theorem RY(l:List ak)(hl:l.length≤60):vV Tryz.prog 178 [.ref (enc l)] l.length (fun k=>[.int .i64 ((l.length-1-k:Nat):Int),enc (ae l (l.length-1-k))]):=by
 intro Y v aj Ix os hv hY hI hIx h0;have hG:=hI 0 os h0;refine lx.bp Tryz.func178 D4 WY Zd (t7 rfl) (t7 rfl) hG.ph (fun hwf W0 D0 E1 =>?_);simp only[CU,OT,bl,zz4];refine .ar (by decide +kernel) fun K hK =>?_;simp only[Iv,ab,simprocAttr]
 try simp only[aZ,aO,ab,simprocAttr]
 rw[cG ((l.length:Int)-1) (by omega) (by omega)];refine .done (hK _ ?_);clear hK K;refine U.block (U.loop (fun s:Nat×List (Nat×ah)=>aw [(0,.raw v),(1,.ref (enc l)),(3,.int .i64 ((l.length:Int)-1-s.1))] s.2) (fun s=>s.1≤l.length∧aj s.1 s.2) (fun s=>l.length-s.1) (0,os) ⟨zw3 _,h0⟩ ?_ ?_)
 ·refine aB.dj ?_ (fun n=>rfl);simp[aQ,aS]
 rintro ⟨k,osk⟩ ⟨hk,hIk⟩;simp only at hk hIk ⊢;have gk:=hI k osk hIk;refine U.seq (U.seq ?_);refine .bx (by decide +kernel) fun K hK =>?_;simp only[Iw,ab,simprocAttr];refine .done (hK _ ?_);clear hK K;try simp only[au]
 refine U.bL ?_;simp only[al,ab,simprocAttr];refine ⟨fun h =>?_,fun h =>?_⟩
 ·have hlt:k<l.length:=by simp at h;omega
  have hix:((l.length:Int)-1-k)=((l.length-1-k:Nat):Int):=by omega
  rw[hix];refine U.skip ?_;try simp only[au,simprocAttr]
  refine U.seq (U.block (U.seq ?_));refine .bx (by decide +kernel) fun K hK =>?_;simp only[Iy,ab,simprocAttr]
  try simp only[aO,kv (l:=l) (i:=l.length-1-k) (by omega),Ea,ab,simprocAttr]
  refine bn.Ra (ow:=[]) (In:=aj (k+1)) (Ix:=Ix) (hY k osk _ hlt hIk (fun r os2 h=>h)) gk (hI _) hIx (by simp[I.cg,dL,I.bJ]) qU (fun os2 h2 =>?_) (fun os2 h2 =>?_)
  ·try simp only[zy3,ab,simprocAttr]
   refine .done (hK _ ?_);clear hK K;try simp only[au]
   refine U.bL ?_;simp only[al,ab,simprocAttr];refine ⟨fun h =>?_,fun h =>?_⟩
   ·cases h
   refine U.skip ?_;try simp only[au,bP,simprocAttr]
   refine .bx (by decide +kernel) fun K hK =>?_;simp only[Iz,ab,simprocAttr];refine .done (hK _ ?_);clear hK K;try simp only[au]
   refine ⟨(k+1,os2),⟨by simp only;omega,h2⟩,by simp only;omega,?_⟩;simp only;rw[cG _ (by omega) (by omega)];have e:(((l.length-1-k:Nat):Int)-1)=((l.length:Int)-1-((k+1:Nat):Int)):=by omega
   rw[e];refine aB.dj ?_ (fun n=>rfl);simp[aQ,aS]
  ·try simp only[zy3,ab,simprocAttr]
   refine .done (hK _ ?_);clear hK K;try simp only[au]
   refine U.bL ?_;simp only[al,ab,simprocAttr];refine ⟨fun h =>?_,fun h =>?_⟩
   ·refine U.ret ?_;simp only[au,bP];rw[eA];exact ⟨os2,[],ug (ow:=[]) (hIx os2 h2) qU,trivial,rfl,.inr h2⟩
   ·cases h
 ·have he:k=l.length:=by simp at h;omega
  subst he;refine U.exit ?_;try simp only[au,bP,simprocAttr]
  rw[mN];exact ⟨osk,[],ug (ow:=[]) gk qU,trivial,rfl,.inl hIk⟩
def iX(p:Nat→Bool)(n:Nat):List Nat:=(List.range n).filter p
theorem Q0(p:Nat→Bool)(n:Nat):iX p (n+1)=iX p n++(if p n then [n] else []):=by
 simp only[iX,List.range_succ,List.filter_append,zx8,zu2]
theorem aqn{p:Nat→Bool}{i n:Nat}(hp:p i=true)(hi:i<n):(iX p i).length<(iX p n).length∧(iX p n).getD (iX p i).length 0=i:=by
 induction n with
 |zero=>omega
 |succ n ih =>
  rw[Q0];by_cases e:i=n
  ·subst e;simp[hp]
  ·obtain ⟨h1,h2⟩:=ih (by omega);refine ⟨by rw[zz2];omega,?_⟩;rw[zz0,zy9 h1,←zz0];exact h2
theorem A2(l:List ak)(bs:List Bool)(hl:l.length≤60)(hb:bs.length=l.length) :
  vV Tryz.prog 146 [.ref (enc l),.ref (enc bs)] (iX (fun i=>bs.getD i false) l.length).length (fun k=>[.int .i64 (((iX (fun i=>bs.getD i false) l.length).getD k 0:Nat):Int)]):=by
 intro Y v aj Ix os hv hY hI hIx h0;have hG:=hI 0 os h0;refine lx.bp Tryz.func146 wC Ww YN (t7 rfl) (t7 rfl) hG.ph (fun hwf W0 D0 E1 =>?_);simp only[Cu,Ot,bl,zz4,Nat.reduceAdd];refine .ar (by decide +kernel) fun K hK =>?_;simp only[G7,ab,simprocAttr]
 try simp only[aZ,aO,ab,simprocAttr]
 refine .done (hK _ ?_);clear hK K;refine U.block (U.loop (fun s:Nat×List (Nat×ah)=>aw [(0,.raw v),(1,.ref (enc l)),(2,.ref (enc bs)),(6,.int .i64 l.length),(7,.int .i64 s.1)] s.2) (fun s=>s.1≤l.length∧aj (iX (fun i=>bs.getD i false) s.1).length s.2) (fun s=>l.length-s.1) (0,os) ⟨zw3 _,h0⟩ ?_ ?_)
 ·refine aB.dj ?_ (fun n=>rfl);simp[aQ,aS]
 rintro ⟨i,osk⟩ ⟨hi,hIk⟩;simp only at hi hIk ⊢;have gk:=hI _ osk hIk;refine .ar (by decide +kernel) fun K hK =>?_;simp only[G8,ab,simprocAttr];refine .done (hK _ ?_);clear hK K;refine U.seq ?_;by_cases hlt:i<l.length
 ·have hc:=fw hlt;have hbi:∀ A,jh A 1 (i:Int) (enc bs)=some (.ref (.bool (bs.getD i false))):=fun A=>by
   rw[fm 1 (by omega) rfl,zz0,zy0 (by omega)];rfl
  simp only[hc];refine U.bL ?_;simp only[al,ab,simprocAttr];refine ⟨fun h =>?_,fun h =>?_⟩
  case refine_2=>cases h
  refine U.skip ?_;try simp only[au,simprocAttr]
  refine U.seq (U.block ?_);refine .ar (by decide +kernel) fun K hK =>?_;simp only[G9,ab,simprocAttr];refine .done (hK _ ?_);clear hK K;refine U.seq ?_;have hsu:=Q0 (fun i=>bs.getD i false) i;cases hbv:bs.getD i false with
  |false =>
   rw[hbv] at hbi;refine .bx (by decide +kernel) fun K hK =>?_;simp only[xQ,ab,simprocAttr]
   try simp only[hbi,Nl,ab,simprocAttr]
   refine .done (hK _ ?_);clear hK K;try simp only[au]
   refine U.bL ?_;simp only[al,ab,simprocAttr];refine ⟨fun h =>?_,fun h =>?_⟩
   ·cases h
   refine U.skip ?_;try simp only[au,bP,simprocAttr]
   refine .bx (by decide +kernel) fun K hK =>?_;simp only[xR,ab,simprocAttr];refine .done (hK _ ?_);clear hK K;try simp only[au]
   refine ⟨(i+1,osk),⟨by simp only;omega,?_⟩,by simp only;omega,?_⟩
   ·simp only[hsu,hbv,zz6,if_false,zx6];exact hIk
   ·simp only;rw[ea (by omega)];refine aB.dj ?_ (fun n=>rfl);simp[aQ,aS]
  |true =>
   rw[hbv] at hbi;obtain ⟨g1,g2⟩:=aqn (p:=fun i=>bs.getD i false) hbv hlt;have hsl:(iX (fun i=>bs.getD i false) (i+1)).length=(iX (fun i=>bs.getD i false) i).length+1:=by rw[hsu,hbv];simp
   have hy:=hY _ osk _ g1 hIk (fun r os2 h=>h);simp only at hy;rw[g2] at hy;refine .bx (by decide +kernel) fun K hK =>?_;simp only[xQ,ab,simprocAttr]
   try simp only[hbi,Nl,Ea,ab,simprocAttr]
   refine bn.Ra (ow:=[]) (In:=aj ((iX (fun i=>bs.getD i false) i).length+1)) (Ix:=Ix) hy gk (hI _) hIx rfl qU (fun os2 h2 =>?_) (fun os2 h2 =>?_)
   ·try simp only[zy3,ab,simprocAttr]
    refine .done (hK _ ?_);clear hK K;try simp only[au]
    refine U.bL ?_;simp only[al,ab,simprocAttr];refine ⟨fun h =>?_,fun h =>?_⟩
    ·cases h
    refine U.skip ?_;try simp only[au,bP,simprocAttr]
    refine .bx (by decide +kernel) fun K hK =>?_;simp only[xR,ab,simprocAttr];refine .done (hK _ ?_);clear hK K;try simp only[au]
    refine ⟨(i+1,os2),⟨by simp only;omega,?_⟩,by simp only;omega,?_⟩
    ·simp only[hsl];exact h2
    ·simp only;rw[ea (by omega)];refine aB.dj ?_ (fun n=>rfl);simp[aQ,aS]
   ·try simp only[zy3,ab,simprocAttr]
    refine .done (hK _ ?_);clear hK K;try simp only[au]
    refine U.bL ?_;simp only[al,ab,simprocAttr];refine ⟨fun h =>?_,fun h =>?_⟩
    ·refine U.ret ?_;simp only[au,bP];rw[eA];exact ⟨os2,[],ug (ow:=[]) (hIx os2 h2) qU,trivial,rfl,.inr h2⟩
    ·cases h
 ·have hc:=fP hlt;simp only[hc];refine U.bL ?_;simp only[al,ab,simprocAttr];refine ⟨fun h =>?_,fun h =>?_⟩
  ·cases h
  have he:i=l.length:=by omega
  subst he;refine U.exit ?_;try simp only[au,bP,simprocAttr]
  rw[mN];exact ⟨osk,[],ug (ow:=[]) gk qU,trivial,rfl,.inl hIk⟩
theorem Rx(l:List ak):aA Tryz.prog 145 [enc l] (.func 178 [.ref (enc l)]):=by
 refine aA.bp Tryz.func145 Ux Wv YM (t7 rfl) (fun hwf W0 D0 E1 =>?_);simp only[Ct,Oq,bl];have R:=v6 @qJ (v6 @aO (v6 @dL @ab))
 repeat' ((first |refine U.aI (by decide +kernel) rfl fun K hK =>?_|(refine .aD [0,1,2] hK ?_;clear hK K)|(with_reducible refine .done (hK _ ?_);clear hK K)|refine U.of rfl ?_|(with_reducible refine al.aH (fun h =>?_) (fun h =>?_) <;>try simp only[h])) <;>try simp only[aJ,R,simprocAttr])
 all_goals clear R
 all_goals rfl
def iV(l:List ak)(known:Int)(ks:List Item)(bs:List Bool):List (Nat×ah) :=
 [(1000002,.box (enc l)),(1000003,.box (.int .i64 known)),(1000005,.box (.mref 1000009)),(1000006,.box (.view 1000012 [] 1 0 l.length)),(1000009,.cE (ks.map enc) (List.replicate ks.length (.bool true))),(1000012,.box (.agg (bs.map enc)))]
theorem zH(p:Nat→Bool)(n:Nat)(b:Bool):I.bV p (List.replicate n (.bool b))=true:=by
 induction n with
 |zero=>rfl
 |succ n ih=>simp[List.replicate_succ,I.bV,I.only,ih]
theorem apf(ρ:Nat→Nat)(n:Nat)(b:Bool):I.cZ ρ (List.replicate n (.bool b))=List.replicate n (.bool b):=by
 induction n with
 |zero=>rfl
 |succ n ih=>simp only[List.replicate_succ,I.cZ,I.aN,ih]
theorem ap3(l:List ak)(known:Int)(ks:List Item)(bs:List Bool)(l':List ak)(known':Int)(ks':List Item)(bs':List Bool):fJ (iV l known ks bs) (iV l' known' ks' bs'):=by
 refine ⟨fun n=>by simp only[iV,aq,ao];(repeat' split) <;>rfl,fun n x h =>?_,fun n h =>?_⟩
 ·simp only[iV,ao] at h
  repeat' split at h
  all_goals first | (cases h;done) | (simp only[u8] at h;subst h;exact ⟨by simp[iV,aq,ao,ah.only,bg,I.only,c9,zH],rfl⟩)
 ·simp only[iV,aq,ao] at h
  repeat' split at h
  all_goals first | omega | (simp at h;done)
def vw(l:List ak)(known:Int)(k:Nat)(ks:List Item)(bs:List Bool):Prop :=
 bs=List.replicate (l.length-k) false++(dU known (l.drop (l.length-k))).1∧∀ a,a∈ks↔a∈(dU known (l.drop (l.length-k))).2
theorem Av:(∀ (A:af) n b m rest,dT A none n [] b (.mref m) rest (some (.raw (.map none)))=aF rest (A.aU n (.box (.mref m))))∧(∀ (A:af) n b m p z lo k z2 rest,dT A none n [] b (.view m p z lo k) rest (some (.nils z2))=aF rest (A.aU n (.box (.view m p z lo k)))) ∧
  (∀ (A:af) n b m p z lo k m' p' z' lo' k' rest,dT A none n [] b (.view m p z lo k) rest (some (.view m' p' z' lo' k'))=aF rest (A.aU n (.box (.view m p z lo k)))) :=
 ⟨fun _ _ _ _ _=>by rw[eG (s:=none) (v:=.mref _) (old:=.raw _) rfl rfl rfl,fT],fun _ _ _ _ _ _ _ _ _ _=>by rw[eG (s:=none) (v:=.view ..) (old:=.nils _) rfl rfl rfl,fT],fun _ _ _ m p z lo k m' p' z' lo' k' _=>by rw[eG (s:=none) (v:=.view m p z lo k) (old:=.view m' p' z' lo' k') rfl rfl rfl,fT]⟩
theorem Aw(known:Int):∀ l:List ak,(dU known l).1.length=l.length
 | []=>rfl
 |x::l=>by simp only[dU,zu5,Aw known l]
theorem QE{l:List ak}{known:Int}{k:Nat}{ks:List Item}{bs:List Bool}(h:vw l known k ks bs)(hk:k≤l.length):bs.length=l.length:=by
 rw[h.1,zz2,zv4,Aw,zy8];omega
def sn(l:List ak)(known:Int)(i:Nat)(ks:List Item):Bool:=decide ((ae l i).known≤known) && !decide ((ae l i).bd∈ks)
theorem ap0{l:List ak}{known:Int}{k i:Nat}{ks:List Item}{bs:List Bool}(hk:k<l.length)(hi:i=l.length-1-k)(h:vw l known k ks bs) :
  vw l known (k+1) (if (sn l known i ks&&((ae l i).kind==0))=true then nT ks (ae l i).kC else ks) (bs.set i (sn l known i ks)):=by
 have hkd:((ae l i).kind==0)=decide ((ae l i).kind=0):=rfl;rw[hkd];obtain ⟨h1,h2⟩:=h;have e1:l.length-k=i+1:=by omega
 have e2:l.length-(k+1)=i:=by omega
 rw[e1] at h1 h2;have hil:i<l.length:=by omega
 have hd:l.drop i=ae l i::l.drop (i+1):=by rw[zv8 hil,fN hil]
 have hb:sn l known i ks=(decide ((ae l i).known≤known) && !(dU known (l.drop (i+1))).2.contains (ae l i).bd):=by
  simp only[sn]
  congr 2
  rw[Bool.eq_iff_iff,decide_eq_true_eq,List.contains_iff_mem];exact h2 _
 refine ⟨?_,fun a =>?_⟩
 ·rw[e2,hd,h1];simp only[dU,←hb];rw[List.replicate_succ',zz5,List.set_append_right _ _ (by simp)];simp
 ·rw[e2,hd];simp only[dU,←hb];split
  ·rw[amV,zx2,h2]
  ·exact h2 a
theorem Rh(l:List ak)(known:Int)(hl:l.length≤60):aA Tryz.prog 105 [enc l,enc known] (.func 146 [.ref (enc l),.ref (enc (gZ l known))]):=by
 refine aA.bp Tryz.func105 T3 V1 Yi (t7 rfl) (fun hwf W0 D0 E1 =>?_);simp only[BX,NU,bl,zz4];clear hwf;refine .ar (by decide +kernel) fun K hK =>?_;simp only[FR,ab,simprocAttr]
 try simp only[aO,ab,simprocAttr]
 refine .done (hK _ ?_);clear hK K;refine .ar (by decide +kernel) fun K hK =>?_;simp only[FT,ab,simprocAttr]
 try simp only[eU,Av,ab,simprocAttr]
 refine .done (hK _ ?_);clear hK K;refine .ar (by decide +kernel) fun K hK =>?_;simp only[FU,ab,simprocAttr]
 try simp only[eU,aZ,aO,ab,simprocAttr]
 rw[am1 (by omega) (by simp[maxLen];omega)]
 try simp only[Av,ab,simprocAttr]
 refine .done (hK _ ?_);clear hK K;refine U.seq (U.seq ?_);refine .bx (by decide +kernel) fun K hK =>?_;simp only[FV,ab,simprocAttr]
 try simp only[aO,ab,simprocAttr]
 refine .lead _ (Rx l) ?_
 try simp only[ab,simprocAttr]
 refine .done (hK _ ?_);clear hK K;try simp only[au]
 refine U.block (U.kF (osb0:=iV l known [] (List.replicate l.length false)) (tsR:=[(2,.ptr 1000002 []),(3,.ptr 1000003 []),(5,.ptr 1000005 []),(6,.ptr 1000006 [])]) (ρ:=[(1999999,999999),(1000002,2),(1000003,3),(1000005,5),(1000006,6),(1000009,9),(1000012,12)])
  (fun k os=>∃ ks bs,os=iV l known ks bs∧vw l known k ks bs)
  (fun _ _=>False)
  rfl (t7 rfl) (by simp only[ab,simprocAttr]) (by simp[I.cg,I.bJ,dL]) D4 (RY l hl) (fun _=>rfl) rfl rfl rfl (fun o=>⟨?_,?_⟩) ?_ ?_ ?_ ⟨[],_,rfl,?_⟩ ?_ ?_ ?_)
 ·intro n x hx;simp only[dw,iV,ao] at hx
  repeat' split at hx
  all_goals first | (cases hx;done) | (subst_vars;simp only[u8] at hx;subst hx;simp[dw,iV,aq,bD,ao,ah.aN,I.aN,I.cZ,ij,ah.only,I.only,I.bV,bg,ah.eZ,zH,apf,EU])
 ·intro a b ha hb;simp only[dw,iV,aq,ao] at ha hb
  repeat' split at ha
  all_goals first | (simp at ha;done) | skip
  all_goals (repeat' split at hb)
  all_goals first | (simp at hb;done) | (subst_vars;simp[bD])
 ·simp[mU,aS,I.aN,bD,I.only,iV,aq,ao]
 ·rintro k os ⟨ks,bs,rfl,_⟩;exact ap3 ..
 ·rintro e os h;exact h.elim
 ·exact ⟨by simp[dU],fun a=>by simp[dU]⟩
 ·rintro k osb hk ⟨ks,bs,rfl,hst⟩ W1 D1 E1 Mc o1 o2;have hbl:=QE hst (Nat.le_of_lt hk);obtain ⟨i,hi⟩:∃ i,i=l.length-1-k:=⟨_,rfl⟩
  have hil:i<bs.length:=by omega
  have hil2:i<l.length:=by omega
  have hstep:=ap0 hk hi hst;have hv:∀ fs,lK 1000012 [] 1 0 l.length 1 (i:Int) (some fs)=some (.ptr 1000012 [i]):=fun fs=>by
   have:=uo (m:=1000012) (sz:=1) (lo:=0) (l:=l.length) (i:=i) (fs:=fs) hil2
   rwa [zz4] at this
  have hat2:∀ b,fU i [] (some ((bs.set i b).map enc))=some (.bool b):=fun b=>by
   rw[BK (by simpa using hil)];simp[zz0,hil]
  have hset:=fun (A:af) v u rest=>ap6 (A:=A) (n:=1000012) hil v u rest;have hat:=BK hil;have hlk:=amE rT (ae l i).bd ks;simp only[qX,dw,iV,←hi];have R:=v6 @aO @ab
  repeat' ((first |(with_reducible refine .guard (fun hb =>?_) (fun hb =>?_) <;>try simp only[hb])|refine U.aI (by decide +kernel) rfl fun K hK =>?_|(refine .aD [0,1,2,3,4,5,6,7,8,14,15,16,39] hK ?_;clear hK K)|(with_reducible refine .done (hK _ ?_);clear hK K)|refine U.of rfl ?_|(with_reducible refine al.aH (fun h =>?_) (fun h =>?_) <;>try simp only[h])) <;>try simp only[aJ,R,simprocAttr])
  all_goals clear R
  refine ⟨by simp[],?_⟩;rcases h1:decide ((ae l i).known≤known) <;>rcases h2:decide ((ae l i).bd∈ks) <;>rcases h3:(ae l i).kind==0
  all_goals
   simp only[sn,h1,h2,h3,Bool.not_true,Bool.not_false,Bool.and_true,Bool.and_false,zz6,if_true,if_false] at hstep;have hup:=am8 rT (ae l i).kC ks
   try simp only[ab,simprocAttr]
   have R:=v6 @h1 (v6 @h2 (v6 @h3 (v6 @hv (v6 @hset (v6 @hat (v6 @hat2 (v6 @hlk (v6 @hup (v6 @dY (v6 @Av (v6 @eU (v6 @cL (v6 @aZ (v6 @aO @ab))))))))))))))
   repeat' ((first |(with_reducible refine .guard (fun hb =>?_) (fun hb =>?_) <;>try simp only[hb])|refine U.aI (by decide +kernel) rfl fun K hK =>?_|(refine .aD [0,1,2,3,4,5,6,7,8,14,15,16,39] hK ?_;clear hK K)|(with_reducible refine .done (hK _ ?_);clear hK K)|refine U.of rfl ?_|(with_reducible refine al.aH (fun h =>?_) (fun h =>?_) <;>try simp only[h])) <;>try simp only[aJ,R,simprocAttr])
   all_goals clear R
   generalize bs.set i _=aqQ at hstep ⊢
   try generalize nT ks _=ks2 at hstep ⊢
   refine ⟨iV l known _ _,?_,_,_,rfl,hstep⟩;intro n x hx;simp only[dw,iV,ao] at hx
   (repeat' split at hx) <;>first
    |(cases hx;done)
    |(subst_vars;simp only[u8] at hx;subst hx;simp[iV,dw,aq,aw,ao,ah.only,I.only,bg,ah.eZ,c9,zH])
 ·rintro os ⟨ks,bs,rfl,hst⟩;have hbs:bs=gZ l known:=by
   have:=hst.1;simpa[gZ] using this
  have hbl:=QE hst (zz7 _)
  try simp only[iV,fy,ij,eP,zz9,zy3,au,bP,simprocAttr]
  have R:=v6 @qJ (v6 @aO @ab)
  repeat' ((first |(with_reducible refine .guard (fun hb =>?_) (fun hb =>?_) <;>try simp only[hb])|refine U.aI (by decide +kernel) rfl fun K hK =>?_|(refine .aD [0,1,2,3,4,5,6,7,8,14,15,16,39] hK ?_;clear hK K)|(with_reducible refine .done (hK _ ?_);clear hK K)|refine U.of rfl ?_|(with_reducible refine al.aH (fun h =>?_) (fun h =>?_) <;>try simp only[h])) <;>try simp only[aJ,R,simprocAttr])
  all_goals clear R
  have hfd:=fun A (ho:A.o 12=some (.box (.agg (bs.map enc))))=>ab5 (A:=A) (m:=8) (n:=12) (sz:=1) ho rfl hbl.symm
  try simp only[gK,ab,simprocAttr]
  rw[hfd _ rfl]
  try simp only[hbs,ab,simprocAttr]
 ·rintro e os h;exact h.elim
def gS(l:List ak)(x:Int):Int:=(ae l x.toNat).day
def j0(l:List ak)(x:Int):Prop:=0≤x∧x<l.length
def nh(l:List ak):Prop:=∀ i,i<l.length→0≤(ae l i).day∧(ae l i).day≤100000
def dX(l:List ak)(x y:Int):Prop:=gS l x<gS l y∨(gS l x=gS l y∧x<y)
def dC(l:List ak)(s:List Int):Prop:=s.Pairwise (dX l)
theorem y6{l:List ak}{x y z:Int}(h:dX l x y)(k:dX l y z):dX l x z:=by
 simp only[dX] at *;omega
theorem uA{l:List ak}{x y:Int}(h:y<x):dX l x y↔gS l x<gS l y:=by
 simp only[dX];omega
theorem uz{l:List ak}{x y:Int}(h:y<x)(k:¬ gS l x<gS l y):dX l y x:=by
 simp only[dX];omega
theorem sW(l:List ak)(hd:nh l)(hl:l.length≤60)(x y:Int)(hx:j0 l x)(hy:j0 l y):aA Tryz.prog 138 [.int .i64 x,.int .i64 y,.ref (enc l)] (.int .i64 (gS l x-gS l y)):=by
 refine aA.bp Tryz.func138 Uq Wo YF (t7 rfl) (fun hwf W0 D0 E1 =>?_);simp only[Cm,Oh,bl,zz4,Nat.reduceAdd];clear hwf;obtain ⟨i,rfl⟩:∃ i:Nat,x=i:=⟨x.toNat,by have:=hx.1;omega⟩
 obtain ⟨k,rfl⟩:∃ k:Nat,y=k:=⟨y.toNat,by have:=hy.1;omega⟩
 have hi:i<l.length:=by have:=hx.2;omega
 have hk:k<l.length:=by have:=hy.2;omega
 have v1:=kv hi;have v2:=kv hk;have d1:=hd i hi;have d2:=hd k hk;have hw:IntKind.i64.wrap ((ae l i).day-(ae l k).day)=(ae l i).day-(ae l k).day:=cG _ (by omega) (by omega);have R:=v6 @v1 (v6 @v2 (v6 @hw (v6 @aO @ab)))
 repeat' ((first |refine U.aI (by decide +kernel) rfl fun K hK =>?_|(refine .aD [0,1,2,5] hK ?_;clear hK K)|(with_reducible refine .done (hK _ ?_);clear hK K)|refine U.of rfl ?_|(with_reducible refine al.aH (fun h =>?_) (fun h =>?_) <;>try simp only[h])) <;>try simp only[aJ,R,simprocAttr])
 all_goals clear R
 simp only[gS,Int.toNat_natCast]
theorem aqf{A C:List Int}{x y:Int}{i j:Nat}(hj:A.length=j)(hi:j+1=i):lq (A++y::x::C) i j=A++x::y::C:=by
 subst hj hi;have e1:(A++y::x::C).getD A.length 0=y:=by simp[zz0]
 have e2:(A++y::x::C).getD (A.length+1) 0=x:=by
  rw[zz0,zw0 (by omega)];simp
 simp only[lq,e1,e2];rw[List.set_append_right _ _ (by omega)];have:A.length+1-A.length=1:=by omega
 rw[this,List.set_append_right _ _ (by omega),Nat.sub_self];simp
theorem aqh{A C:List Int}{x y:Int}{i j:Nat}(hi:A.length=i)(hj:i+1=j):lq (A++x::y::C) i j=A++y::x::C:=by
 have:=QW (A:=A) (B:=[]) (C:=C) (x:=x) (y:=y) (i:=i) (j:=j) hi (by simp;omega);simpa using this
def ew(p t rest:List Int)(x:Int)(c:Nat):List Int:=p++(t.take c++x::t.drop c)++rest
theorem yL{p t rest:List Int}{x:Int}{c:Nat}(hc:c≤t.length):(ew p t rest x c).length=p.length+t.length+1+rest.length:=by
 simp only[ew,zz2,zy4,zu5,zy8];omega
theorem al0{p t rest:List Int}{x:Int}{c a:Nat}(ha:p.length=a)(hc:c≤t.length):(ew p t rest x c).getD (a+c) 0=x:=by
 subst ha;have hl:(t.take c).length=c:=by rw[zy4];omega
 simp only[ew];rw[zz0,zz5,zw0 (by omega)];have:p.length+c-p.length=c:=by omega
 rw[this,zz5,zw0 (by omega),hl,Nat.sub_self];rfl
theorem al1{p t rest:List Int}{x:Int}{c a:Nat}(ha:p.length=a)(hc:c<t.length):(ew p t rest x (c+1)).getD (a+c) 0=t[c]:=by
 subst ha;simp only[ew];rw[zz0,zz5,zw0 (by omega)];have:p.length+c-p.length=c:=by omega
 rw[this,zz5,zy9 (by rw[zy4];omega),List.getElem?_take_of_lt (by omega),zy0 hc];rfl
theorem L1{p t rest:List Int}{x:Int}{c a:Nat}(ha:p.length=a)(hc:c<t.length):lq (ew p t rest x (c+1)) (a+c+1) (a+c)=ew p t rest x c:=by
 have e1:ew p t rest x (c+1)=(p++t.take c)++t[c]::x::(t.drop (c+1)++rest):=by
  simp only[ew];rw[zz8 hc];simp only[zz5,zz9,zy3]
 have e2:ew p t rest x c=(p++t.take c)++x::t[c]::(t.drop (c+1)++rest):=by
  simp only[ew];rw[zv8 hc];simp only[zz5,zz9]
 rw[e1,e2];exact aqf (by rw[zz2,zy4];omega) rfl
theorem Au{l:List ak}{t:List Int}{x:Int}{c:Nat}(hs:dC l t)(h1:∀ y∈t.take c,dX l y x)(h2:∀ y∈t.drop c,dX l x y):dC l (t.take c++x::t.drop c):=by
 have h:=hs;unfold dC at *;rw[←zx0 c t,List.pairwise_append] at h;rw[List.pairwise_append];refine ⟨h.1,?_,fun y hy z hz =>?_⟩
 ·rw[zw6];exact ⟨h2,h.2.1⟩
 ·rcases zx2.1 hz with rfl | hz
  ·exact h1 y hy
  ·exact h.2.2 y hy z hz
theorem apT{l:List ak}{t:List Int}{x:Int}{c:Nat}(hs:dC l t)(hc:c<t.length)(h:dX l t[c] x):∀ y∈t.take (c+1),dX l y x:=by
 intro y hy;rw[zz8 hc,zy5,zu6] at hy;rcases hy with hy | rfl
 ·refine y6 ?_ h;have h3:=hs;unfold dC at h3;rw[←zx0 c t,List.pairwise_append] at h3;exact h3.2.2 y hy _ (by rw[zv8 hc];exact List.mem_cons_self)
 ·exact h
def nQ(l:List ak)(p s q:List Int):cO:=fun r os'=>r=.tuple []∧∃ s',s'.Perm s∧dC l s'∧os'=bK 1000000 (p++s'++q)
structure vU where
 t:List Int
 k:Nat
theorem Bd(l:List ak)(hd:nh l)(hl:l.length≤60)(p s q:List Int)(a b n:Nat)(ha:p.length=a)(hb:a+s.length=b)(hn:b≤n)(hnl:n≤(p++s++q).length)(hN:n≤1000)(hs:s.Pairwise (· < ·))(hS:∀ x∈s,j0 l x) :
  cF Tryz.prog 203 [.view 1000000 [] 1 0 n,enc (a:Int),enc (b:Int),.func 138 [.ref (enc l)]] (bK 1000000 (p++s++q)) (nQ l p s q):=by
 refine cF.bp Tryz.func203 D7 Ei EC (t7 rfl) (t7 rfl) mP (fun hwf W0 D0 E1 =>?_);simp only[wz,zX,bl,zz4,Nat.reduceAdd];clear hwf;have w1:=ea (i:=a) (by omega);refine .ar (by decide +kernel) fun K hK =>?_;simp only[x7,ab,simprocAttr]
 try simp only[w1,simprocAttr]
 refine .done (hK _ ?_);clear hK K;refine U.block (U.loop (fun g:vU=>aw [(0,.view 1000000 [] 1 0 n),(1,.int .i64 a),(2,.int .i64 b),(3,.func 138 [.ref (enc l)]),(8,.int .i64 ((a+g.k:Nat):Int))] (bK 1000000 (p++g.t++s.drop g.k++q))) (fun g=>1≤g.k∧g.t.Perm (s.take g.k)∧dC l g.t∧a+g.k≤b+1) (fun g=>s.length-g.k) ⟨s.take 1,1⟩ ⟨zz7 _,.refl _,?_,by simp only;omega⟩ ?_ ?_)
 ·show dC l (s.take 1)
  cases s <;>simp[dC]
 ·have e:p++s.take 1++s.drop 1++q=p++s++q:=by rw[zz5 p,zx0]
  simp only[e];refine aB.dj ?_ (fun n=>rfl);simp[aQ,aS]
 rintro ⟨t,k⟩ ⟨g1,g2,g3,g4⟩;simp only at g1 g2 g3 g4 ⊢;refine U.seq (U.seq ?_);refine .bx (by decide +kernel) fun K hK =>?_;simp only[Jf,ab,simprocAttr];refine .done (hK _ ?_);clear hK K;try simp only[au]
 refine U.bL ?_;simp only[al,ab,simprocAttr];refine ⟨fun h =>?_,fun h =>?_⟩
 rotate_left
 ·have hk:s.length≤k:=by simp at h;omega
  refine U.exit ?_;try simp only[au,bP,simprocAttr]
  rw[mN];refine oL rfl ?_ ⟨rfl,t,?_,g3,rfl⟩
  ·rw[zw9 hk,zx6]
  ·rwa [zv6 hk] at g2
 have hk:k<s.length:=by simp at h;omega
 have htl:t.length=k:=by rw[g2.length_eq,zy4];omega
 obtain ⟨x,hx⟩:∃ x,x=s[k]:=⟨_,rfl⟩
 have hxS:j0 l x:=hS x (by rw[hx];exact zx5 _);have htS:∀ y∈t,j0 l y∧y<x:=fun y hy=>by
  have hy2:=g2.mem_iff.1 hy;refine ⟨hS y (List.mem_of_mem_take hy2),?_⟩;obtain ⟨j,hj,rfl⟩:=zu3 hy2;rw[zy4] at hj;rw[List.getElem_take,hx];exact List.pairwise_iff_getElem.1 hs j k (by omega) hk (by omega)
 obtain ⟨rest,hrest⟩:∃ rest,rest=s.drop (k+1)++q:=⟨_,rfl⟩
 have e0:p++t++s.drop k++q=ew p t rest x k:=by
  rw[hrest,ew,zv6 (l:=t) (by omega),show t.drop k=[] from zw9 (by omega),zv8 hk,←hx];simp only[zz5,zz9,zy3]
 have hnr:n≤p.length+t.length+1+rest.length:=by
  rw[hrest];simp only[zz2,zy8] at hnl ⊢;omega
 rw[e0];refine U.skip ?_;try simp only[au,simprocAttr]
 refine U.seq (U.block ?_);refine .ar (by decide +kernel) fun K hK =>?_;simp only[Jg,ab,simprocAttr];refine .done (hK _ ?_);clear hK K;refine U.block (U.loop (fun c:Nat=>aw [(0,.view 1000000 [] 1 0 n),(1,.int .i64 a),(2,.int .i64 b),(3,.func 138 [.ref (enc l)]),(8,.int .i64 ((a+k:Nat):Int)),(9,.int .i64 ((a+c:Nat):Int))] (bK 1000000 (ew p t rest x c))) (fun c=>c≤k∧∀ y∈t.drop c,dX l x y) (fun c=>c) k ⟨zz7 _,?_⟩ ?_ ?_)
 ·rw[zw9 (by omega)];intro y hy;cases hy
 ·refine aB.dj ?_ (fun n=>rfl);simp[aQ,aS]
 rintro c ⟨hc,hgt⟩;have bC:∀ c,c≤k→(∀ y∈t.drop c,dX l x y)→(∀ y∈t.take c,dX l y x)→∃ s':vU,(1≤s'.k∧s'.t.Perm (s.take s'.k)∧dC l s'.t∧a+s'.k≤b+1)∧s.length-s'.k<s.length-k∧s'.k=k+1∧ew p t rest x c=p++s'.t++s.drop s'.k++q:=fun c hck h2 h1=>by
  refine ⟨⟨t.take c++x::t.drop c,k+1⟩,⟨by simp only;omega,?_,Au g3 h1 h2,by simp only;omega⟩,by simp only;omega,rfl,?_⟩
  ·simp only;rw[zz8 hk,←hx];refine List.perm_middle.trans ?_;rw[zx0];exact (g2.cons x).trans (List.perm_append_comm (l₁:=[x]))
  ·simp only[ew,hrest,zz5]
 have hexit:∀ ts,(∀ y∈t.take c,dX l y x)→Abs.cm ts 0=.view 1000000 [] 1 0 n→Abs.cm ts 1=.int .i64 a→Abs.cm ts 2=.int .i64 b→Abs.cm ts 3=.func 138 [.ref (enc l)]→Abs.cm ts 8=.int .i64 ((a+(k+1):Nat):Int)→∃ s':vU,(1≤s'.k∧s'.t.Perm (s.take s'.k)∧dC l s'.t∧a+s'.k≤b+1)∧s.length-s'.k<s.length-k∧Abs.aB (aw ts (bK 1000000 (ew p t rest x c))) (aw [(0,.view 1000000 [] 1 0 n),(1,.int .i64 a),(2,.int .i64 b),(3,.func 138 [.ref (enc l)]),(8,.int .i64 ((a+s'.k:Nat):Int))] (bK 1000000 (p++s'.t++s.drop s'.k++q))):=fun ts h1 t0 t1 t2 t3 t8=>by
  obtain ⟨s',k1,k2,k3,k4⟩:=bC c hc hgt h1;refine ⟨s',k1,k2,?_⟩;rw[k4,k3];refine aB.dj ?_ (fun n=>rfl);simp only[aQ,t0,t1,t2,t3,t8,and_self]
 have hw:=ea (i:=a+k) (by omega);have hws:(ew p t rest x c).length=p.length+t.length+1+rest.length:=yL (by omega);simp only[bK] at hexit ⊢;cases c with
 |zero =>
  have hc0:decide ((a:Int)<((a+0:Nat):Int))=false:=by simp
  have R:=v6 @hc0 (v6 @hw (v6 @aO @ab))
  repeat' ((first |(with_reducible refine .guard (fun hb =>?_) (fun hb =>?_) <;>try simp only[hb])|refine U.aI (by decide +kernel) rfl fun K hK =>?_|(refine .aD [0,1,2,3,8,9,14,34] hK ?_;clear hK K)|(with_reducible refine .done (hK _ ?_);clear hK K)|refine U.of rfl ?_|(with_reducible refine al.aH (fun h =>?_) (fun h =>?_) <;>try simp only[h])) <;>try simp only[aJ,R,simprocAttr])
  all_goals clear R
  exact hexit _ (by simp) rfl rfl rfl rfl rfl
 |succ c =>
  have hct:c<t.length:=by omega
  have hc0:decide ((a:Int)<((a+(c+1):Nat):Int))=true:=by simp;omega
  have wd:IntKind.i64.wrap (((a+(c+1):Nat):Int)-1)=((a+c:Nat):Int):=by rw[cG _ (by omega) (by omega)];omega
  have gx:=al0 (p:=p) (t:=t) (rest:=rest) (x:=x) (c:=c+1) ha (by omega);have gy:=al1 (p:=p) (t:=t) (rest:=rest) (x:=x) (c:=c) ha hct;have hstep:=L1 (p:=p) (t:=t) (rest:=rest) (x:=x) (c:=c) ha hct;obtain ⟨hyS,hyx⟩:=htS t[c] (zx5 _);have hcmp:=sW l hd hl x t[c] hxS hyS;generalize hws0:ew p t rest x (c+1)=ws at *;have hi1:a+(c+1)<n:=by omega
  have hj1:a+c<n:=by omega
  obtain ⟨i1,hi1e⟩:∃ i1,i1=a+(c+1):=⟨_,rfl⟩
  obtain ⟨j1,hj1e⟩:∃ j1,j1=a+c:=⟨_,rfl⟩
  have hij:a+c+1=i1:=by omega
  rw[hij] at hstep;rw[←hi1e] at hi1 gx hc0 wd ⊢;rw[←hj1e] at hj1 gy wd hstep;have v1:=il (n:=n) (i:=i1) hi1;have v2:=il (n:=n) (i:=j1) hj1;have l1:=fV (xs:=ws) (i:=i1) (by omega);have l2:=fV (xs:=ws) (i:=j1) (by omega);have s1:=fun (A:af) v u rest=>mV (A:=A) (n:=1000000) (xs:=ws) (i:=i1) (by omega) v u rest;obtain ⟨ws2,hws2⟩:∃ ws2,ws2=ws.set i1 (ws.getD j1 0):=⟨_,rfl⟩
  have hw2l:ws2.length=ws.length:=by rw[hws2];simp
  have s2:=fun (A:af) v u rest=>mV (A:=A) (n:=1000000) (xs:=ws2) (i:=j1) (by omega) v u rest;have l3:=fV (xs:=ws2) (i:=j1) (by omega);rw[gx] at l1;rw[gy] at l2;rw[gy] at hws2;have hst2:ws2.set j1 x=ew p t rest x c:=by rw[←hstep];simp only[lq,gx,gy,←hws2]
  cases hlt:decide (gS l x-gS l t[c]<0) with
  |true =>
   have R:=v6 @hc0 (v6 @hw (v6 @wd (v6 @v1 (v6 @v2 (v6 @l1 (v6 @l2 (v6 @l3 (v6 @s1 (v6 @s2 (v6 @hst2 (v6 @hlt (v6 @cL (v6 @dL (v6 @aO @ab))))))))))))))
   repeat' ((first |(with_reducible refine .guard (fun hb =>?_) (fun hb =>?_) <;>try simp only[hb])|refine U.aI (by decide +kernel) rfl fun K hK =>?_|refine .flat _ (hcmp) rfl ?_|(refine .aD [0,1,2,3,8,9,14,34] hK ?_;clear hK K)|(with_reducible refine .done (hK _ ?_);clear hK K)|refine U.of rfl ?_|(with_reducible refine al.aH (fun h =>?_) (fun h =>?_) <;>try simp only[h])) <;>try simp only[aJ,R,←hws2,zz9,simprocAttr])
   all_goals clear R
   refine ⟨c,⟨by omega,fun y hy =>?_⟩,by omega,?_⟩
   ·rw[zv8 hct] at hy;rcases zx2.1 hy with rfl | hy
    ·rw[uA hyx];simp at hlt;omega
    ·exact hgt y hy
   ·rw[hj1e];refine aB.dj ?_ (fun n =>?_)
    ·simp[aQ,aS]
    ·simp only[ao];split <;>rfl
  |false =>
   have R:=v6 @hc0 (v6 @hw (v6 @wd (v6 @v1 (v6 @v2 (v6 @l1 (v6 @l2 (v6 @hlt (v6 @cL (v6 @dL (v6 @aO @ab))))))))))
   repeat' ((first |(with_reducible refine .guard (fun hb =>?_) (fun hb =>?_) <;>try simp only[hb])|refine U.aI (by decide +kernel) rfl fun K hK =>?_|refine .flat _ (hcmp) rfl ?_|(refine .aD [0,1,2,3,8,9,14,34] hK ?_;clear hK K)|(with_reducible refine .done (hK _ ?_);clear hK K)|refine U.of rfl ?_|(with_reducible refine al.aH (fun h =>?_) (fun h =>?_) <;>try simp only[h])) <;>try simp only[aJ,R,zz9,simprocAttr])
   all_goals clear R
   exact hexit _ (apT g3 hct (uz hyx (by simp at hlt;omega))) rfl rfl rfl rfl rfl
def oz(key:Nat→Int)(a b:Nat):Prop:=key a<key b∨(key a=key b∧a<b)
theorem yI(key:Nat→Int)(i:Nat)(o:List Nat):(jC key i o).Perm (i::o):=by
 have h:(o.takeWhile fun k=>decide (key k≤key i))++(o.dropWhile fun k=>decide (key k≤key i))=o:=List.takeWhile_append_dropWhile;have:=(List.perm_middle (a:=i) (l₁:=o.takeWhile fun k=>decide (key k≤key i)) (l₂:=o.dropWhile fun k=>decide (key k≤key i)))
 rw[h] at this;exact this
theorem L0(key:Nat→Int)(i:Nat):∀ o:List Nat,o.Pairwise (oz key)→(∀ x∈o,x<i)→(jC key i o).Pairwise (oz key)
 | [],_,_=>by simp[jC]
 |a::o,hs,hi=>by
  obtain ⟨h1,h2⟩:=zw6.1 hs;by_cases ha:key a≤key i
  ·have e:jC key i (a::o)=a::jC key i o:=by simp[jC,ha]
   rw[e];refine zw6.2 ⟨fun b hb =>?_,L0 key i o h2 fun x hx=>hi x (by simp[hx])⟩;rcases zx2.1 ((yI key i o).mem_iff.1 hb) with rfl | hb
   ·have:=hi a (by simp);simp only[oz];omega
   ·exact h1 b hb
  ·have e:jC key i (a::o)=i::a::o:=by simp[jC,ha]
   rw[e];refine zw6.2 ⟨fun b hb =>?_,hs⟩;rcases zx2.1 hb with rfl | hb
   ·simp only[oz];omega
   ·have:=h1 b hb;simp only[oz] at *;omega
theorem u0(key:Nat→Int):∀ (l o:List Nat),o.Pairwise (oz key)→l.Pairwise (· < ·)→(∀ x∈o,∀ y∈l,x<y)→(l.foldl (fun o i=>jC key i o) o).Perm (o++l)∧(l.foldl (fun o i=>jC key i o) o).Pairwise (oz key)
 | [],o,ho,_,_=>by simp[ho]
 |i::l,o,ho,hl,hx=>by
  obtain ⟨h1,h2⟩:=zw6.1 hl;have:=u0 key l (jC key i o) (L0 key i o ho fun x h=>hx x h i (by simp)) h2 fun x h y hy=>by
   rcases zx2.1 ((yI key i o).mem_iff.1 h) with rfl | h
   ·exact h1 y hy
   ·exact hx x h y (by simp[hy])
  refine ⟨this.1.trans ?_,this.2⟩;exact ((yI key i o).append_right l).trans List.perm_middle.symm
def cU(l:List Nat):List Int:=l.map fun n:Nat=>(n:Int)
def mg(l:List ak)(day known:Int):List Int:=cU (jy l day known)
def qT(l:List ak)(day known:Int):List Int:=cU (ka l day known)
theorem ap9(l:List ak)(known:Int):(eW l known).Pairwise (· < ·):=List.Pairwise.filter _ List.pairwise_lt_range
theorem QO{l:List ak}{known:Int}{i:Nat}(h:i∈eW l known):i<l.length:=by
 simp only[eW,zu8,zw4] at h;exact h.1
theorem tD(l:List ak)(day known:Int):(jy l day known).Pairwise (· < ·):=List.Pairwise.filter _ (ap9 l known)
theorem EP{l:List ak}{day known:Int}{i:Nat}(h:i∈jy l day known):i<l.length:=QO (zu8.1 h).1
theorem abz(l:List ak)(day known:Int):(mg l day known).Pairwise (· < ·):=by
 refine List.pairwise_map.2 ((tD l day known).imp fun {a b} h =>?_)
 show (a:Int)<(b:Int)
 omega
theorem aby{l:List ak}{day known:Int} : ∀ x∈mg l day known,j0 l x:=fun x hx=>by
 obtain ⟨i,hi,rfl⟩:=zw1.1 hx;have:=EP hi;exact ⟨by omega,by omega⟩
theorem wZ(l:List ak)(day known:Int):(jy l day known).length≤l.length:=by
 have h1:=zv5 (fun i=>decide ((ae l i).kind≠0)&&decide ((ae l i).day≤day)) (eW l known);have h2:=zv5 (fun i=>(gZ l known).getD i false) (List.range l.length);rw[List.length_range] at h2;exact zu4 h1 h2
theorem aoz{l:List ak}{day known:Int}{s:List Int}(hp:s.Perm (mg l day known))(hs:dC l s):s=qT l day known:=by
 have h0:=u0 (fun i=>(ae l i).day) (jy l day known) [] (by simp) (tD l day known) (by simp);have h1:(qT l day known).Perm (mg l day known):=h0.1.map _;have h2:dC l (qT l day known):=by
  refine List.pairwise_map.2 (h0.2.imp fun {a b} h =>?_);simp only[oz] at h;simp only[dX,gS,Int.toNat_natCast];omega
 refine List.Perm.eq_of_pairwise (fun a b _ _ h k =>?_) hs h2 (hp.trans h1.symm);simp only[dX] at h k;omega
theorem aoB{l:List ak}{day known:Int}{i:Nat}(h:i∈ka l day known):i∈jy l day known:=by
 have h0:=u0 (fun i=>(ae l i).day) (jy l day known) [] (by simp) (tD l day known) (by simp);exact h0.1.mem_iff.1 h
theorem NB(l:List ak)(day known:Int):(ka l day known).length=(jy l day known).length:=by
 have h0:=u0 (fun i=>(ae l i).day) (jy l day known) [] (by simp) (tD l day known) (by simp);exact h0.1.length_eq
theorem aob{x:ak}(h:gB x=true):0≤x.day∧x.day≤100000:=by
 simp only[gB,b7,zz3,decide_eq_true_eq] at h;omega
theorem Ax(l:List ak)(known:Int):(gZ l known).length=l.length:=Aw known l
theorem R8(el:List ak):aA Tryz.prog 203 [enc ([]:List Int),.int .i64 0,.int .i64 0,.func 138 [.ref (enc el)]] (.tuple []):=by
 refine aA.bp Tryz.func203 D7 Ei EC (t7 rfl) (fun hwf W0 D0 E1 =>?_);simp only[wz,zX,bl,zz4,Nat.reduceAdd];clear hwf;have hc:decide ((1:Int)<0)=false:=by decide
 have hw:IntKind.i64.wrap 1=1:=by decide
 refine .ar (by decide +kernel) fun K hK =>?_;simp only[x7,ab,Nat.reduceEqDiff,reduceIte];refine .done (hK _ ?_);clear hK K;refine U.block (U.loop (fun _:Unit=>aw [(2,.int .i64 0),(8,.int .i64 1)] []) (fun _=>True) (fun _=>0) () trivial ?_ (fun _ _ =>?_))
 ·refine aB.bE ?_ ?_ ?_ ?_ <;>simp[*,aQ,bt,br,aY,aS,I.only]
 have R:=v6 @hc (v6 @gK (v6 @aZ (v6 @aO @ab)))
 repeat' ((first |(with_reducible refine .guard (fun hb =>?_) (fun hb =>?_) <;>try simp only[hb])|refine U.aI (by decide +kernel) rfl fun K hK =>?_|(refine .aD [0,1,2,3,8,9,14,34] hK ?_;clear hK K)|(with_reducible refine .done (hK _ ?_);clear hK K)|refine U.of rfl ?_|(with_reducible refine al.aH (fun h =>?_) (fun h =>?_) <;>try simp only[h])) <;>try simp only[aJ,R,Nat.reduceEqDiff,reduceIte,Nat.reduceBEq])
 all_goals clear R
 rfl
theorem RS(el:List ak):aA Tryz.prog 171 [enc ([]:List Int),.int .i64 0,.func 138 [.ref (enc el)]] (.tuple []):=by
 refine aA.bp Tryz.func171 DZ Ef EA (t7 rfl) (fun hwf W0 D0 E1 =>?_);simp only[wv,zV,bl,zz4,Nat.reduceAdd];clear hwf;have hc:decide ((20:Int)≤0)=false:=by decide
 have hc2:decide ((20:Int)<0)=false:=by decide
 refine .ar (by decide +kernel) fun K hK =>?_;simp only[xU,ab];refine .done (hK _ ?_);clear hK K;refine .ar (by decide +kernel) fun K hK =>?_;simp only[xV,ab,Nat.reduceEqDiff,reduceIte];refine .done (hK _ ?_);clear hK K;refine U.seq (U.block (U.loop (fun _:Unit=>aw [(0,enc ([]:List Int)),(1,.int .i64 0),(2,.func 138 [.ref (enc el)]),(6,.int .i64 20),(7,.int .i64 0),(8,.int .i64 20)] []) (fun _=>True) (fun _=>0) () trivial ?_ (fun _ _ =>?_)))
 ·refine aB.bE ?_ ?_ ?_ ?_ <;>simp[aQ,bt,br,aY,aS,I.only,I.bV,bg]
 have R:=v6 @hc (v6 @gK (v6 @aZ (v6 @aO @ab)))
 repeat' ((first |refine U.aI (by decide +kernel) rfl fun K hK =>?_|refine .lead _ (R8 el) ?_|(refine .aD [0,1,2,6,7,8,9,13,30,35,54] hK ?_;clear hK K)|(with_reducible refine .done (hK _ ?_);clear hK K)|refine U.of rfl ?_|(with_reducible refine al.aH (fun h =>?_) (fun h =>?_) <;>try simp only[h])) <;>try simp only[aJ,R,Nat.reduceEqDiff,reduceIte,Nat.reduceBEq])
 all_goals clear R
 refine U.loop (fun _:Unit=>aw [(0,enc ([]:List Int)),(1,.int .i64 0),(2,.func 138 [.ref (enc el)]),(6,.int .i64 20)] []) (fun _=>True) (fun _=>0) () trivial ?_ (fun _ _ =>?_)
 ·refine aB.bE ?_ ?_ ?_ ?_ <;>simp[aQ,bt,br,aY,aS,I.only,I.bV,bg]
 have R:=v6 @hc2 (v6 @gK (v6 @aZ (v6 @aO @ab)))
 repeat' ((first |refine U.aI (by decide +kernel) rfl fun K hK =>?_|(refine .aD [0,1,2,6,7,8,9,13,30,35,54] hK ?_;clear hK K)|(with_reducible refine .done (hK _ ?_);clear hK K)|refine U.of rfl ?_|(with_reducible refine al.aH (fun h =>?_) (fun h =>?_) <;>try simp only[h])) <;>try simp only[aJ,R,Nat.reduceEqDiff,reduceIte,Nat.reduceBEq])
 all_goals clear R
 rfl
theorem Ru(el:List ak):aA Tryz.prog 137 [enc ([]:List Int),.func 138 [.ref (enc el)]] (.tuple []):=by
 refine aA.bp Tryz.func137 DW Ec Ew (t7 rfl) (fun hwf W0 D0 E1 =>?_);simp only[wo,zS,bl,zz4];clear hwf;have hz:(([]:List Int).length:Int)=0:=rfl;have R:=v6 @hz (v6 @gK (v6 @aZ (v6 @aO @ab)))
 repeat' ((first |refine U.aI (by decide +kernel) rfl fun K hK =>?_|refine .lead _ (RS el) ?_|(refine .aD [0,1] hK ?_;clear hK K)|(with_reducible refine .done (hK _ ?_);clear hK K)|refine U.of rfl ?_|(with_reducible refine al.aH (fun h =>?_) (fun h =>?_) <;>try simp only[h])) <;>try simp only[R,Nat.reduceEqDiff,reduceIte])
 all_goals clear R
 rfl
def aps(l:List cu):Prop:=∀ (i j:Nat) (hi:i<l.length) (hj:j<l.length),i<j→l[i].bU<l[j].bU
theorem aqS{m:bY}(h:ed m=true):aps m.given:=by
 simp only[ed,zz3,zx3,zw4] at h;have h1:∀ i,i+1<m.given.length→(dc m i).bU<(dc m (i+1)).bU:=fun i hi=>by
  have:=h.2.2.2 (i+1) hi;simp only[iu,zz3] at this;simpa using this.2.2.1
 intro i j hi hj hij;obtain ⟨d,rfl⟩:∃ d,j=i+1+d:=⟨j-(i+1),by omega⟩
 induction d with
 |zero=>rw[jY hi,jY hj];exact h1 i hj
 |succ d ih =>
  have hj':i+1+d<m.given.length:=by omega
  have:=ih hj' (by omega);rw[jY hi,jY hj'] at this;rw[jY hi,jY hj];have h3:=h1 (i+1+d) hj;have e:i+1+(d+1)=i+1+d+1:=by omega
  rw[e];omega
theorem M9{m:bY}(h:ed m=true):m.given.length≤40:=by
 simp only[ed,zz3,decide_eq_true_eq] at h;exact h.2.2.1
theorem Nc{m:bY}(h:ed m=true):∀ g∈m.given,ee g.mark=true:=fun g hg=>by
 simp only[ed,zz3,zx3,zw4] at h;obtain ⟨i,hi,rfl⟩:=zu3 hg;rw[jY hi];exact zt (h.2.2.2 i hi)
theorem R6(m:bY)(r:aX 6 Int)(g:cu)(hg:ee g.mark=true):aA Tryz.prog 201 (enc g::[.ref (enc m),.ref (enc r)]) (enc (decide (m.e7<mc m.fb g.mark r))):=by
 refine aA.bp Tryz.func201 U7 Xb Zo (t7 rfl) (fun hwf W0 D0 E1 =>?_);simp only[C5,O4,bl,zz4,Nat.reduceAdd];refine .ar (by decide +kernel) fun K hK =>?_;simp only[Ja,ab,simprocAttr]
 try simp only[du,ab,simprocAttr]
 refine .done (hK _ ?_);clear hK K;refine .ar (by decide +kernel) fun K hK =>?_;simp only[Jb,ab,simprocAttr]
 try simp only[cI,cN,ab,simprocAttr]
 refine .flat _ (R7 m.fb g.mark r hg) rfl ?_
 try simp only[cI,ab,simprocAttr]
 refine .done (hK _ ?_);clear hK K;refine U.ret ?_;simp only[ab,simprocAttr]
def lP(m:bY)(r:aX 6 Int):List cu:=gu (fun g=>decide (m.e7<mc m.fb g.mark r)) m.given
def NN(d:Nat)(m:bY)(r:aX 6 Int):cO:=fun x os'=>(lP m r=[]∧x=enc ([]:List cu)∧os'=[])∨∃ k,x=.view d [] 7 0 (lP m r).length∧os'=jo d (lP m r) k
theorem RP(m:bY)(r:aX 6 Int)(hm:∀ g∈m.given,ee g.mark=true)(hlen:m.given.length≤1000):cF Tryz.prog 168 [enc m,enc r] [] (NN 7 m r):=by
 refine cF.bp Tryz.func168 UP WQ Y5 (t7 rfl) (t7 rfl) (fun m hm=>by simp[aq,ao] at hm) (fun hwf W0 D0 E1 =>?_);simp only[CM,OL,bl,zz4];refine .ar (by decide +kernel) fun K hK =>?_;simp only[Ig,ab,simprocAttr]
 try simp only[du,ab,simprocAttr]
 refine .done (hK _ ?_);clear hK K;refine .ar (by decide +kernel) fun K hK =>?_;simp only[Ih,ab,simprocAttr]
 try simp only[cI,cN,ab,simprocAttr]
 refine .bQ false [(7,7)] [] [enc m.given] (wN m.given) rfl (A8 m.given hlen) fK.nil ⟨.inl ⟨(ij _ _).symm,bg _ _,du _⟩,trivial⟩ ?_ ?_
 ·rintro x os' (⟨_,h | h,rfl⟩ | ⟨_,k,rfl,rfl⟩)
  ·subst h;exact dn.nil (fun _=>rfl) (fun h=>by cases h)
  ·subst h;exact dn.nil (fun _=>rfl) (fun h=>by cases h)
  ·exact dn.oG (fun p=>nw p _) (fun h=>by cases h) rfl (fun h=>by cases h) rfl (by decide)
 ·have hd:I.eY [.ref (enc m),.ref (enc r)]=true:=by simp only[I.eY,I.done,dL,zw7]
  rintro x os' (⟨hn,h,rfl⟩ | ⟨hn,k,rfl,rfl⟩)
  ·have hp:lP m r=[]:=by simp[lP,gu,hn]
   have key:∀ x,(x=.nils 7∨x=.c0 7)→bC true (aw [] []) x=some (enc ([]:List cu)):=by rintro x (rfl | rfl) <;>rfl
   have hren:∀ x:I,(x=.nils 7∨x=.c0 7)→x.aN (bD [(7,7)])=x∧x.cq=true:=by rintro x (rfl | rfl) <;>exact ⟨by simp only[I.aN],rfl⟩
   rw[(hren x h).1]
   try simp only[fy,zy3,List.all_cons,List.all_nil,I.cq,zw7,ab,simprocAttr]
   have hfx:∀ A,bC true A x=some (enc ([]:List cu)):=fun A=>by rcases h with rfl | rfl <;>simp only[bC,gT,zx1] <;>rfl
   refine .iQ [2,3] (enc ([]:List cu)) rfl (R5 201 [.ref (enc m),.ref (enc r)] hd) ?_ ?_ ?_
   ·try simp only[hfx,ji,zx8,zu2,List.contains_cons,Nat.reduceBEq,Bool.or_true,Bool.true_or,BEq.rfl,dL,ab,simprocAttr]
   ·simp[cR,aY]
   ·try simp only[gU,cR,zx8,zu2,List.contains_cons,Nat.reduceBEq,Bool.or_true,Bool.true_or,BEq.rfl,zy2,zx1,ab,simprocAttr]
    refine .done (hK _ ?_);clear hK K;refine U.ret ?_;simp only[eA];exact ⟨[],[enc ([]:List cu)],pj,⟨⟨_,rfl,.inl ⟨rfl,rfl,rfl⟩⟩,trivial⟩,.inl ⟨hp,rfl,rfl⟩⟩
  ·try simp only[jo,fy,eP,zz9,zy3,List.all_cons,List.all_nil,I.cq,zw7,ab,simprocAttr]
   refine .bQ true [(1000000,7)] (jo 1000000 m.given k) [.view 1000000 [] 7 0 m.given.length,.func 201 [.ref (enc m),.ref (enc r)]] (EH 1000000 (lP m r)) rfl
    (R4 m.given 201 [.ref (enc m),.ref (enc r)] hd (fun g=>decide (m.e7<mc m.fb g.mark r)) (fun g hg=>R6 m r g (hm g hg)) hlen k) ⟨?_,?_⟩ ⟨.inl ⟨?_,?_,rfl⟩,.inr ?_,trivial⟩ ?_ ?_
   ·intro n x h;simp only[jo,ao] at h;split at h
    ·rename_i hn';subst hn';simp only[u8] at h;subst h;exact ⟨by simp only[fy,eP,ab,simprocAttr],nw _ _,rfl⟩
    ·cases h
   ·intro a b ha hb _;rw[cz.1 ha,cz.1 hb]
   ·try simp only[fy,simprocAttr]
   ·exact cz.2 rfl
   ·try simp only[j6,jo,bD,cR,zx8,zu2,zy2,zx1,List.contains_cons,List.contains_nil,Nat.reduceBEq,Bool.or_false,BEq.rfl,dL,ab,simprocAttr]
   ·rintro x os' ⟨k',rfl,rfl⟩;exact dn.one (fun p=>nw p _) (fun _=>amP _) (cz.2 rfl) (fun _=>rfl)
   ·rintro x os' ⟨k',rfl,rfl⟩
    try simp only[jo,fy,eP,zz9,zy3,ab,simprocAttr]
    refine .done (hK _ ?_);clear hK K;refine U.ret ?_;simp only[eA];exact ⟨jo 7 (lP m r) k',[.view 7 [] 7 0 (lP m r).length],iE rfl (fun p=>nw p _),⟨⟨_,rfl,.inl ⟨rfl,rfl,rfl⟩⟩,trivial⟩,.inr ⟨k',rfl,rfl⟩⟩
def lN(l:List cu)(i:Nat):List Int:=(l.take i).map (·.bU)
theorem aoE(l:List cu):lN l 0=[]:=by simp[lN]
theorem aoD{l:List cu}{i:Nat}(h:i<l.length):lN l (i+1)=lN l i++[l[i].bU]:=by
 simp only[lN];rw[zz8 h,zx4];rfl
theorem NC{l:List cu}{i:Nat}(h:i≤l.length):(lN l i).length=i:=by simp[lN];omega
theorem aoC(l:List cu):lN l l.length=l.map (·.bU):=by simp[lN]
theorem RQ(l:List cu)(hlen:l.length≤1000):aA Tryz.prog 169 [enc l] (enc (l.map (·.bU))):=by
 refine aA.bp Tryz.func169 UQ WR Y6 (t7 rfl) (fun hwf W0 D0 E1 =>?_);simp only[CN,OM,bl];refine .ar (by decide +kernel) fun K hK =>?_;simp only[Ii,ab,simprocAttr];refine .done (hK _ ?_);clear hK K;refine .ar (by decide +kernel) fun K hK =>?_;simp only[Ij,ab,simprocAttr];refine .done (hK _ ?_);clear hK K;refine U.seq ?_;refine U.seq (U.bx (by decide +kernel) fun K hK =>?_)
 try simp only[Ik,aZ,ab,simprocAttr]
 refine .done (hK _ ?_);clear hK K;refine U.block (U.loop (fun i:Nat=>aw [(3,.own 3 (lN l i).length),(6,enc l),(7,.int .i64 l.length),(8,.int .i64 i)] [(3,.b9 3 1 ((lN l i).map enc))]) (fun i=>i≤l.length) (fun i=>l.length-i) 0 (zw3 _) ?_ (fun i hi =>?_))
 ·refine aB.p9 3 3 3 1 1 ?_ ?_ ?_
  ·simp only[p8,Nat.reduceEqDiff,reduceIte]
  ·simp only[p8]
  ·simp only[aoE,zx1,zv0];refine aB.bE ?_ ?_ ?_ ?_ <;>simp[aQ,bt,br,aY,aq,aS,bT,I.only,I.bV,ah.only,bg]
 ·refine .ar (by decide +kernel) fun K hK =>?_;simp only[Il,ab,simprocAttr];refine .done (hK _ ?_);clear hK K;refine U.seq ?_;refine U.bL ?_;simp only[al,ab,simprocAttr];refine ⟨fun h =>?_,fun h =>?_⟩
  ·have hlt:i<l.length:=by simpa using h
   refine U.skip ?_;try simp only[au,simprocAttr]
   refine U.seq (U.block ?_);refine .ar (by decide +kernel) fun K hK =>?_;simp only[Im,ab,simprocAttr]
   try simp only[fm 7 hlt rfl,cI,ab,simprocAttr]
   rw[eG (du _) (by rw[fW];rfl) ((eT _).trans rfl)]
   try simp only[ab,simprocAttr]
   refine .done (hK _ ?_);clear hK K;refine .bx (by decide +kernel) fun K hK =>?_;simp only[Io,ab,simprocAttr]
   try simp only[cI,ab,simprocAttr]
   rw[m9 3 1 8 3 rfl rfl (by simp) (by simp[maxLen,NC hi];omega) (by simp[NC hi];omega)]
   try simp only[ab,simprocAttr]
   refine .done (hK _ ?_);clear hK K;try simp only[au,bP]
   refine .bx (by decide +kernel) fun K hK =>?_;simp only[Ip,ab,simprocAttr];refine .done (hK _ ?_);clear hK K;try simp only[au]
   refine ⟨i+1,by omega,by omega,?_⟩;rw[cG _ (by omega) (by omega),aoD hlt];refine aB.bE ?_ ?_ ?_ ?_ <;>simp[aQ,bt,br,aY,aq,aS,bT,I.only,I.bV,ah.only,c9,fI,bg,ig]
  ·have hge:i=l.length:=by simp at h;omega
   subst hge;refine U.exit ?_;try simp only[au,bP,simprocAttr]
   refine .ar (by decide +kernel) fun K hK =>?_;simp only[Iq,ab,simprocAttr];refine .done (hK _ ?_);clear hK K;refine U.ret ?_
   try simp only[aoC,ab,simprocAttr]
def eF(rs:List (aX 6 Int))(j:Nat):aX 6 Int:=rs.getD j lW
theorem al4{A:af}{rs:List (aX 6 Int)}{i:Nat}(h:i<rs.length):jh A 6 (i:Int) (enc rs)=some (.ref (enc (eF rs i))):=by
 rw[fm 6 h rfl];simp[eF,zz0,h]
def EO(m:bY)(rs:List (aX 6 Int))(g:cu)(j:Nat):Bool:=decide (mc m.fb g.mark (eF rs j)≤m.e7)
def j8(m:bY)(rs:List (aX 6 Int))(n:Nat):List cu:=m.given.filter fun g=>(List.range n).all (EO m rs g)
theorem an5(m:bY)(rs:List (aX 6 Int)):j8 m rs 0=m.given:=by simp[j8]
theorem MW(m:bY)(rs:List (aX 6 Int))(n:Nat):j8 m rs (n+1)=lP ⟨m.fb,m.e7,j8 m rs n⟩ (eF rs n):=by
 simp only[j8,lP,gu,List.filter_filter];refine List.filter_congr fun g _ =>?_;rw[List.range_succ,List.all_append];simp only[List.all_cons,List.all_nil,Bool.and_true,EO];by_cases h:mc m.fb g.mark (eF rs n)≤m.e7
 ·have h2:¬ m.e7<mc m.fb g.mark (eF rs n):=by omega
  simp[h,h2]
 ·have h2:m.e7<mc m.fb g.mark (eF rs n):=by omega
  simp[h,h2]
theorem an4{m:bY}{rs:List (aX 6 Int)}{n:Nat}{g:cu}(h:g∈j8 m rs n):g∈m.given:=(zu8.1 h).1
theorem MV(m:bY)(rs:List (aX 6 Int))(n:Nat):(j8 m rs n).length≤m.given.length:=zv5 _ _
def zA(rs:List (aX 6 Int)):Bool:=(List.range rs.length).all fun i=>iJ (eF rs i)
def jG(m:bY)(rs:List (aX 6 Int)):List Int×Int:=if ed m then (if rs.length≤60 then (if zA rs then ((j8 m rs rs.length).map (·.bU),0) else ([],12)) else ([],2)) else ([],13)
theorem TO(w:aX 5 Int)(n:Int)(l:List cu):dN [enc (a5 0 0 0 0 0),.int .i64 0,.nils 7] [(0,enc w),(1,.int .i64 n),(2,enc l)]=some [enc w,.int .i64 n,enc l]:=by
 have h1:((enc w:I).cq=true∧(enc w:I).size=(enc (a5 0 0 0 0 0)).size):=⟨du _,by rw[gG,gG]⟩
 have h2:((enc l:I).cq=true∧(enc l:I).size=(I.nils 7).size):=⟨du _,by rw[gG];rfl⟩
 rw[pM (z:=enc (a5 0 0 0 0 0)) rfl h1.1 h1.2,pM (v:=.int .i64 n) (z:=.int .i64 0) rfl rfl rfl,pM (z:=.nils 7) rfl h2.1 h2.2];rfl
theorem Rn(m:bY)(rs:List (aX 6 Int)):aA Tryz.prog 128 [enc m,enc rs] (.tuple [enc (jG m rs).1,enc (jG m rs).2]):=by
 refine aA.bp Tryz.func128 Ui Wg Yx (t7 rfl) (fun hwf W0 D0 E1 =>?_);simp only[Ce,N9,bl,zz4];refine .ar (by decide +kernel) fun K hK =>?_;simp only[GA,ab,simprocAttr]
 try simp only[du,ab,simprocAttr]
 refine .done (hK _ ?_);clear hK K;refine U.seq ?_;refine .ar (by decide +kernel) fun K hK =>?_;simp only[GB,ab,simprocAttr]
 try simp only[cI,cN,ab,simprocAttr]
 refine .flat _ (sY m) rfl ?_;generalize hm:ed m=bm;cases bm
 ·try simp only[ab,simprocAttr]
  refine .done (hK _ ?_);clear hK K;refine .ar (by decide +kernel) fun K hK =>?_;simp only[xF,ab,simprocAttr];refine .done (hK _ ?_);clear hK K;refine U.bL ?_;simp only[al,ab,simprocAttr];refine ⟨fun h =>?_,fun h =>?_⟩
  ·refine .ar (by decide +kernel) fun K hK =>?_;simp only[GC,ab,simprocAttr];refine .done (hK _ ?_);clear hK K;refine U.ret ?_;simp only[au,ab,simprocAttr];simp[jG,hm,zk]
  ·cases h
 try simp only[ab,simprocAttr]
 refine .done (hK _ ?_);clear hK K;refine .ar (by decide +kernel) fun K hK =>?_;simp only[xF,ab,simprocAttr];refine .done (hK _ ?_);clear hK K;refine U.bL ?_;simp only[al,ab,simprocAttr];refine ⟨fun h =>?_,fun h =>?_⟩
 ·cases h
 refine U.skip ?_;try simp only[au,simprocAttr]
 refine U.seq ?_;refine .ar (by decide +kernel) fun K hK =>?_;simp only[GD,ab,simprocAttr]
 try simp only[aZ,ab,simprocAttr]
 refine .done (hK _ ?_);clear hK K;refine U.bL ?_;simp only[al,ab,simprocAttr];refine ⟨fun h =>?_,fun h =>?_⟩
 ·refine .ar (by decide +kernel) fun K hK =>?_;simp only[GF,ab,simprocAttr];refine .done (hK _ ?_);clear hK K;refine U.ret ?_;simp only[au,ab,simprocAttr];have:¬ rs.length≤60:=by simp at h;omega
  simp[jG,hm,this,zk]
 have hrl:rs.length≤60:=by simp at h;omega
 refine U.skip ?_;try simp only[au,simprocAttr]
 have hlen:m.given.length≤1000:=by have:=M9 hm;omega
 -- from the clone on
 have key:∀ c:c6,c=⟨Tryz.prog,W0,D0,Tryz.f128.ntmps,dJ E1,E1,jk,none⟩→U c (.seq (.seq (.bX none xG) (.block 0 (.loop (.seq (.bX none xH) (.seq (.cond (.t 25) .skip (.exit 0)) (.seq (.block 1 (.seq (.bX none xI) (.seq (.seq (.bX none xB) (.seq (.bX none tL) (.cond (.t 31) (.seq (.bX none xC) .ret) .skip))) (.bX none xD)))) (.bX none tM))))))) (.seq (.bX none xE) .ret))
   (kc [.tmp 4,.tmp 5] (.tuple [enc (jG m rs).1,enc (jG m rs).2])) (aw [(1,enc rs),(2,.ptr 2 []),(7,enc m.given)] [(2,.box (enc m))]):=by
  rintro c rfl;refine U.seq ?_;refine .ar (by decide +kernel) fun K hK =>?_;simp only[xG,ab,simprocAttr]
  try simp only[aZ,ab,simprocAttr]
  refine .done (hK _ ?_);clear hK K;refine U.block (U.loop (fun i:Nat=>aw [(1,enc rs),(2,.ptr 2 []),(7,enc (j8 m rs i)),(22,enc rs),(23,.int .i64 rs.length),(24,.int .i64 i)] [(2,.box (enc m))]) (fun i=>i≤rs.length∧∀ j,j<i→iJ (eF rs j)=true) (fun i=>rs.length-i) 0 ⟨by omega,fun j h=>by omega⟩ ?_ (fun i hi =>?_))
  ·rw[an5];refine aB.bE ?_ ?_ ?_ ?_ <;>simp[aQ,bt,br,aY,aq,aS,bT,I.only,ah.only,bg]
  refine .ar (by decide +kernel) fun K hK =>?_;simp only[xH,ab,simprocAttr];refine .done (hK _ ?_);clear hK K;refine U.seq ?_;refine U.bL ?_;simp only[al,ab,simprocAttr];refine ⟨fun h =>?_,fun h =>?_⟩
  case refine_2.refine_2 =>
   have hge:i=rs.length:=by simp at h;omega
   subst hge;have hok:zA rs=true:=rF hi.2;refine U.exit ?_;try simp only[au,bP,simprocAttr]
   refine .ar (by decide +kernel) fun K hK =>?_;simp only[xE,ab,simprocAttr]
   try simp only[cN,ab,simprocAttr]
   refine .lead _ (RQ (j8 m rs rs.length) (zu4 (MV _ _ _) hlen)) ?_
   try simp only[ab,simprocAttr]
   refine .done (hK _ ?_);clear hK K;refine U.ret ?_;simp only[ab,simprocAttr]
   try simp only[cN,ab,simprocAttr]
   simp[jG,hm,hrl,hok]
  have hlt:i<rs.length:=by simp at h;omega
  refine U.skip ?_;try simp only[au,simprocAttr]
  refine U.seq (U.block ?_);refine .ar (by decide +kernel) fun K hK =>?_;simp only[xI,ab,simprocAttr]
  try simp only[cI,al4 hlt,ET,rl,ab,simprocAttr]
  refine .done (hK _ ?_);clear hK K;refine U.seq ?_;refine .ar (by decide +kernel) fun K hK =>?_;simp only[xB,ab,simprocAttr]
  try simp only[cI,cN,ab,simprocAttr]
  refine .flat _ (A5 (eF rs i)) rfl ?_;generalize hr:iJ (eF rs i)=aH;cases aH
  ·try simp only[ab,simprocAttr]
   refine .done (hK _ ?_);clear hK K;refine .ar (by decide +kernel) fun K hK =>?_;simp only[tL,ab,simprocAttr];refine .done (hK _ ?_);clear hK K;refine U.bL ?_;simp only[al,ab,simprocAttr];refine ⟨fun h =>?_,fun h =>?_⟩
   ·refine .ar (by decide +kernel) fun K hK =>?_;simp only[xC,ab,simprocAttr];refine .done (hK _ ?_);clear hK K;refine U.ret ?_;simp only[bP,au,ab,simprocAttr];have hok:zA rs=false:=oX i hlt hr;simp[jG,hm,hrl,hok,zk]
   ·cases h
  try simp only[ab,simprocAttr]
  refine .done (hK _ ?_);clear hK K;refine .ar (by decide +kernel) fun K hK =>?_;simp only[tL,ab,simprocAttr];refine .done (hK _ ?_);clear hK K;refine U.bL ?_;simp only[al,ab,simprocAttr];refine ⟨fun h =>?_,fun h =>?_⟩
  ·cases h
  refine U.skip ?_;try simp only[au,simprocAttr]
  have hof:∀ j,j<i+1→iJ (eF rs j)=true:=fun j hj=>by
   rcases Nat.lt_or_ge j i with h1 | h1
   ·exact hi.2 j h1
   ·have:j=i:=by omega
    subst this;exact hr
  refine .bx (by decide +kernel) fun K hK =>?_;simp only[xD,ab,simprocAttr]
  try simp only[cI,cN,TO,ES,rR,ab,simprocAttr]
  refine .bQ false [(7,40)] [] [enc (⟨m.fb,m.e7,j8 m rs i⟩:bY),enc (eF rs i)] (NN 7 ⟨m.fb,m.e7,j8 m rs i⟩ (eF rs i)) rfl (RP ⟨m.fb,m.e7,j8 m rs i⟩ (eF rs i) (fun g hg=>Nc hm g (an4 hg)) (zu4 (MV m rs i) hlen)) fK.nil ⟨.inl ⟨(ij _ _).symm,bg _ _,du _⟩,.inl ⟨(ij _ _).symm,bg _ _,du _⟩,trivial⟩ ?_ ?_
  ·rintro x os' (⟨_,rfl,rfl⟩ | ⟨k,rfl,rfl⟩)
   ·exact dn.nil (fun _=>rfl) (fun h=>by cases h)
   ·exact dn.oG (fun p=>nw p _) (fun h=>by cases h) rfl (fun h=>by cases h) rfl (by decide)
  ·rintro x os' (⟨hp,rfl,rfl⟩ | ⟨k,rfl,rfl⟩)
   ·try simp only[ij,fy,zy3,ab,simprocAttr]
    refine .done (hK _ ?_);clear hK K;try simp only[au,bP]
    refine .bx (by decide +kernel) fun K hK =>?_;simp only[tM,ab,simprocAttr];refine .done (hK _ ?_);clear hK K;try simp only[au]
    refine ⟨i+1,⟨by omega,hof⟩,by omega,?_⟩;rw[cG _ (by omega) (by omega),MW,hp];refine aB.bE ?_ ?_ ?_ ?_ <;>simp[aQ,bt,br,aY,aq,aS,bT,I.only,ah.only,bg]
   ·try simp only[jo,fy,eP,zz9,zy3,ab,simprocAttr]
    refine .done (hK _ ?_);clear hK K;try simp only[au,bP]
    refine .bx (by decide +kernel) fun K hK =>?_;simp only[tM,ab,simprocAttr];refine .done (hK _ ?_);clear hK K;try simp only[au]
    refine ⟨i+1,⟨by omega,hof⟩,by omega,?_⟩;rw[cG _ (by omega) (by omega),MW];refine aB.qy (y:=enc (lP ⟨m.fb,m.e7,j8 m rs i⟩ (eF rs i))) [40] 7 rfl ?_ ?_ ?_ ?_ ?_ ?_
    ·try simp only[ji,zx8,zu2,List.contains_cons,List.contains_nil,Nat.reduceBEq,Bool.or_false,BEq.rfl,pc (α:=cu) (sz:=7) rfl,AF,ab,simprocAttr]
    ·simp[cR,aY,ah.only,bg]
    ·simp[aQ,gU,aS,I.only,bg]
    ·simp[bt,cR,bT]
    ·simp[br,aq,bT,I.only,bg]
    ·simp[aY,ah.only,bg]
 refine .ar (by decide +kernel) fun K hK =>?_;simp only[GG,ab,simprocAttr]
 try simp only[cI,cN,ab,simprocAttr]
 refine .bQ false [(7,21)] [] [enc m.given] (wN m.given) rfl (A8 m.given hlen) fK.nil ⟨.inl ⟨(ij _ _).symm,bg _ _,du _⟩,trivial⟩ ?_ ?_
 ·rintro x os' (⟨_,h | h,rfl⟩ | ⟨_,k,rfl,rfl⟩)
  ·subst h;exact dn.nil (fun _=>rfl) (fun h=>by cases h)
  ·subst h;exact dn.nil (fun _=>rfl) (fun h=>by cases h)
  ·exact dn.oG (fun p=>nw p _) (fun h=>by cases h) rfl (fun h=>by cases h) rfl (by decide)
 ·rintro x os' (⟨hn,h,rfl⟩ | ⟨hn,k,rfl,rfl⟩)
  ·have hren:∀ x:I,(x=.nils 7∨x=.c0 7)→x.aN (bD [(7,21)])=x:=by rintro x (rfl | rfl) <;>simp only[I.aN]
   rw[hren x h]
   try simp only[fy,zy3,ab,simprocAttr]
   refine .done (hK _ ?_);clear hK K;refine U.sub (aB.qy (y:=enc m.given) [] 7 rfl ?_ ?_ ?_ ?_ ?_ ?_) (key _ rfl)
   ·rw[hn];rcases h with rfl | rfl <;>simp only[gT,zx1] <;>rfl
   ·simp[cR,aY,ah.only,bg]
   ·simp[aQ,gU,aS,I.only,bg]
   ·simp[bt,cR,bT]
   ·simp[br,aq,bT,I.only,bg]
   ·simp[aY,ah.only,bg]
  ·try simp only[jo,fy,eP,zz9,zy3,ab,simprocAttr]
   refine .done (hK _ ?_);clear hK K;refine U.sub (aB.qy (y:=enc m.given) [21] 7 rfl ?_ ?_ ?_ ?_ ?_ ?_) (key _ rfl)
   ·try simp only[ji,zx8,zu2,List.contains_cons,List.contains_nil,Nat.reduceBEq,Bool.or_false,BEq.rfl,pc (α:=cu) (sz:=7) rfl,AF,ab,simprocAttr]
   ·simp[cR,aY,ah.only,bg]
   ·simp[aQ,gU,aS,I.only,bg]
   ·simp[bt,cR,bT]
   ·simp[br,aq,bT,I.only,bg]
   ·simp[aY,ah.only,bg]
theorem Fg(n:Nat)(ts:List (Nat×I)):∀ t,Abs.cm (gU [n] ts) t=if (Abs.cm ts t).only (fun j => ![n].contains j)=true then Abs.cm ts t else .dx:=by
 intro t;simp only[gU]
 induction ts with
 |nil=>simp[Abs.cm]
 |cons q ts ih =>
  obtain ⟨k,v⟩:=q;simp only[zy2,Abs.cm];split
  ·rfl
  ·exact ih
theorem rz{p q:Nat→Bool}(h:∀ n,p n=true→q n=true){y:ah}(hy:y.only p=true):y.only q=true:=by
 cases y with
 |box x=>exact jH h _ hy
 |b9 T sz es=>exact jl h _ hy
 |dZ o=>rfl
 |c4 T xs=>rfl
 |cE ks vs=>simp only[ah.only,zz3] at hy ⊢;exact ⟨jl h _ hy.1,jl h _ hy.2⟩
 |it ks vs l c=>simp only[ah.only,zz3] at hy ⊢;exact ⟨jl h _ hy.1,jl h _ hy.2⟩
theorem qR{n k:Nat} : ∀ {ts:List (Nat×I)},(∀ q∈ts,lM n k q.2)→∀ t,lM n k (Abs.cm ts t)
 | [],_,_=>.inr rfl
 |(a,v)::ts,h,t=>by
  simp only[Abs.cm];split
  ·exact h (a,v) (by simp)
  ·exact qR (fun q hq=>h q (by simp[hq])) t
theorem uY{p:Nat→Bool}{n k:Nat}(hp:p=fun j => ![n].contains j)(f:ah→ah)(hf:∀ y:ah,y.only p=true→f y=y):∀ {os:List (Nat×ah)},aY p (cR [n] os)→aY p (cR [n] (os.map fun q=>(q.1,f q.2)))
 | [],_=>trivial
 |(m,y)::os,h=>by
  simp only[zy2,cR,zx8] at h ⊢;split
  ·rename_i hm;rw[if_pos hm] at h;refine ⟨?_,uY (k:=k) hp f hf h.2⟩;rw[hf y h.1];exact h.1
  ·rename_i hm;rw[if_neg hm] at h;exact uY (k:=k) hp f hf h
theorem xp{ys q:List Int}{k:Nat}(hk:ys.length=k):lH 1 0 k (some ((ys++q).map enc))=some (enc ys):=by
 have h:(((ys++q).map (enc (α:=Int))).drop 0).take k=ys.map enc:=by
  rw[List.drop_zero,zx4,zx7 (by simp[hk]),zv6 (by simp[hk])]
 simp only[lH,h];rw[if_pos (lB ys),gT];rfl
theorem AE{n k:Nat} : ∀ y:ah,y.only (fun j => ![n].contains j)=true→iW (fB n k) y=y:=fun y hy=>by
 cases y <;>try rfl
 simp only[ah.only] at hy;simp only[iW,rr (jH (fun j hj=>by simpa using hj) _ hy)]
theorem QV{n:Nat} : ∀ y:ah,y.only (fun j => ![n].contains j)=true→iW (gm n) y=y:=fun y hy=>by
 cases y <;>try rfl
 simp only[ah.only] at hy;simp only[iW,AD (jH (fun j hj=>by simpa using hj) _ hy)]
theorem Az{ts ts':List (Nat×I)}(h:∀ q∈ts',Abs.cm ts q.1=q.2):aQ ts ts':=by
 induction ts' with
 |nil=>trivial
 |cons q ts' ih=>exact ⟨h q (by simp),ih fun q hq=>h q (by simp[hq])⟩
theorem U.iU{W0:World}{D0:aW}{nn:Nat}{ow:Nat→Prop}{E1:a8}{Y:Value→List I→List (Nat×ah)→cO→Prop}{lj:Option Nat}{y:aR}{Q:Exit→af→Prop}{ts:List (Nat×I)}{os:List (Nat×ah)}{a b d n:Nat}{xs:List Int}
  (hd:Abs.cm ts d=.own n xs.length) (hn:ao os n=some (.c4 3 xs)) (hlt:n<1000000) (hl:xs.length≤60) (ht:∀ t,lM n xs.length (Abs.cm ts t)) (ho:aY (fun j => ![n].contains j) (cR [n] os))
  (ts':List (Nat×I)) (h1:∀ q∈ts',q.1≠a∧q.1≠b∧Abs.cm ts q.1=q.2∧q.2.only (fun j=>j != n)=true)
  (hda:d≠a) (hdb:d≠b)
  (h:U ⟨Tryz.prog,W0,D0,nn,ow,E1,Y,lj⟩ y Q (aw ((d,enc (cS xs))::ts') (cR [n] os))) :
  U ⟨Tryz.prog,W0,D0,nn,ow,E1,Y,lj⟩ (.seq (.bX none [⟨some a,.mv (.t d),none⟩,⟨some b,.call 107 [.t a],none⟩]) y) Q (aw ts os):=by
 have hdrop:∀ m,ao (cR [n] os) m=if m=n then none else ao os m:=fun m=>by
  have:=nu [n] os m;simpa using this
 have ho':∀ m y,ao os m=some y→m≠n→y.only (fun j=>j != n)=true:=fun m y hy hm=>by
  have:=uX ho m y (by rw[hdrop,if_neg hm];exact hy);exact rz (fun j hj=>by simpa using hj) this
 by_cases hx:xs=[]
 ·subst hx;refine U.sub (aB.QZ hn (aB.refl _)) ?_;refine U.seq (U.bX (cl:=[]) (by rfl) fun K hK =>?_);have hd':Abs.cm (ts.map fun q=>(q.1,gm n q.2)) d=.nils 1:=by
   rw[oy _ rfl,hd];simp[gm]
  simp only[ab,simprocAttr,hd'];refine .flat _ (AR _ (.inr rfl)) rfl ?_
  try simp only[ab,simprocAttr]
  refine .done (hK _ ?_);clear hK K;refine U.sub ((aB.iQ [n] d (x:=.nils 1) (y:=enc ([]:List Int)) ?_ (by rfl) ?_).trans (aB.dj ?_ fun m =>?_)) h
  ·simp only[Abs.cm,hda,hdb,if_false];exact hd'
  ·exact uY (k:=0) rfl (iW (gm n)) QV ho
  ·refine ⟨by simp[Abs.cm,cS],Az fun q hq =>?_⟩;obtain ⟨k1,k2,k3,k4⟩:=h1 q hq;have hqd:q.1≠d:=fun e=>by
    rw[e,hd] at k3;rw[←k3] at k4;simp[I.only] at k4
   have h5:Abs.cm (ts.map fun p=>(p.1,gm n p.2)) q.1=q.2:=by
    rw[oy _ rfl,k3,AD k4]
   simp only[Abs.cm,Fg,k1,k2,hqd,if_false,h5];rw[if_pos (jH (fun j hj=>by simpa using hj) _ k4)]
  ·rw[hdrop,nu,sh];by_cases hm:m=n
   ·simp[hm]
   ·cases h6:ao os m with
    |none=>simp[hm]
    |some y =>
     have h7:iW (gm n) y=y:=QV _ (rz (fun j hj=>by simpa using hj) (ho' _ _ h6 hm));simp[hm,h7]
 ·refine U.AI hn hx hlt ht (fun m y hy hm=>.inr (ho' m y hy hm)) fun q =>?_;refine U.seq (U.bX (cl:=[]) (by rfl) fun K hK =>?_);have hd':Abs.cm (ts.map fun p=>(p.1,fB n xs.length p.2)) d=.view n [] 1 0 xs.length:=by
   rw[oy _ rfl,hd];simp[fB]
  simp only[ab,simprocAttr,hd'];refine .bQ false [(1000000,n)] (bK 1000000 (xs++List.replicate q 0)) [.view 1000000 [] 1 0 xs.length] _ rfl (vJ xs _ (by omega)) ?_ ?_ ?_ ?_
  ·refine ⟨fun m y hy =>?_,fun m m' h h' _=>by rw[cz.1 h,cz.1 h']⟩;simp only[bK,ao] at hy;split at hy
   ·rename_i hm;cases hy;subst hm;exact ⟨by simp only[bD,if_true,ao,ah.aN,I.aN,eP],fZ _ _,rfl⟩
   ·cases hy
  ·exact ⟨.inl ⟨by simp[I.aN,bD],cz.2 rfl,rfl⟩,trivial⟩
  ·rintro eF os2 ⟨rfl,rfl⟩;refine ⟨fun m y hy =>?_,fun m m' h h' _=>by rw[cz.1 h,cz.1 h'],fun m hm=>by rw[cz.1 hm];exact cz.2 rfl,fun m a b=>by rw[cz.1 a] at b;simp[bK,aq,ao] at b,rfl,fun _=>rfl⟩;simp only[bK,ao] at hy;split at hy
   ·cases hy;exact ⟨fZ _ _,rfl,fun h=>by cases h⟩
   ·cases hy
  ·rintro eF os2 ⟨rfl,rfl⟩
   try simp only[bK,dB,zy2,zx1,ah.aN,I.aN,eP,bD,reduceIte,zz9,zy3,I.cZ,ab,simprocAttr]
   refine .done (hK _ ?_);clear hK K;refine U.sub ((aB.iQ [n] d (x:=.view n [] 1 0 xs.length) (y:=enc (cS xs)) ?_ ?_ ?_).trans (aB.dj ?_ fun m =>?_)) h
   ·simp only[Abs.cm,hda,hdb,if_false];exact hd'
   ·have:ao (ji [n] ((n,ah.box (I.agg ((cS xs++List.replicate q 0).map enc)))::(n,ah.box (I.agg ((xs++List.replicate q 0).map enc)))::os.map fun p=>(p.1,iW (fB n xs.length) p.2))) n=some (.box (.agg ((cS xs++List.replicate q 0).map enc))):=by
     rw[px];simp[ao]
    try simp only[this,ab,simprocAttr]
    exact xp (by simp[cS])
   ·have:=uY (k:=0) rfl (iW (fB n xs.length)) AE ho;simpa[cR] using this
   ·refine ⟨by simp[Abs.cm],Az fun q hq =>?_⟩;obtain ⟨k1,k2,k3,k4⟩:=h1 q hq;have hqd:q.1≠d:=fun e=>by
     rw[e,hd] at k3;rw[←k3] at k4;simp[I.only] at k4
    have h5:Abs.cm (ts.map fun p=>(p.1,fB n xs.length p.2)) q.1=q.2:=by
     rw[oy _ rfl,k3,rr k4]
    simp only[Abs.cm,Fg,k1,k2,hqd,if_false,h5];rw[if_pos (jH (fun j hj=>by simpa using hj) _ k4)]
   ·rw[hdrop,nu];by_cases hm:m=n
    ·simp[hm]
    ·simp only[ao,if_neg hm,sh];cases h6:ao os m with
     |none=>simp[hm]
     |some y =>
      have h7:iW (fB n xs.length) y=y:=AE _ (rz (fun j hj=>by simpa using hj) (ho' _ _ h6 hm));simp[hm,h7]
def ga(l:List ak)(o:List Nat)(i:Nat):List aP×List Nat:=(o.take i).foldl (lV fh l) ([],[])
theorem NI{l:List ak}{o:List Nat}{i:Nat}(h:i<o.length):ga l o (i+1)=lV fh l (ga l o i) (o.getD i 0):=by
 have e:o.getD i 0=o[i]:=by rw[zz0,zy0 h];rfl
 simp only[ga];rw[zz8 h,List.foldl_append,e];rfl
theorem NH(l:List ak)(o:List Nat):ga l o o.length=sx fh l o:=by simp only[ga,zu7];rfl
theorem Ta{bs bs':List aP}{x:ak}{n:Nat}(hs:∀ b∈bs,b.bS.length≤n)(h:eR fh bs x=some bs'):bs'.length≤bs.length+1∧∀ b∈bs',b.bS.length≤n+1:=by
 simp only[eR] at h;split at h
 ·split at h
  ·simp only[u8] at h;subst h;refine ⟨by simp[fh],fun b hb =>?_⟩;simp only[fh,zy5,zu6] at hb;rcases hb with hb | rfl
   ·exact Nat.le_succ_of_le (hs b hb)
   ·simp[gz]
  ·cases h
 ·split at h
  ·cases h
  ·rename_i b0 hb0;simp only[zz1] at h;obtain ⟨b',hb',rfl⟩:=h;refine ⟨by simp[mR],fun b hb =>?_⟩;simp only[mR,zw1] at hb;obtain ⟨c,hc,rfl⟩:=hb;split
   ·have h0:=hs b0 (LG hb0).1;simp only[lu] at hb'
    repeat' split at hb'
    all_goals first
     |(cases hb';done)
     |(simp only[u8] at hb';subst hb';simp only[zz2,zv3];omega)
     |(simp only[u8] at hb';subst hb';simp only;omega)
   ·exact Nat.le_succ_of_le (hs c hc)
theorem zL(l:List ak)(o:List Nat):∀ i,i≤o.length→((ga l o i).1.map (·.no)).Nodup∧(ga l o i).1.length≤i∧(∀ b∈(ga l o i).1,b.bS.length≤i)∧(ga l o i).2.length≤i
 |0,_=>⟨by simp[ga],by simp[ga],by simp[ga],by simp[ga]⟩
 |i+1,h=>by
  obtain ⟨h1,h2,h3,h4⟩:=zL l o i (by omega);rw[NI (by omega)];simp only[lV];split
  ·rename_i bs hb;have:=Ta h3 hb;exact ⟨S9 SM h1 hb,by simp only;omega,this.2,by simp only;omega⟩
  ·exact ⟨h1,by simp only;omega,fun b hb=>Nat.le_succ_of_le (h3 b hb),by simp;omega⟩
theorem Mo(B:Nat)(b:aP):∀ (bs:List aP) (i:Nat),fo B i (bs++[b])=fo B i bs++fo B (i+bs.length) [b]
 | [],i=>rfl
 |a::bs,i=>by
  simp only[zz9,fo,Mo B b bs (i+1),zu5];rw[show i+1+bs.length=i+(bs.length+1) by omega]
theorem aoS(B n:Nat):eE B (n+1)=eE B n++[.ptr (B+2+2*n) []]:=by
 simp only[eE,List.range_succ,zx4,zy2,zx1]
theorem rZ{bs:List aP}{n:Nat}(h:¬ (n=43∨n=41∨(2002≤n∧n<2002+2*bs.length))):ao (ej bs) n=none:=by
 have:=yC (bs:=bs) (n:=n);rw[decide_eq_false h] at this;simpa[aq] using this
theorem alO{bs:List aP}{n:Nat}(h:n=43∨n=41∨(2002≤n∧n<2002+2*bs.length)):∃ y,ao (ej bs) n=some y:=by
 have:=yC (bs:=bs) (n:=n);rw[decide_eq_true h] at this;exact zw2.1 this
theorem y5{bs bs':List aP}{z y:ah}(h:bs.length≤bs'.length)(n:Nat):ao (ej bs'++((900,z)::(ej bs++[(3,y)]))) n=ao ((900,z)::(ej bs'++[(3,y)])) n:=by
 simp only[kW,ao];by_cases h1:n=43∨n=41∨(2002≤n∧n<2002+2*bs'.length)
 ·obtain ⟨u,hu⟩:=alO h1;have:n≠900:=by omega
  simp only[hu,this,if_false]
 ·have h2:ao (ej bs) n=none:=rZ (by omega);simp only[rZ h1,h2]
theorem amG{bs:List aP}{z z' y:ah}(n:Nat):ao ((900,z')::(ej bs++((900,z)::(ej bs++[(3,y)])))) n=ao ((900,z')::(ej bs++[(3,y)])) n:=by
 have h:=y5 (bs:=bs) (bs':=bs) (z:=z) (y:=y) (zz7 _) n;by_cases hn:n=900
 ·simp only[ao,hn,if_true]
 ·simp only[ao,if_neg hn] at h ⊢;rw[h]
theorem amF{bs:List aP}{b:aP}{z y:ah}(hk:bs.length≤60)(hb:b.bS=[])(n:Nat) :
  ao ((2002+2*bs.length,.box (eJ b (.own (2003+2*bs.length) 0)))::(2003+2*bs.length,.b9 66 6 [])::(oh bs b++((900,z)::(ej bs++[(3,y)])))) n=ao ((900,z)::(ej (bs++[b])++[(3,y)])) n:=by
 have hC:ao (ej (bs++[b])) n=if n=43 then some (.box (.agg [.mref 41])) else if n=41 then some (.cE (dA (bs++[b])) (eE 2000 bs.length++[.ptr (2002+2*bs.length) []])) else
   match ao (fo 2000 0 bs) n with
   |some u=>some u
   |none=>if n=2002+2*bs.length then some (.box (eJ b (.own (2003+2*bs.length) 0))) else if n=2003+2*bs.length then some (.b9 66 6 []) else none:=by
  simp only[ej,ao,Mo,kW,fo,hb,zx1,zv0,zz2,zv3,aoS,zz4];rfl
 have hL:ao (ej bs) n=if n=43 then some (.box (.agg [.mref 41])) else if n=41 then some (.cE (dA bs) (eE 2000 bs.length)) else ao (fo 2000 0 bs) n:=rfl
 have hlow:n<2002→ao (fo 2000 0 bs) n=none:=fun h=>ux 2000 bs 0 n (by omega);have hhigh:2002+2*bs.length≤n→ao (fo 2000 0 bs) n=none:=fun h=>uv 2000 bs 0 n (by omega);simp only[ao,kW,oh,zz9,hC,hL];by_cases c1:n=2002+2*bs.length
 ·have d1:¬ n=900:=by omega
  have d2:¬ n=43:=by omega
  have d3:¬ n=41:=by omega
  rw[if_pos c1,if_neg d1,if_neg d2,if_neg d3,hhigh (by omega)];simp only[c1,if_true]
 by_cases c2:n=2003+2*bs.length
 ·have d1:¬ n=900:=by omega
  have d2:¬ n=43:=by omega
  have d3:¬ n=41:=by omega
  rw[if_neg c1,if_pos c2,if_neg d1,if_neg d2,if_neg d3,hhigh (by omega)];simp only[c2,if_true];rw[if_neg (by omega)]
 rw[if_neg c1,if_neg c2];by_cases c3:n=41
 ·have d1:¬ n=900:=by omega
  have d2:¬ n=43:=by omega
  rw[if_pos c3,if_neg d1,if_neg d2,if_pos c3]
 rw[if_neg c3,if_neg c1];by_cases gf:n=43
 ·have d1:¬ n=900:=by omega
  simp only[gf,if_true];simp
 rw[if_neg gf,if_neg gf];by_cases jv:n=900
 ·have:=hlow (by omega);subst jv;simp[this]
 ·cases hq:ao (fo 2000 0 bs) n with
  |some u=>simp only[jv,c3,if_false]
  |none=>simp only[jv,c3,c1,c2,if_false]
theorem zC{p:Nat→Bool}{ns:List Nat} : ∀ {os:List (Nat×ah)},aY p os→aY p (cR ns os)
 | [],_=>trivial
 |(m,y)::os,h=>by
  simp only[cR,zx8];split
  ·exact ⟨h.1,zC h.2⟩
  ·exact zC h.2
theorem Np{p:Nat→Bool} : ∀ {os os':List (Nat×ah)},aY p os→aY p os'→aY p (os++os')
 | [],_,_,h=>h
 |_::_,_,h,k=>⟨h.1,Np h.2 k⟩
theorem Mp{p:Nat→Bool}{B:Nat}(hp:∀ j,B≤j→p j=true):∀ (bs:List aP) (i:Nat),aY p (fo B i bs)
 | [],_=>trivial
 |b::bs,i=>⟨by simp[ah.only,eJ,I.only,I.bV,hp _ (show B≤B+3+2*i by omega)],c9 _ _,Mp hp bs (i+1)⟩
theorem alN{p:Nat→Bool}(hp:∀ j,2000≤j→p j=true)(h41:p 41=true)(bs:List aP):aY p (ej bs) :=
 ⟨by simp[ah.only,I.only,I.bV,h41],by simp only[ah.only,zz3];exact ⟨c9 _ _,zE _ fun i _=>hp _ (by omega)⟩,Mp hp bs 0⟩
def e8(bs:List aP):I:=.ref (.agg [.c7 (dA bs) (bs.map fun b=>.ref (enc (⟨b⟩:eQ)))])
theorem Mz{f:I→Option I} : ∀ {xs ys:List I},xs.length=ys.length→(∀ (i:Nat) (x y:I),xs[i]?=some x→ys[i]?=some y→f x=some y)→gw f xs=some ys
 | [],[],_,_=>rfl
 |x::xs,y::ys,hl,h=>by
  have h1:=h 0 x y rfl rfl;have h2:=Mz (f:=f) (xs:=xs) (ys:=ys) (by simpa using hl) fun i a b ha hb=>h (i+1) a b ha hb;simp only[gw,h1,h2]
theorem ab6{A:af}{bs:List aP}(hA:∀ m y,ao (ej bs) m=some y→A.o m=some y):bC true A (.ptr 43 [])=some (e8 bs):=by
 have h43:A.o 43=some (.box (.agg [.mref 41])):=hA _ _ rfl;have h41:A.o 41=some (.cE (dA bs) (eE 2000 bs.length)):=hA _ _ rfl;have hl:∀ k,k<bs.length→2002+2*k≠43∧2002+2*k≠41∧2003+2*k≠43∧2003+2*k≠41:=fun k hk=>by omega
 have hm:gw (ev A 7) (eE 2000 bs.length)=some (bs.map fun b=>.ref (enc (⟨b⟩:eQ))):=by
  refine Mz (by simp[eE]) fun i x y hx hy =>?_;have hi:i<bs.length:=by
   have:=(zy7.1 hx).1;simpa[eE] using this
  rw[NO hi] at hx;simp only[zw8,zy0 hi,zy6,u8] at hx hy;subst hx hy;obtain ⟨q1,q2,q3,q4⟩:=hl i hi;have h1:A.o (2000+2+2*i)=some (.box (eJ bs[i] (.own (2000+3+2*i) (bs[i]).bS.length))):=hA _ _ (by
   simp only[ej,ao];rw[if_neg (by omega),if_neg (by omega)];have:=uw 2000 bs 0 i hi
   rwa [zz4] at this)
  have h2:A.o (2000+3+2*i)=some (.b9 66 6 ((bs[i]).bS.map enc)):=hA _ _ (by
   simp only[ej,ao];rw[if_neg (by omega),if_neg (by omega)];have:=uy 2000 bs 0 i hi
   rwa [zz4] at this)
  have h3:=np (m:=3) h2;have h4:cH A (.ptr (2000+2+2*i) [])=some (eJ bs[i] (.own (2000+3+2*i) (bs[i]).bS.length)):=by
   simp only[cH,h1];exact hT _
  rw[ev];simp only[I.bJ,zz6,if_false,h4];rw[h3];rfl
 have h5:ev A 8 (.mref 41)=some (.c7 (dA bs) (bs.map fun b=>.ref (enc (⟨b⟩:eQ)))):=by
  rw[ev];simp only[I.bJ,zz6,if_false,h41];rw[if_pos (show I.cg (dA bs)=true from lB _),hm];rfl
 have h6:ev A 9 (.agg [.mref 41])=some (.agg [.c7 (dA bs) (bs.map fun b=>.ref (enc (⟨b⟩:eQ)))]):=by
  rw[ev];simp only[I.bJ,I.cg,Bool.and_true,zz6,if_false,gw,h5,zy6]
 simp only[bC,cH,h43,if_true,hT,I.bJ,I.cg,Bool.and_true,zz6,if_false,h6];rfl
def sw(l:List ak)(day known:Int):I:=.tuple [e8 (sx fh l (ka l day known)).1,enc (cS (cU (sx fh l (ka l day known)).2))]
def SE(l:List ak)(ord:List Int):af:=aw [(3,.ptr 3 []),(9,.nils 1),(11,.ptr 43 []),(12,lC),(45,enc ord),(46,.int .i64 ord.length),(47,.int .i64 0)] [(43,.box (.agg [.mref 41])),(41,.cE [] []),(3,.box (enc l))]
def Bu(l:List ak)(o:List Nat)(i:Nat):af:=aw [(3,.ptr 3 []),(9,.own 900 (cU (ga l o i).2).length),(11,.ptr 43 []),(12,lC),(45,enc (cU o)),(46,.int .i64 (cU o).length),(47,.int .i64 i)] ((900,.c4 3 (cU (ga l o i).2))::(ej (ga l o i).1++[(3,.box (enc l))]))
theorem al6{xs:List Int}{i:Nat}(h:i<xs.length)(A:af):jh A 1 (i:Int) (enc xs)=some (.ref (.int .i64 (xs.getD i 0))):=by
 rw[fm 1 (by omega) rfl,zz0,zy0 h];rfl
noncomputable abbrev ED (W0:World) (D0:aW) (E1:a8):c6 := { P:=Tryz.prog,fC:=W0,D0:=D0,n:=Tryz.f88.ntmps,own:=dJ E1,dV:=E1,Y:=jk,lj:=none }
def Q9:aR:=((aR.bX none tZ).seq ((aR.cond (aM.t 48) aR.skip (aR.exit 2)).seq ((aR.block 3 ((aR.bX none yd).seq ((aR.bX EF ua).seq (aR.cond (aM.t 64) (aR.bX none Le) aR.skip)))).seq (aR.bX none Lf))))
def aqD:aR:=(aR.bX none Lg).seq ((aR.bX none Lh).seq aR.ret)
theorem Bp(l:List ak)(day known:Int)(hok:c8 l=true){W0:World}{D0:aW}{E1:a8} : U (ED W0 D0 E1) (.block 2 (.loop Q9)) (au (fun B=>U (ED W0 D0 E1) aqD (kc [.tmp 6,.tmp 7] (sw l day known)) B) (kc [.tmp 6,.tmp 7] (sw l day known))) (SE l (qT l day known)):=by
 have hl:=kD hok;have hmem:∀ i∈ka l day known,i<l.length∧(ae l i).kind≠0:=fun i hi=>by
  have h1:=aoB hi;refine ⟨EP h1,?_⟩;have:=(zu8.1 h1).2;simp only[zz3,decide_eq_true_eq] at this;exact this.1
 have hol:(ka l day known).length≤60:=by rw[NB];exact zu4 (wZ l day known) hl
 have hall:=NH l (ka l day known);simp only[sw,qT,←hall];clear hall;generalize ka l day known=o at hmem hol ⊢;have htl:(cU o).length=o.length:=by simp[cU]
 refine U.block (U.loop (fun i:Nat=>Bu l o i) (fun i=>i≤o.length) (fun i=>o.length-i) 0 (zw3 _) ?_ (fun i hi =>?_))
 ·refine aB.vZ 9 900 3 1 rfl rfl ?_;refine aB.dj ?_ (fun n =>?_)
  ·simp[aQ,aS,ga,cU]
  ·simp only[ga,cU,List.take_zero,List.foldl_nil,zx1,ej,fo,eE,dA,zv0,List.range_zero,zz9,zy3]
 obtain ⟨hnd,hbl,hsl,hvl⟩:=zL l o i hi;simp only[Bu,Q9];have n3:ao ((900,.c4 3 (cU (ga l o i).2))::(ej (ga l o i).1++[(3,.box (enc l))])) 3=some (.box (enc l)):=by
  simp only[ao,kW];rw[rZ (by omega)];rfl
 by_cases hlt:i<o.length
 ·have hc:decide ((i:Int)<((cU o).length:Int))=true:=by rw[htl];exact fw hlt
  have hw:=ea (i:=i) (by omega);have hst:=NI (l:=l) hlt;generalize ga l o i=s at *;obtain ⟨bs,vd⟩:=s;simp only at hnd hbl hsl hvl n3 hst ⊢;obtain ⟨j,hj⟩:∃ j,j=o.getD i 0:=⟨_,rfl⟩
  have hjm:j∈o:=by
   rw[hj,zz0,zy0 hlt];exact zx5 hlt
  obtain ⟨hjl,hjk⟩:=hmem j hjm;rw[←hj] at hst;have he:=kv hjl;have hi2:∀ A,jh A 1 (i:Int) (enc (cU o))=some (.ref (.int .i64 (j:Int))):=fun A=>by
   rw[al6 (by omega),hj]
   congr 3
   simp[cU,zz0,zy0 hlt]
  obtain ⟨f,hf1,hf2,hf3⟩:=wW (bs:=bs) (zx hok hjl) hjk hnd (fun b hb=>by have:=hsl b hb;omega);have hmo:∀ A,gV A lC=some (n8,n9):=fun A=>rfl;refine .ar (by decide +kernel) fun K hK =>?_;simp only[tZ,ab,simprocAttr];simp only[hc];refine .done (hK _ ?_);clear hK K;refine U.seq ?_;refine U.bL ?_;simp only[al,ab,simprocAttr];refine ⟨fun h =>?_,fun h =>?_⟩
  case refine_2=>cases h
  refine U.skip ?_;try simp only[au,simprocAttr]
  refine U.seq (U.block ?_);refine .ar (by decide +kernel) fun K hK =>?_;simp only[yd,ab,simprocAttr]
  try simp only[hi2,ab,simprocAttr]
  refine .done (hK _ ?_);clear hK K;refine U.seq (U.sB (gs:=ua) [172,173,174,175,176,177] [] [0,1,2,3,4,5,6,7,8,9,10,11,12,13] (by decide +kernel) (fq.of trivial) fun K hK =>?_)
  try simp only[pD,ua,List.getD_cons_zero,List.getD_cons_succ,n3,he,hmo,hf1,dY,eU,aO,ab,simprocAttr]
  have hlo:∀ bs',bs.length≤bs'.length→ao (ej bs'++((900,.c4 3 (cU vd))::(ej bs++[(3,.box (enc l))]))) 900=some (.c4 3 (cU vd)):=fun bs' h=>by
   rw[y5 h];rfl
  have htv:(cU vd).length=vd.length:=by simp[cU]
  have hap:=fun (A:af) d rest=>tk (A:=A) (d:=d) (e:=3) (bytes:=8) (n:=900) (l:=(cU vd).length) (xs:=cU vd) (y:=(j:Int)) (rest:=rest) rfl (by simp[cU,maxLen];omega) (by simp[cU];omega);refine cK.wW (by omega) hf2 hf3 rfl (fun hb =>?_) (fun bs' hb hk =>?_) (fun hb =>?_)
  ·have hs2:ga l o (i+1)=(bs,vd++[j]):=by rw[hst];simp only[lV,hb]
   have h900:=hlo bs (zz7 _)
   try simp only[ab,simprocAttr]
   have R:=v6 @h900 (v6 @hap (v6 @dY (v6 @aZ (v6 @aO @ab))))
   repeat' ((first |(with_reducible refine .guard (fun hb =>?_) (fun hb =>?_) <;>try simp only[hb])|refine U.aI (by decide +kernel) rfl fun K hK =>?_|(refine .aD [0,1,2,3,4,6,7,8,9,10,11,12,14,17,18,33,45,46,47,48,64] hK ?_;clear hK K)|(with_reducible refine .done (hK _ ?_);clear hK K)|refine U.of rfl ?_|(with_reducible refine al.aH (fun h =>?_) (fun h =>?_) <;>try simp only[h])) <;>try simp only[aJ,R,simprocAttr])
   all_goals clear R
   refine ⟨i+1,by omega,by omega,?_⟩;rw[hs2,hw];have e:cU (vd++[j])=cU vd++[(j:Int)]:=by simp[cU]
   simp only[e];refine aB.dj ?_ (fun n=>amG n);simp[aQ,aS]
  ·have hs2:ga l o (i+1)=(bs',vd):=by rw[hst];simp only[lV,hb]
   try simp only[ab,simprocAttr]
   have R:=v6 @dY (v6 @aZ (v6 @aO @ab))
   repeat' ((first |(with_reducible refine .guard (fun hb =>?_) (fun hb =>?_) <;>try simp only[hb])|refine U.aI (by decide +kernel) rfl fun K hK =>?_|(refine .aD [0,1,2,3,4,6,7,8,9,10,11,12,14,17,18,33,45,46,47,48,64] hK ?_;clear hK K)|(with_reducible refine .done (hK _ ?_);clear hK K)|refine U.of rfl ?_|(with_reducible refine al.aH (fun h =>?_) (fun h =>?_) <;>try simp only[h])) <;>try simp only[aJ,R,simprocAttr])
   all_goals clear R
   refine ⟨i+1,by omega,by omega,?_⟩;rw[hs2,hw];refine aB.dj ?_ (fun n=>y5 (Nat.le_of_eq (wa hk hb).symm) n);simp[aQ,aS]
  ·have hs2:ga l o (i+1)=(bs++[gz (ae l j)],vd):=by rw[hst];simp only[lV,hb]
   try simp only[ab,simprocAttr]
   have R:=v6 @dY (v6 @aZ (v6 @aO @ab))
   repeat' ((first |(with_reducible refine .guard (fun hb =>?_) (fun hb =>?_) <;>try simp only[hb])|refine U.aI (by decide +kernel) rfl fun K hK =>?_|(refine .aD [0,1,2,3,4,6,7,8,9,10,11,12,14,17,18,33,45,46,47,48,64] hK ?_;clear hK K)|(with_reducible refine .done (hK _ ?_);clear hK K)|refine U.of rfl ?_|(with_reducible refine al.aH (fun h =>?_) (fun h =>?_) <;>try simp only[h])) <;>try simp only[aJ,R,simprocAttr])
   all_goals clear R
   refine ⟨i+1,by omega,by omega,?_⟩;rw[hs2,hw];refine aB.vY (2002+2*bs.length) (2003+2*bs.length) 66 6 6 [0,8] (eJ (gz (ae l j)) (.nils 6)) ?_ rfl ?_ ?_ (by omega)
   ·have:¬ 2002+2*bs.length=41:=by omega
    simp[oh,ao,this]
   ·have h1:¬ 2003+2*bs.length=41:=by omega
    have h2:¬ 2003+2*bs.length=2002+2*bs.length:=by omega
    have h3:¬ 2003+2*bs.length=900:=by omega
    have h4:¬ 2003+2*bs.length=3:=by omega
    have h5:ao (ej bs) (2003+2*bs.length)=none:=rZ (by omega);simp only[oh,zz9,ao,kW,h1,h2,h3,h4,h5,if_false]
   ·refine aB.dj ?_ (fun n=>amF (by omega) rfl n);simp[aQ,aS]
 ·have hio:i=o.length:=by omega
  subst hio;have hc:decide ((o.length:Int)<((cU o).length:Int))=false:=by simp[htl]
  refine .ar (by decide +kernel) fun K hK =>?_;simp only[tZ,ab,simprocAttr]
  try simp only[hc,simprocAttr]
  refine .done (hK _ ?_);clear hK K;refine U.seq ?_;refine U.bL ?_;simp only[al,ab,simprocAttr];refine ⟨fun h =>?_,fun h =>?_⟩
  case refine_1=>cases h
  refine U.exit ?_;try simp only[au,bP,simprocAttr]
  generalize ga l o o.length=s at *;obtain ⟨bs,vd⟩:=s;simp only at hnd hbl hsl hvl ⊢;have htv:(cU vd).length=vd.length:=by simp[cU]
  have hw2:∀ t,lM 900 (cU vd).length (Abs.cm [(48,I.bool false),(3,.ptr 3 []),(9,.own 900 (cU vd).length),(11,.ptr 43 []),(12,lC),(45,enc (cU o)),(46,.int .i64 ((cU o).length:Int)),(47,.int .i64 (o.length:Int))] t):=qR (by simp[lM,I.only,bg,lC,I.bV]);refine U.iU (a:=70) (b:=71) (d:=9) (n:=900) (xs:=cU vd) rfl rfl (by decide) (by omega) hw2 ?_ [(11,.ptr 43 [])] ?_ (by decide) (by decide) ?_
  ·refine zC ⟨rfl,Np (alN (fun j hj=>by simp;omega) (by decide) bs) ⟨bg _ _,trivial⟩⟩
  ·simp[Abs.cm,I.only]
  ·have hfin:=fun (ts:List (Nat×I))=>ab6 (A:=aw ts (cR [900] ((900,.c4 3 (cU vd))::(ej bs++[(3,.box (enc l))])))) (bs:=bs) (fun m y hy=>by
    have:m≠900:=fun e=>by
     rw[e,rZ (by omega)] at hy;cases hy
    simp only[aw,nu];simp[ao,this,kW,hy])
   have R:=v6 @hfin (v6 @aZ (v6 @aO @ab))
   repeat' ((first |(with_reducible refine .guard (fun hb =>?_) (fun hb =>?_) <;>try simp only[hb])|refine U.aI (by decide +kernel) rfl fun K hK =>?_|(refine .aD [0,1,2,3,4,6,7,8,9,10,11,12,14,17,18,33,45,46,47,48,64] hK ?_;clear hK K)|(with_reducible refine .done (hK _ ?_);clear hK K)|refine U.of rfl ?_|(with_reducible refine al.aH (fun h =>?_) (fun h =>?_) <;>try simp only[h])) <;>try simp only[aJ,R,simprocAttr])
   all_goals clear R
theorem apO{xs ys:List Int}(h:xs.Perm ys):cS xs=cS ys:=by
 unfold cS;have hx:=List.pairwise_mergeSort (le:=fun x y:Int=>decide (x≤y)) (by intro a b c;simp;omega) (by intro a b;simp;omega) xs;have hy:=List.pairwise_mergeSort (le:=fun x y:Int=>decide (x≤y)) (by intro a b c;simp;omega) (by intro a b;simp;omega) ys;refine List.Perm.eq_of_pairwise (fun a b _ _ h k =>?_) hx hy ((List.mergeSort_perm _ _).trans (h.trans (List.mergeSort_perm _ _).symm));simp only[decide_eq_true_eq] at h k;omega
theorem anm{A:af}{d:Option Nat}{n:Nat}{rest:List aE}{ks vs:List I}{cur:Option Nat} : qO A d n rest (some (.it ks vs [] cur))=aF rest (A.aT d (.tuple [.bool false])):=by
 simp only[qO,if_true]
theorem bn.j7{P:Program}{Y:Value→List I→List (Nat×ah)→cO→Prop}{K:af→Prop}{A:af}{d:Option Nat}{n:Nat}{rest:List aE}{ks vs:List I}{left:List Nat}{cur:Option Nat}(hl:left≠[])
  (h:∀ i,i∈left→∃ kk x,ks[i]?=some kk∧vs[i]?=some x∧bn P Y false K (aF rest ((A.aU n (.it ks vs (left.filter (· != i)) (some i))).aT d (.tuple [.bool true,kk,x])))) :
  bn P Y false K (qO A d n rest (some (.it ks vs left cur))):=by
 simp only[qO,if_neg hl];refine .any rfl fun i hi =>?_;obtain ⟨kk,x,h1,h2,h3⟩:=h i hi;simp only[h1,h2];exact h3
def jI(bs:List aP)(p:aP→Bool)(aD:List Nat):List Int:=((aD.map fun i=>bs.getD i default).filter p).map (·.no)
theorem aoK(bs:List aP)(p:aP→Bool)(aD:List Nat)(i:Nat):jI bs p (aD++[i])=jI bs p aD++if p (bs.getD i default) then [(bs.getD i default).no] else []:=by
 simp only[jI,zx4,List.filter_append,zy2,zx1,zx8,zu2]
 congr 1
 split <;>rfl
theorem NG(bs:List aP)(p:aP→Bool)(aD:List Nat):(jI bs p aD).length≤aD.length:=by
 simp only[jI,zy1];exact zu4 (zv5 _ _) (by simp)
theorem aoJ{bs:List aP}{p:aP→Bool}{aD:List Nat}(h:aD.Perm (List.range bs.length)):(jI bs p aD).Perm ((bs.filter p).map (·.no)):=by
 have e:(List.range bs.length).map (fun i=>bs.getD i default)=bs:=by
  refine List.ext_getElem (by simp) fun i h1 h2 =>?_;simp[zz0,h2]
 simp only[jI];refine List.Perm.map _ ?_;have:=(h.map fun i=>bs.getD i default).filter p
 rwa [e] at this
theorem aov(p:Nat→Bool)(bs:List aP):I.bV p (bs.map fun b=>.ref (enc (⟨b⟩:eQ)))=true:=by
 induction bs with
 |nil=>rfl
 |cons b bs ih=>simp only[zy2,I.bV,I.only,bg,ih,zw7]
def Bt(bs:List aP)(p:aP→Bool)(f:FuncId)(caps:List I)(s:List Nat×List Nat×Option Nat):af :=
 aw [(1,.func f caps),(5,.own 905 (jI bs p s.1).length),(12,.dI 12)] [(12,.it (dA bs) (bs.map fun b=>.ref (enc (⟨b⟩:eQ))) s.2.1 s.2.2),(905,.c4 3 (jI bs p s.1))]
theorem s7(bs:List aP)(hn:bs.length≤60)(f:FuncId)(caps:List I)(hcaps:I.eY caps=true)(p:aP→Bool)(hf:∀ b∈bs,aA Tryz.prog f (.ref (enc (⟨b⟩:eQ))::caps) (enc (p b))) :
  aA Tryz.prog 72 [e8 bs,.func f caps] (enc (cS ((bs.filter p).map (·.no)))):=by
 refine aA.bp Tryz.func72 VB XF ZS (t7 rfl) (fun hwf W0 D0 E1 =>?_);simp only[DB,Pz,bl,zz4];clear hwf;have hcl:I.cg caps=true:=kR caps hcaps;have hfc:∀ aC A,cn aC A caps=some caps:=fun aC A=>kq aC A caps hcaps;have hon:∀ q,I.bV q caps=true:=fun q=>kE q caps hcl;refine .ar (by decide +kernel) fun K hK =>?_;simp only[KD,ab,simprocAttr];refine .done (hK _ ?_);clear hK K;refine .ar (by decide +kernel) fun K hK =>?_;simp only[KE,ab,simprocAttr];refine .done (hK _ ?_);clear hK K;refine U.seq (U.seq ?_);refine .bx (by decide +kernel) fun K hK =>?_;simp only[KF,ab,simprocAttr]
 try simp only[e8,dY,eU,aO,ab,simprocAttr]
 refine .done (hK _ ?_);clear hK K;try simp only[au]
 refine U.block (U.loop (Bt bs p f caps) (fun s=>(s.1++s.2.1).Perm (List.range bs.length)) (fun s=>s.2.1.length) ([],List.range bs.length,none) (by simp) ?_ ?_)
 ·refine aB.vZ 5 905 3 1 rfl rfl ?_;refine aB.dj ?_ (fun n =>?_)
  ·simp[aQ,aS,jI]
  ·simp only[jI,zx1,zu2,bT,sf,dA,zy1]
   (repeat' split) <;>simp_all
 rintro ⟨aD,left,cur⟩ hC;simp only at hC;have hlen:aD.length+left.length=bs.length:=by simpa using hC.length_eq
 have hpl:=NG bs p aD;simp only[Bt];by_cases hl:left=[]
 ·subst hl;refine .ar (by decide +kernel) fun K hK =>?_;simp only[yb,ab,simprocAttr]
  try simp only[eU,anm,ab,simprocAttr]
  refine .done (hK _ ?_);clear hK K;refine U.seq ?_;refine U.bL ?_;simp only[al,ab,simprocAttr];refine ⟨fun h =>?_,fun h =>?_⟩
  case refine_1=>cases h
  refine U.exit ?_;try simp only[au,bP,simprocAttr]
  have hdn:(jI bs p aD).Perm ((bs.filter p).map (·.no)):=aoJ (by simpa using hC);rw[←apO hdn];generalize jI bs p aD=xs at hpl;refine U.iU (a:=25) (b:=26) (d:=5) (n:=905) (xs:=xs) rfl rfl (by decide) (by omega) (qR (by simp[lM,I.only,I.bV,hon])) (by simp only[cR,dA,zx8,zu2,List.contains_cons];simp[aY,ah.only,c9,aov,-List.map_map]) [] (by simp) (by decide) (by decide) ?_;have R:=v6 @aO @ab
  repeat' ((first |refine U.aI (by decide +kernel) rfl fun K hK =>?_|(refine .aD [0,1,4,5,6,7,12,14,20] hK ?_;clear hK K)|(with_reducible refine .done (hK _ ?_);clear hK K)|refine U.of rfl ?_|(with_reducible refine al.aH (fun h =>?_) (fun h =>?_) <;>try simp only[h])) <;>try simp only[aJ,R,simprocAttr])
  all_goals clear R
 ·refine .ar (by decide +kernel) fun K hK =>?_;simp only[yb,ab,simprocAttr]
  try simp only[eU,ab,simprocAttr]
  refine bn.j7 hl fun i hi =>?_;have hib:i<bs.length:=zw4.1 (hC.mem_iff.1 (by simp[hi]));refine ⟨enc (bs[i]).no,.ref (enc (⟨bs[i]⟩:eQ)),by simp[dA,hib],by simp[hib],?_⟩;have hx:bs.getD i default=bs[i]:=by simp[zz0,hib]
  try simp only[ab,simprocAttr]
  refine .done (hK _ ?_);clear hK K;refine U.seq ?_;refine U.bL ?_;simp only[al,ab,simprocAttr];refine ⟨fun h =>?_,fun h =>?_⟩
  case refine_2=>cases h
  refine U.skip ?_;try simp only[au,simprocAttr]
  refine U.block ?_;have hent:qq (dA bs) (bs.map fun b=>.ref (enc (⟨b⟩:eQ))) (some i)=some (.tuple [.int .i64 (bs[i]).no,.ref (enc (⟨bs[i]⟩:eQ))]):=by
   simp[qq,dA,hib,ig]
  have hsn:=aoK bs p aD i;have hps:=NG bs p (aD++[i]);have hpl2:(left.filter (· != i)).length<left.length:=by
   rcases Nat.lt_or_ge (left.filter (· != i)).length left.length with h | h
   ·exact h
   ·have:=List.filter_eq_self.1 (List.Sublist.eq_of_length_le List.filter_sublist h) i hi;simp at this
  have hnd:left.Nodup:=(List.nodup_append.1 (hC.nodup_iff.2 List.nodup_range)).2.1;have hC2:((aD++[i])++left.filter (· != i)).Perm (List.range bs.length):=by
   have h1:left.Perm (i::left.filter (· != i)):=by
    have h2:(left.filter (· == i)).length=1:=by
     have:=List.nodup_iff_count.1 hnd i;have h3:=List.count_pos_iff.2 hi;have h4:left.count i=(left.filter (· == i)).length:=by rw[List.count,List.countP_eq_length_filter]
     omega
    have h5:left.filter (· == i)=[i]:=by
     obtain ⟨a,ha⟩:=List.length_eq_one_iff.1 h2;have:a∈left.filter (· == i):=by rw[ha];simp
     have:=(zu8.1 this).2;simp at this;rw[ha,this]
    have h6:=(List.filter_append_perm (· == i) left).symm;rw[h5] at h6;exact h6
   refine List.Perm.trans ?_ hC;rw[zz5];exact (h1.symm).append_left aD
  refine .ar (by decide +kernel) fun K hK =>?_;simp only[KG,ab,simprocAttr]
  try simp only[hent,eU,aO,ab,simprocAttr]
  refine .done (hK _ ?_);clear hK K;refine .ar (by decide +kernel) fun K hK =>?_;simp only[KH,ab,simprocAttr]
  try simp only[zz9,zy3,hfc,gK,ab,simprocAttr]
  refine .flat _ (hf _ (zx5 hib)) rfl ?_
  try simp only[ab,simprocAttr]
  refine .done (hK _ ?_);clear hK K;have hap:=fun (A:af) d rest=>tk (A:=A) (d:=d) (e:=3) (bytes:=8) (n:=905) (l:=(jI bs p aD).length) (xs:=jI bs p aD) (y:=(bs[i]).no) (rest:=rest) rfl (by simp[maxLen];omega) (by omega);rw[hx] at hsn;rcases hpb:p bs[i]
  ·rw[hpb,if_neg (by decide),zx6] at hsn;have R:=v6 @hpb (v6 @aO @ab)
   repeat' ((first |refine U.aI (by decide +kernel) rfl fun K hK =>?_|(refine .aD [0,1,4,5,6,7,12,14,20] hK ?_;clear hK K)|(with_reducible refine .done (hK _ ?_);clear hK K)|refine U.of rfl ?_|(with_reducible refine al.aH (fun h =>?_) (fun h =>?_) <;>try simp only[h])) <;>try simp only[aJ,R,simprocAttr])
   all_goals clear R
   refine ⟨(aD++[i],left.filter (· != i),some i),hC2,hpl2,?_⟩;simp only[hsn];refine aB.dj ?_ (fun n =>?_)
   ·simp[aQ,aS]
   ·simp only[bT,sf];(repeat' split) <;>simp_all
  ·rw[hpb,if_pos rfl] at hsn;have R:=v6 @hpb (v6 @hap (v6 @aO @ab))
   repeat' ((first |refine U.aI (by decide +kernel) rfl fun K hK =>?_|(refine .aD [0,1,4,5,6,7,12,14,20] hK ?_;clear hK K)|(with_reducible refine .done (hK _ ?_);clear hK K)|refine U.of rfl ?_|(with_reducible refine al.aH (fun h =>?_) (fun h =>?_) <;>try simp only[h])) <;>try simp only[aJ,R,simprocAttr])
   all_goals clear R
   refine ⟨(aD++[i],left.filter (· != i),some i),hC2,hpl2,?_⟩;simp only[hsn];refine aB.dj ?_ (fun n =>?_)
   ·simp[aQ,aS]
   ·simp only[bT,sf];(repeat' split) <;>simp_all
theorem BI{aC:Bool}{A0:af}{os:List (Nat×ah)} : ∀ xs:List I,(∀ x∈xs,x.only (aq os)=true∧x.cq=true)→jV aC A0 [] os xs xs
 | [],_=>trivial
 |x::xs,h=>⟨.inl ⟨(mM (ρ:=bD []) (fun _=>rfl) x).symm,(h x (by simp)).1,(h x (by simp)).2⟩,BI xs fun y hy=>h y (by simp[hy])⟩
theorem apw(ts:List (Nat×I))(k:Nat)(a b:List Int):aw ts (bK k a++bK k b)=aw ts (bK k a):=by
 simp only[aw];congr 1;funext n;simp only[bK,zz9,zy3,ao];split <;>rfl
theorem bn.lQ{K:af→Prop}{f:FuncId}{avs:List I}{a1 a2:Option (List I)}{dst:Option Nat}{rest:List aE}{ts:List (Nat×I)}{ws:List Int}{post:cO}(hc:cF Tryz.prog f avs (bK 1000000 ws) post)(hav:∀ x∈avs,x.only (aq (bK 1000000 ws))=true∧x.cq=true)
  (h:∀ r os',post r os'→∃ ws',os'=bK 1000000 ws'∧r=.tuple []∧bn Tryz.prog jk false K (aF rest ((aw ts (bK 1000000 ws')).aT dst (.tuple [])))):bn Tryz.prog jk false K (.call f avs a1 a2 dst rest (aw ts (bK 1000000 ws))):=by
 refine .bQ false [] (bK 1000000 ws) avs post rfl hc ⟨fun m y hy =>?_,fun m m' _ _ h=>h⟩ (BI avs hav) ?_ ?_
 ·rw[ah.mM (ρ:=bD []) (fun n=>rfl)];refine ⟨hy,?_⟩;simp only[bK,ao] at hy;split at hy
  ·cases hy;exact ⟨fZ _ _,rfl⟩
  ·cases hy
 ·intro r os' hp;obtain ⟨ws',rfl,rfl,_⟩:=h r os' hp;refine ⟨fun m y hy =>?_,fun m m' _ _ h=>h,fun m hm=>by rw[cz.1 hm];exact cz.2 rfl,fun m a b=>by rw[cz.1 a] at b;simp[bK,aq,ao] at b,rfl,fun h=>by cases h⟩;simp only[bK,ao] at hy;split at hy
  ·cases hy;exact ⟨fZ _ _,rfl,fun h=>by cases h⟩
  ·cases hy
 ·intro r os' hp;obtain ⟨ws',rfl,rfl,hw⟩:=h r os' hp;rw[vi,apw];exact hw
theorem lz(ws:List Int)(n:Nat)(f:FuncId)(caps:List I)(hcl:I.cg caps=true)(ay:List Int):∀ x∈.view 1000000 [] 1 0 n::(ay.map enc++[.func f caps]),x.only (aq (bK 1000000 ws))=true∧x.cq=true:=by
 intro x hx;simp only[zx2,zy5,zw1,List.not_mem_nil,or_false] at hx;rcases hx with rfl | ⟨y,_,rfl⟩ | rfl
 ·exact ⟨cz.2 rfl,rfl⟩
 ·exact ⟨bg _ _,du _⟩
 ·exact ⟨nC _ _ (by simpa[I.bJ] using hcl),rfl⟩
structure SA where
 p:List Int
 u:List Int
 v:List Int
 q:List Int
theorem Sf(p u v q:List Int)(a m b n:Nat)(f:FuncId)(caps:List I)(hcl:I.cg caps=true)(ha:p.length=a)(hm:a+u.length=m)(hb:m+v.length=b)(hu:0<u.length)(hv:0<v.length)(hn:b≤n)(hN:n≤1000) :
  cF Tryz.prog 213 [.view 1000000 [] 1 0 n,enc (a:Int),enc (m:Int),enc (b:Int),.func f caps] (bK 1000000 (p++u++v++q)) (Ad (p++v++u++q)):=by
 refine cF.bp Tryz.func213 Vc Xg Zt (t7 rfl) (t7 rfl) mP (fun hwf W0 D0 E1 =>?_);simp only[Da,O9,bl,zz4,Nat.reduceAdd];clear hwf;have w1:=jq (x:=m) (y:=a) (by omega) (by omega);have w2:=jq (x:=b) (y:=m) (by omega) (by omega);refine .ar (by decide +kernel) fun K hK =>?_;simp only[JI,ab,simprocAttr]
 try simp only[w1,simprocAttr]
 refine .done (hK _ ?_);clear hK K;refine .ar (by decide +kernel) fun K hK =>?_;simp only[JJ,ab,simprocAttr]
 try simp only[w2,simprocAttr]
 refine .done (hK _ ?_);clear hK K;refine U.seq (U.block (U.loop (fun s:SA=>aw [(0,.view 1000000 [] 1 0 n),(2,.int .i64 m),(4,.func f caps),(10,.int .i64 s.u.length),(11,.int .i64 s.v.length)] (bK 1000000 (s.p++s.u++s.v++s.q))) (fun s=>0<s.u.length∧0<s.v.length∧s.p.length+s.u.length=m∧m+s.v.length≤b∧s.p++s.v++s.u++s.q=p++v++u++q) (fun s=>s.u.length+s.v.length) ⟨p,u,v,q⟩ ⟨hu,hv,by simp only;omega,by simp only;omega,rfl⟩ ?_ ?_))
 ·have e1:m-a=u.length:=by omega
  have e2:b-m=v.length:=by omega
  simp only[e1,e2];refine aB.dj ?_ (fun n=>rfl);simp[aQ,aS]
 rintro ⟨p1,u1,v1,q1⟩ ⟨g1,g2,g3,g4,g5⟩;simp only at g1 g2 g3 g4 g5 ⊢;refine U.seq (U.seq ?_);refine .bx (by decide +kernel) fun K hK =>?_;simp only[JK,ab,simprocAttr];refine .done (hK _ ?_);clear hK K;try simp only[au]
 refine U.bL ?_;simp only[al,ab,simprocAttr];refine ⟨fun h =>?_,fun h =>?_⟩
 ·have hne:u1.length≠v1.length:=fun e=>by rw[e] at h;simp at h
  refine U.skip ?_;try simp only[au,simprocAttr]
  refine U.block (U.seq ?_);refine .bx (by decide +kernel) fun K hK =>?_;simp only[JL,ab,simprocAttr];refine .done (hK _ ?_);clear hK K;try simp only[au]
  refine U.bL ?_;simp only[al,ab,simprocAttr];refine ⟨fun h =>?_,fun h =>?_⟩
  ·have hgt:v1.length<u1.length:=by simp at h;omega
   have w3:=jq (x:=m) (y:=u1.length) (by omega) (by omega);have w4:=jq (x:=u1.length) (y:=v1.length) (by omega) (by omega);have hs:u1=u1.take v1.length++u1.drop v1.length:=(zx0 _ _).symm;have ht:(u1.take v1.length).length=v1.length:=by rw[zy4];omega
   have hd:(u1.drop v1.length).length=u1.length-v1.length:=by rw[zy8]
   have hc:=vS p1 (u1.take v1.length) (u1.drop v1.length) v1 q1 (m-u1.length) m n v1.length (.func f caps) (by omega) (by omega) (by omega) (by omega) (by omega) hN;rw[zz5 p1,←hs] at hc;refine .ar (by decide +kernel) fun K hK =>?_;simp only[JM,ab,simprocAttr]
   try simp only[w3,simprocAttr]
   refine bn.lQ hc (lz _ n f caps hcl [_,_,_]) ?_;rintro r os' ⟨rfl,rfl⟩;refine ⟨_,rfl,rfl,?_⟩
   try simp only[ab,simprocAttr]
   refine .done (hK _ ?_);clear hK K;refine .bx (by decide +kernel) fun K hK =>?_;simp only[JN,ab,simprocAttr]
   try simp only[w4,simprocAttr]
   refine .done (hK _ ?_);clear hK K;try simp only[au,bP]
   refine ⟨⟨p1++v1,u1.drop v1.length,u1.take v1.length,q1⟩,⟨by simp only;omega,by simp only;omega,by simp only[zz2];omega,by simp only;omega,?_⟩,by simp only;omega,?_⟩
   ·simp only;rw[←g5]
    conv=>rhs;rw[hs]
    simp only[zz5]
   ·simp only[hd,ht];refine aB.dj ?_ (fun n=>rfl);simp[aQ,aS]
  ·have hlt:u1.length<v1.length:=by simp at h;omega
   have w3:=jq (x:=m) (y:=u1.length) (by omega) (by omega);have w4:=jq (x:=v1.length) (y:=u1.length) (by omega) (by omega);have w5:=kN m v1.length (by omega);have w6:=jq (x:=m+v1.length) (y:=u1.length) (by omega) (by omega);have hs:v1=v1.take (v1.length-u1.length)++v1.drop (v1.length-u1.length):=(zx0 _ _).symm;have ht:(v1.take (v1.length-u1.length)).length=v1.length-u1.length:=by rw[zy4];omega
   have hd:(v1.drop (v1.length-u1.length)).length=u1.length:=by rw[zy8];omega
   have hc:=vS p1 u1 (v1.take (v1.length-u1.length)) (v1.drop (v1.length-u1.length)) q1 (m-u1.length) (m+v1.length-u1.length) n u1.length (.func f caps) (by omega) (by omega) (by omega) (by omega) (by omega) hN;rw[zz5 (p1++u1),←hs] at hc;refine .ar (by decide +kernel) fun K hK =>?_;simp only[JO,ab,simprocAttr]
   try simp only[w3,w5,w6,simprocAttr]
   refine bn.lQ hc (lz _ n f caps hcl [_,_,_]) ?_;rintro r os' ⟨rfl,rfl⟩;refine ⟨_,rfl,rfl,?_⟩
   try simp only[ab,simprocAttr]
   refine .done (hK _ ?_);clear hK K;refine .bx (by decide +kernel) fun K hK =>?_;simp only[JP,ab,simprocAttr]
   try simp only[w4,simprocAttr]
   refine .done (hK _ ?_);clear hK K;try simp only[au,bP]
   refine ⟨⟨p1,v1.drop (v1.length-u1.length),v1.take (v1.length-u1.length),u1++q1⟩,⟨by simp only;omega,by simp only;omega,by simp only;omega,by simp only;omega,?_⟩,by simp only;omega,?_⟩
   ·simp only;rw[←g5]
    conv=>rhs;rw[hs]
    simp only[zz5]
   ·simp only[hd,ht];rw[←zz5 _ u1 q1];refine aB.dj ?_ (fun n=>rfl);simp[aQ,aS]
 ·have he:u1.length=v1.length:=by simp at h;omega
  refine U.exit ?_;try simp only[au,bP,simprocAttr]
  have w3:=jq (x:=m) (y:=u1.length) (by omega) (by omega);have hc:=vS p1 u1 [] v1 q1 (m-u1.length) m n u1.length (.func f caps) (by omega) (by omega) (by simp;omega) rfl (by omega) hN;simp only[zx6] at hc;refine .bx (by decide +kernel) fun K hK =>?_;simp only[JQ,ab,simprocAttr]
  try simp only[w3,simprocAttr]
  refine bn.lQ hc (lz _ n f caps hcl [_,_,_]) ?_;rintro r os' ⟨rfl,rfl⟩;refine ⟨_,rfl,rfl,?_⟩
  try simp only[ab,simprocAttr]
  refine .done (hK _ ?_);clear hK K;rw[mN];exact oL rfl g5 ⟨rfl,rfl⟩
theorem vv{el:List ak}{s:List Int}(h:dC el s){i j:Nat}(hij:i<j)(hj:j<s.length):dX el (s.getD i 0) (s.getD j 0):=by
 rw[zz0,zz0,zy0 (by omega),zy0 hj];exact List.pairwise_iff_getElem.1 h i j (by omega) hj hij
theorem rj{el:List ak}{s:List Int}(h:dC el s){i j:Nat}(hij:i≤j)(hj:j<s.length){x:Int}(hx:dX el (s.getD j 0) x):dX el (s.getD i 0) x:=by
 rcases Nat.lt_or_ge i j with h1 | h1
 ·exact y6 (vv h h1 hj) hx
 ·have:i=j:=by omega
  rw[this];exact hx
theorem ri{el:List ak}{s:List Int}(h:dC el s){i j:Nat}(hij:i≤j)(hj:j<s.length){x:Int}(hx:dX el x (s.getD i 0)):dX el x (s.getD j 0):=by
 rcases Nat.lt_or_ge i j with h1 | h1
 ·exact y6 hx (vv h h1 hj)
 ·have:i=j:=by omega
  rw[←this];exact hx
theorem uG{s:List Int}{k:Nat}{x:Int}(h:x∈s.take k):∃ i,i<k∧i<s.length∧s.getD i 0=x:=by
 obtain ⟨i,hi,rfl⟩:=zu3 h;rw[zy4] at hi;exact ⟨i,by omega,by omega,by rw[zz0,zy0 (by omega),List.getElem_take];rfl⟩
theorem qI{s:List Int}{k:Nat}{x:Int}(h:x∈s.drop k):∃ i,k≤i∧i<s.length∧s.getD i 0=x:=by
 obtain ⟨i,hi,rfl⟩:=zu3 h;rw[zy8] at hi;exact ⟨k+i,by omega,by omega,by rw[zz0,zy0 (by omega),List.getElem_drop];rfl⟩
def sU(el:List ak)(l r:List Int)(k i:Nat):Prop:=∀ x∈l.take i++r.take (k-i),∀ y∈l.drop i++r.drop (k-i),dX el x y
theorem aaa{el:List ak}{l r:List Int}{k i lo hi:Nat}(hl:dC el l)(hr:dC el r)(h1:lo≤i)(h2:i≤hi)(hlo:lo=0∨lo+r.length=k)(hhi:hi=l.length∨hi=k)(hil:hi≤l.length)(hik:hi≤k)(hlr:k≤lo+r.length)
  (g1:∀ j,lo≤j→j<i→dX el (l.getD j 0) (r.getD (k-1-j) 0)) (g2:∀ j,i≤j→j<hi→dX el (r.getD (k-1-j) 0) (l.getD j 0)):sU el l r k i:=by
 intro x hx y hy;rcases zy5.1 hx with hx | hx
 ·obtain ⟨a,ha1,ha2,rfl⟩:=uG hx;rcases zy5.1 hy with hy | hy
  ·obtain ⟨b,hb1,hb2,rfl⟩:=qI hy;exact vv hl (by omega) hb2
  ·obtain ⟨b,hb1,hb2,rfl⟩:=qI hy;by_cases hli:lo<i
   ·have:=g1 (i-1) (by omega) (by omega);have e:k-1-(i-1)=k-i:=by omega
    rw[e] at this;refine rj hl (j:=i-1) (by omega) (by omega) ?_;exact ri hr (i:=k-i) (by omega) hb2 this
   ·omega
 ·obtain ⟨a,ha1,ha2,rfl⟩:=uG hx;rcases zy5.1 hy with hy | hy
  ·obtain ⟨b,hb1,hb2,rfl⟩:=qI hy;by_cases hih:i<hi
   ·have:=g2 i (zz7 _) hih;refine rj hr (j:=k-1-i) (by omega) (by omega) ?_;exact ri hl (i:=i) (by omega) hb2 this
   ·omega
  ·obtain ⟨b,hb1,hb2,rfl⟩:=qI hy;exact vv hr (by omega) hb2
theorem apR{el:List ak}{l r s1 s2:List Int}{k i:Nat}(hc:sU el l r k i)(h1:s1.Perm (l.take i++r.take (k-i)))(h2:s2.Perm (l.drop i++r.drop (k-i)))(k1:dC el s1)(k2:dC el s2):(s1++s2).Perm (l++r)∧dC el (s1++s2):=by
 refine ⟨(h1.append h2).trans ?_,List.pairwise_append.2 ⟨k1,k2,fun x hx y hy=>hc x (h1.mem_iff.1 hx) y (h2.mem_iff.1 hy)⟩⟩;have e:l.take i++r.take (k-i)++(l.drop i++r.drop (k-i))=l.take i++(r.take (k-i)++l.drop i)++r.drop (k-i):=by simp only[zz5]
 rw[e];refine (((List.perm_append_comm (l₁:=r.take (k-i)) (l₂:=l.drop i)).append_left _).append_right _).trans ?_;have e2:l.take i++(l.drop i++r.take (k-i))++r.drop (k-i)=(l.take i++l.drop i)++(r.take (k-i)++r.drop (k-i)):=by simp only[zz5]
 rw[e2,zx0,zx0]
theorem QC{el:List ak}{s:List Int}(h:dC el s)(k:Nat):dC el (s.take k):=h.sublist (List.take_sublist _ _)
theorem QB{el:List ak}{s:List Int}(h:dC el s)(k:Nat):dC el (s.drop k):=h.sublist (List.drop_sublist _ _)
theorem ym{p l r q:List Int}{a i:Nat}(ha:p.length=a)(hi:i<l.length):(p++l++r++q).getD (a+i) 0=l.getD i 0:=by
 subst ha;rw[zz0,zz0,zz5,zz5,zw0 (by omega),Nat.add_sub_cancel_left,zy9 hi]
theorem yn{p l r q:List Int}{m i:Nat}(hm:p.length+l.length=m)(hi:i<r.length):(p++l++r++q).getD (m+i) 0=r.getD i 0:=by
 subst hm;rw[zz0,zz0,zz5 (p++l),zw0 (by rw[zz2];omega),zz2,Nat.add_sub_cancel_left,zy9 hi]
theorem oC(x:Nat):Int.fdiv (x:Int) (2^min (Int.toNat 1) IntKind.u64.bits)=((x / 2:Nat):Int):=by
 have:min (Int.toNat 1) IntKind.u64.bits=1:=rfl;rw[this]
 show Int.fdiv (x:Int) 2=_
 rw[Int.fdiv_eq_ediv_of_nonneg _ (by decide)];rfl
theorem nx{x:Nat}(h:x<9223372036854775807):IntKind.u64.wrap (x:Int)=(x:Int):=by
 simp only[IntKind.wrap,IntKind.bits,IntKind.signed];simp;omega
theorem oB:((0:Int)≤1)=True:=by simp
theorem U.aqr{c:c6}{Q:Exit→af→Prop}{A:af}{x:aR}{σ:Type}(T:σ→af)(C:σ→Prop)(h1:U c x (au (fun B=>∃ s,C s∧Abs.aB B (T s)) fun _ _=>False) A)(h2:∀ s B,C s→Abs.aB B (T s)→Q .normal B):U c x Q A :=
 h1.mono fun e B hq=>by
  cases e <;>simp only[au] at hq <;>first
   |(obtain ⟨s,k1,k2⟩:=hq;exact h2 s B k1 k2)
   |exact hq.elim
theorem aqg{p r q:List Int}{x:Int}{a j:Nat}(ha:p.length=a)(hj:j<r.length):lq (ew p r q x j) (a+j) (a+j+1)=ew p r q x (j+1):=by
 have e1:ew p r q x (j+1)=(p++r.take j)++r[j]::x::(r.drop (j+1)++q):=by
  simp only[ew];rw[zz8 hj];simp only[zz5,zz9,zy3]
 have e2:ew p r q x j=(p++r.take j)++x::r[j]::(r.drop (j+1)++q):=by
  simp only[ew];rw[zv8 hj];simp only[zz5,zz9]
 rw[e1,e2];exact aqh (by rw[zz2,zy4];omega) rfl
theorem alZ(p r q:List Int)(x:Int):ew p r q x 0=p++[x]++r++q:=by simp[ew]
theorem al2(p r q:List Int)(x:Int):ew p r q x r.length=p++r++[x]++q:=by simp[ew]
theorem R9(el:List ak)(hd:nh el)(hel:el.length≤60)(p l r q:List Int)(a m b n:Nat)(hl0:0<l.length)(hr0:0<r.length)(ha:p.length=a)(hm:a+l.length=m)(hb:m+r.length=b)(hn:b≤n)(hnl:n≤(p++l++r++q).length)(hn1:n≤1000)(hsl:dC el l)(hsr:dC el r)(hlr:∀ x∈l,∀ y∈r,x<y)(hin:∀ x∈l++r,j0 el x)(hl1:l.length=1) :
  cF Tryz.prog 204 [.view 1000000 [] 1 0 n,enc (a:Int),enc (m:Int),enc (b:Int),.func 138 [.ref (enc el)]] (bK 1000000 (p++l++r++q)) (nQ el p (l++r) q):=by
 have hlen:(p++l++r++q).length=p.length+l.length+r.length+q.length:=by simp only[zz2]
 have oe:=fun i (hi:i<l.length)=>ym (p:=p) (l:=l) (r:=r) (q:=q) (i:=i) ha hi;have gr:=fun i (hi:i<r.length)=>yn (p:=p) (l:=l) (r:=r) (q:=q) (m:=m) (i:=i) (by omega) hi;have ml:=fun i (hi:i<l.length)=>(show l.getD i 0∈l by rw[zz0,zy0 hi];exact zx5 _)
 have mr:=fun i (hi:i<r.length)=>(show r.getD i 0∈r by rw[zz0,zy0 hi];exact zx5 _)
 refine cF.bp Tryz.func204 wE wH wU (t7 rfl) (t7 rfl) mP (fun hwf W0 D0 E1 =>?_);simp only[tt,u6,bl,zz4,Nat.reduceAdd];clear hwf;have fC:=jq (x:=m) (y:=a) (by omega) (by omega);refine U.seq (U.seq ?_);obtain ⟨x,rfl⟩:=List.length_eq_one_iff.1 hl1;obtain ⟨ws,hws⟩:∃ ws,ws=p++[x]++r++q:=⟨_,rfl⟩
 rw[←hws] at hnl hlen gr oe ⊢;have gx:ws.getD a 0=x:=by have:=oe 0 hl0;simpa using this
 have hxr:=hlr x (by simp);have hxS:=hin x (by simp);have hrS:=fun y (hy:y∈r)=>hin y (by simp[hy]);have h1:((m-a:Nat):Int)=1:=by omega
 refine .bx (by decide +kernel) fun K hK =>?_;simp only[tW,ab,Nat.reduceEqDiff,reduceIte]
 try simp only[fC,h1,Int.reduceBEq]
 refine .done (hK _ ?_);clear hK K;try simp only[au]
 refine U.bL ?_
 try simp only[al,ab,Nat.reduceEqDiff,reduceIte]
 refine ⟨fun _ =>?_,fun h =>?_⟩
 rotate_left
 ·simp at h
 refine .ar (by decide +kernel) fun K hK =>?_;simp only[Jh,ab,Nat.reduceEqDiff,reduceIte];refine .done (hK _ ?_);clear hK K;refine .ar (by decide +kernel) fun K hK =>?_;simp only[Jl,ab,Nat.reduceEqDiff,reduceIte];refine .done (hK _ ?_);clear hK K;refine U.seq (U.block (U.loop (fun s:Nat×Nat=>aw [(0,.view 1000000 [] 1 0 n),(1,.int .i64 a),(2,.int .i64 m),(3,.int .i64 b),(4,.func 138 [.ref (enc el)]),(10,.int .i64 ((m+s.1:Nat):Int)),(11,.int .i64 ((m+s.2:Nat):Int))] (bK 1000000 ws))
  (fun s=>s.1≤s.2∧s.2≤r.length∧(∀ j,j<s.1→dX el (r.getD j 0) x)∧∀ j,s.2≤j→j<r.length→dX el x (r.getD j 0)) (fun s=>s.2-s.1) (0,r.length) ⟨zw3 _,zz7 _,fun j hj=>by omega,fun j h1 h2=>by simp only at h1;omega⟩ ?_ ?_))
 ·have e1:m+0=m:=rfl;simp only[e1,hb];refine aB.dj ?_ (fun n=>rfl);simp[aQ,aS]
 rintro ⟨i,j⟩ ⟨g1,g2,g3,g4⟩;simp only at g1 g2 g3 g4 ⊢;by_cases hij:i<j
 ·have hc:decide (((m+i:Nat):Int)<((m+j:Nat):Int))=true:=by simp;omega
  have w1:=kN (m+i) (m+j) (by omega);have w2:=nx (x:=m+i+(m+j)) (by omega);obtain ⟨c,hcd⟩:∃ c,c=(i+j) / 2:=⟨_,rfl⟩
  have hci:i≤c∧c<j:=by omega
  have w3:(m+i+(m+j)) / 2=m+c:=by omega
  have w4:=nx (x:=m+c) (by omega);have w5:=sR (n:=m+c) (by omega);have w6:=ea (i:=m+c) (by omega);have v1:=il (n:=n) (i:=m+c) (by omega);have v2:=il (n:=n) (i:=a) (by omega);have l1:=fV (xs:=ws) (i:=m+c) (by omega);have l2:=fV (xs:=ws) (i:=a) (by omega);rw[gr c (by omega)] at l1;rw[gx] at l2;have hrc:=mr c (by omega);have hcmp:=sW el hd hel (r.getD c 0) x (hrS _ hrc) hxS;have hlt:=uA (l:=el) (hxr _ hrc);simp only[bK];cases hdc:decide (gS el (r.getD c 0)-gS el x<0) with
  |true =>
   have hd1:dX el (r.getD c 0) x:=hlt.2 (by have:=of_decide_eq_true hdc;omega);have R:=v6 @hc (v6 @w1 (v6 @w2 (v6 @w3 (v6 @w4 (v6 @w5 (v6 @w6 (v6 @oC (v6 @oB (v6 @v1 (v6 @v2 (v6 @l1 (v6 @l2 (v6 @hdc (v6 @cL (v6 @dL (v6 @aO @ab))))))))))))))))
   repeat' ((first |(with_reducible refine .guard (fun hb =>?_) (fun hb =>?_) <;>try simp only[hb])|refine U.aI (by decide +kernel) rfl fun K hK =>?_|refine .flat _ (hcmp) rfl ?_|(refine .aD [0,1,2,3,4,10,11,12,13,14,15,16,17,18,19,20,21,22,23,24,28,33,50,58,80,85,103,110,140,151,171,185,199,213] hK ?_;clear hK K)|(with_reducible refine .done (hK _ ?_);clear hK K)|refine U.of rfl ?_|(with_reducible refine al.aH (fun h =>?_) (fun h =>?_) <;>try simp only[h])) <;>try simp only[aJ,R,zz9,Nat.reduceEqDiff,reduceIte,Nat.reduceBEq])
   all_goals clear R
   refine ⟨(c+1,j),⟨by simp only;omega,g2,fun k hk =>?_,g4⟩,by simp only;omega,?_⟩
   ·simp only at hk;exact rj hsr (j:=c) (by omega) (by omega) hd1
   ·refine aB.dj ?_ (fun n=>rfl);simp[aQ,aS];omega
  |false =>
   have hd1:dX el x (r.getD c 0):=uz (hxr _ hrc) (by have:=of_decide_eq_false hdc;omega);have R:=v6 @hc (v6 @w1 (v6 @w2 (v6 @w3 (v6 @w4 (v6 @w5 (v6 @w6 (v6 @oC (v6 @oB (v6 @v1 (v6 @v2 (v6 @l1 (v6 @l2 (v6 @hdc (v6 @cL (v6 @dL (v6 @aO @ab))))))))))))))))
   repeat' ((first |(with_reducible refine .guard (fun hb =>?_) (fun hb =>?_) <;>try simp only[hb])|refine U.aI (by decide +kernel) rfl fun K hK =>?_|refine .flat _ (hcmp) rfl ?_|(refine .aD [0,1,2,3,4,10,11,12,13,14,15,16,17,18,19,20,21,22,23,24,28,33,50,58,80,85,103,110,140,151,171,185,199,213] hK ?_;clear hK K)|(with_reducible refine .done (hK _ ?_);clear hK K)|refine U.of rfl ?_|(with_reducible refine al.aH (fun h =>?_) (fun h =>?_) <;>try simp only[h])) <;>try simp only[aJ,R,zz9,Nat.reduceEqDiff,reduceIte,Nat.reduceBEq])
   all_goals clear R
   refine ⟨(i,c),⟨by simp only;omega,by simp only;omega,g3,fun k hk hk2 =>?_⟩,by simp only;omega,?_⟩
   ·simp only at hk;exact ri hsr (i:=c) (by omega) hk2 hd1
   ·refine aB.dj ?_ (fun n=>rfl);simp[aQ,aS]
 ·have hc:decide (((m+i:Nat):Int)<((m+j:Nat):Int))=false:=by simp;omega
  have he:j=i:=by omega
  subst he;refine U.seq (U.seq ?_);refine .bx (by decide +kernel) fun K hK =>?_;simp only[Jq,ab,Nat.reduceEqDiff,reduceIte]
  try simp only[hc]
  refine .done (hK _ ?_);clear hK K;try simp only[au]
  refine U.bL ?_;simp only[al,ab,Nat.reduceEqDiff,reduceIte];refine ⟨fun h =>?_,fun h =>?_⟩
  ·cases h
  refine U.exit ?_;try simp only[au,bP,reduceIte]
  refine U.seq (U.seq ?_);refine .bx (by decide +kernel) fun K hK =>?_;simp only[Ju,ab,Nat.reduceEqDiff,reduceIte];refine .done (hK _ ?_);clear hK K;try simp only[au]
  have hi0:=alZ p r q x;rw[hws,←hi0];refine U.block (U.loop (fun k:Nat=>aw [(0,.view 1000000 [] 1 0 n),(10,.int .i64 ((m+j:Nat):Int)),(13,.int .i64 ((a+k:Nat):Int))] (bK 1000000 (ew p r q x k))) (fun k=>k≤j) (fun k=>j-k) 0 (zw3 _) ?_ (fun k hk =>?_))
  ·refine aB.dj ?_ (fun n=>rfl);simp[aQ,aS]
  have ww:IntKind.i64.wrap (((m+j:Nat):Int)-1)=((a+j:Nat):Int):=by rw[cG _ (by omega) (by omega)];simp at hm;omega
  have hil:(ew p r q x k).length=p.length+r.length+1+q.length:=yL (by omega);by_cases hkj:k<j
  ·have hc2:decide (((a+k:Nat):Int)<((a+j:Nat):Int))=true:=by simp;omega
   have hstep:=aqg (p:=p) (r:=r) (q:=q) (x:=x) (j:=k) ha (by omega);generalize ew p r q x k=ws at hil hstep ⊢;obtain ⟨i1,hi1e⟩:∃ i1,i1=a+k:=⟨_,rfl⟩
   obtain ⟨j1,hj1e⟩:∃ j1,j1=a+k+1:=⟨_,rfl⟩
   rw[←hj1e,←hi1e] at hstep;have wk:IntKind.i64.wrap ((i1:Int)+1)=(j1:Int):=by rw[cG _ (by omega) (by omega)];omega
   rw[←hi1e] at hc2 ⊢;have hi1:i1<n:=by simp at hm;omega
   have hj1:j1<n:=by simp at hm;omega
   simp only[bK];have v1:=il (n:=n) (i:=i1) hi1;have v2:=il (n:=n) (i:=j1) hj1;have l1:=fV (xs:=ws) (i:=i1) (by omega);have l2:=fV (xs:=ws) (i:=j1) (by omega);have s1:=fun (A:af) v u rest=>mV (A:=A) (n:=1000000) (xs:=ws) (i:=i1) (by omega) v u rest;obtain ⟨ws2,hws2⟩:∃ ws2,ws2=ws.set i1 (ws.getD j1 0):=⟨_,rfl⟩
   have hw2l:ws2.length=ws.length:=by rw[hws2];simp
   have s2:=fun (A:af) v u rest=>mV (A:=A) (n:=1000000) (xs:=ws2) (i:=j1) (by omega) v u rest;have l3:=fV (xs:=ws2) (i:=j1) (by omega);have R:=v6 @ww (v6 @hc2 (v6 @wk (v6 @v1 (v6 @v2 (v6 @l1 (v6 @l2 (v6 @l3 (v6 @s1 (v6 @s2 (v6 @cL (v6 @aO @ab)))))))))))
   repeat' ((first |(with_reducible refine .guard (fun hb =>?_) (fun hb =>?_) <;>try simp only[hb])|refine U.aI (by decide +kernel) rfl fun K hK =>?_|(refine .aD [0,1,2,3,4,10,11,12,13,14,15,16,17,18,19,20,21,22,23,24,28,33,50,58,80,85,103,110,140,151,171,185,199,213] hK ?_;clear hK K)|(with_reducible refine .done (hK _ ?_);clear hK K)|refine U.of rfl ?_|(with_reducible refine al.aH (fun h =>?_) (fun h =>?_) <;>try simp only[h])) <;>try simp only[aJ,R,←hws2,Nat.reduceEqDiff,reduceIte,Nat.reduceBEq])
   all_goals clear R
   refine ⟨k+1,by omega,by omega,?_⟩;rw[←hstep];simp only[lq,←hws2];have e:a+(k+1)=j1:=by omega
   rw[e];refine aB.dj ?_ (fun n =>?_)
   ·simp[aQ,aS]
   ·simp only[ao];split <;>rfl
  ·have hc2:decide (((a+k:Nat):Int)<((a+j:Nat):Int))=false:=by simp;omega
   have hk2:k=j:=by omega
   subst hk2;have R:=v6 @ww (v6 @hc2 (v6 @aO (v6 @eA @ab)))
   repeat' ((first |(with_reducible refine .guard (fun hb =>?_) (fun hb =>?_) <;>try simp only[hb])|refine U.aI (by decide +kernel) rfl fun K hK =>?_|(refine .aD [0,1,2,3,4,10,11,12,13,14,15,16,17,18,19,20,21,22,23,24,28,33,50,58,80,85,103,110,140,151,171,185,199,213] hK ?_;clear hK K)|(with_reducible refine .done (hK _ ?_);clear hK K)|refine U.of rfl ?_|(with_reducible refine al.aH (fun h =>?_) (fun h =>?_) <;>try simp only[h])) <;>try simp only[aJ,R,Nat.reduceEqDiff,reduceIte,Nat.reduceBEq])
   all_goals clear R
   refine oL rfl rfl ⟨rfl,r.take k++x::r.drop k,?_,?_,?_⟩
   ·refine List.perm_middle.trans ?_;rw[zx0];exact .refl _
   ·refine Au hsr (fun y hy =>?_) (fun y hy =>?_)
    ·obtain ⟨i,h1,h2,rfl⟩:=uG hy;exact g3 i h1
    ·obtain ⟨i,h1,h2,rfl⟩:=qI hy;exact g4 i h1 h2
   ·rfl
theorem Sa(el:List ak)(hd:nh el)(hel:el.length≤60)(p l r q:List Int)(a m b n:Nat)(hl0:0<l.length)(hr0:0<r.length)(ha:p.length=a)(hm:a+l.length=m)(hb:m+r.length=b)(hn:b≤n)(hnl:n≤(p++l++r++q).length)(hn1:n≤1000)(hsl:dC el l)(hsr:dC el r)(hlr:∀ x∈l,∀ y∈r,x<y)(hin:∀ x∈l++r,j0 el x)(hl1:¬ l.length=1)(hr1:r.length=1) :
  cF Tryz.prog 204 [.view 1000000 [] 1 0 n,enc (a:Int),enc (m:Int),enc (b:Int),.func 138 [.ref (enc el)]] (bK 1000000 (p++l++r++q)) (nQ el p (l++r) q):=by
 have hlen:(p++l++r++q).length=p.length+l.length+r.length+q.length:=by simp only[zz2]
 have oe:=fun i (hi:i<l.length)=>ym (p:=p) (l:=l) (r:=r) (q:=q) (i:=i) ha hi;have gr:=fun i (hi:i<r.length)=>yn (p:=p) (l:=l) (r:=r) (q:=q) (m:=m) (i:=i) (by omega) hi;have ml:=fun i (hi:i<l.length)=>(show l.getD i 0∈l by rw[zz0,zy0 hi];exact zx5 _)
 have mr:=fun i (hi:i<r.length)=>(show r.getD i 0∈r by rw[zz0,zy0 hi];exact zx5 _)
 refine cF.bp Tryz.func204 wE wH wU (t7 rfl) (t7 rfl) mP (fun hwf W0 D0 E1 =>?_);simp only[tt,u6,bl,zz4,Nat.reduceAdd];clear hwf;have fC:=jq (x:=m) (y:=a) (by omega) (by omega);refine U.seq (U.seq ?_);have h1:(((m-a:Nat):Int)==1)=false:=by simp;omega
 obtain ⟨ws,hws⟩:∃ ws,ws=p++l++r++q:=⟨_,rfl⟩
 rw[←hws] at hnl hlen gr oe ⊢;have w0b:=jq (x:=b) (y:=m) (by omega) (by omega);refine .bx (by decide +kernel) fun K hK =>?_;simp only[tW,ab,Nat.reduceEqDiff,reduceIte]
 try simp only[fC,h1]
 refine .done (hK _ ?_);clear hK K;try simp only[au]
 refine U.bL ?_
 try simp only[al,ab,Nat.reduceEqDiff,reduceIte]
 refine ⟨fun h =>?_,fun _ =>?_⟩
 ·simp at h
 refine U.skip ?_;try simp only[au]
 refine U.seq (U.seq ?_);obtain ⟨x,rfl⟩:=List.length_eq_one_iff.1 hr1;have gx:ws.getD m 0=x:=by have:=gr 0 hr0;simpa using this
 have hlx:∀ y∈l,y<x:=fun y hy=>hlr y hy x (by simp);have hxS:=hin x (by simp);have hlS:=fun y (hy:y∈l)=>hin y (by simp[hy]);have h2:((b-m:Nat):Int)=1:=by omega
 refine .bx (by decide +kernel) fun K hK =>?_;simp only[x8,ab,Nat.reduceEqDiff,reduceIte]
 try simp only[w0b,h2,Int.reduceBEq]
 refine .done (hK _ ?_);clear hK K;try simp only[au]
 refine U.bL ?_
 try simp only[al,ab,Nat.reduceEqDiff,reduceIte]
 refine ⟨fun _ =>?_,fun h =>?_⟩
 rotate_left
 ·simp at h
 refine .ar (by decide +kernel) fun K hK =>?_;simp only[Ji,ab,Nat.reduceEqDiff,reduceIte];refine .done (hK _ ?_);clear hK K;refine .ar (by decide +kernel) fun K hK =>?_;simp only[Jj,ab,Nat.reduceEqDiff,reduceIte];refine .done (hK _ ?_);clear hK K;refine U.seq (U.block (U.loop (fun s:Nat×Nat=>aw [(0,.view 1000000 [] 1 0 n),(1,.int .i64 a),(2,.int .i64 m),(3,.int .i64 b),(4,.func 138 [.ref (enc el)]),(14,.int .i64 ((a+s.1:Nat):Int)),(15,.int .i64 ((a+s.2:Nat):Int))] (bK 1000000 ws))
  (fun s=>s.1≤s.2∧s.2≤l.length∧(∀ j,j<s.1→dX el (l.getD j 0) x)∧∀ j,s.2≤j→j<l.length→dX el x (l.getD j 0)) (fun s=>s.2-s.1) (0,l.length) ⟨zw3 _,zz7 _,fun j hj=>by omega,fun j h1 h2=>by simp only at h1;omega⟩ ?_ ?_))
 ·have e1:a+0=a:=rfl;simp only[e1,hm];refine aB.dj ?_ (fun n=>rfl);simp[aQ,aS]
 rintro ⟨i,j⟩ ⟨g1,g2,g3,g4⟩;simp only at g1 g2 g3 g4 ⊢;by_cases hij:i<j
 ·have hc:decide (((a+i:Nat):Int)<((a+j:Nat):Int))=true:=by simp;omega
  have w1:=kN (a+i) (a+j) (by omega);have w2:=nx (x:=a+i+(a+j)) (by omega);obtain ⟨c,hcd⟩:∃ c,c=(i+j) / 2:=⟨_,rfl⟩
  have hci:i≤c∧c<j:=by omega
  have w3:(a+i+(a+j)) / 2=a+c:=by omega
  have w4:=nx (x:=a+c) (by omega);have w5:=sR (n:=a+c) (by omega);have w6:=ea (i:=a+c) (by omega);have v1:=il (n:=n) (i:=a+c) (by omega);have v2:=il (n:=n) (i:=m) (by omega);have l1:=fV (xs:=ws) (i:=a+c) (by omega);have l2:=fV (xs:=ws) (i:=m) (by omega);rw[oe c (by omega)] at l1;rw[gx] at l2;have hrc:=ml c (by omega);have hcmp:=sW el hd hel x (l.getD c 0) hxS (hlS _ hrc);have hlt:=uA (l:=el) (hlx _ hrc);simp only[bK];cases hdc:decide (gS el x-gS el (l.getD c 0)<0) with
  |true =>
   have hd1:dX el x (l.getD c 0):=hlt.2 (by have:=of_decide_eq_true hdc;omega);have R:=v6 @hc (v6 @w1 (v6 @w2 (v6 @w3 (v6 @w4 (v6 @w5 (v6 @w6 (v6 @oC (v6 @oB (v6 @v1 (v6 @v2 (v6 @l1 (v6 @l2 (v6 @hdc (v6 @cL (v6 @dL (v6 @aO @ab))))))))))))))))
   repeat' ((first |(with_reducible refine .guard (fun hb =>?_) (fun hb =>?_) <;>try simp only[hb])|refine U.aI (by decide +kernel) rfl fun K hK =>?_|refine .flat _ (hcmp) rfl ?_|(refine .aD [0,1,2,3,4,10,11,12,13,14,15,16,17,18,19,20,21,22,23,24,28,33,50,58,80,85,103,110,140,151,171,185,199,213] hK ?_;clear hK K)|(with_reducible refine .done (hK _ ?_);clear hK K)|refine U.of rfl ?_|(with_reducible refine al.aH (fun h =>?_) (fun h =>?_) <;>try simp only[h])) <;>try simp only[aJ,R,zz9,Nat.reduceEqDiff,reduceIte,Nat.reduceBEq])
   all_goals clear R
   refine ⟨(i,c),⟨by simp only;omega,by simp only;omega,g3,fun k hk hk2 =>?_⟩,by simp only;omega,?_⟩
   ·simp only at hk;exact ri hsl (i:=c) (by omega) hk2 hd1
   ·refine aB.dj ?_ (fun n=>rfl);simp[aQ,aS]
  |false =>
   have hd1:dX el (l.getD c 0) x:=uz (hlx _ hrc) (by have:=of_decide_eq_false hdc;omega);have R:=v6 @hc (v6 @w1 (v6 @w2 (v6 @w3 (v6 @w4 (v6 @w5 (v6 @w6 (v6 @oC (v6 @oB (v6 @v1 (v6 @v2 (v6 @l1 (v6 @l2 (v6 @hdc (v6 @cL (v6 @dL (v6 @aO @ab))))))))))))))))
   repeat' ((first |(with_reducible refine .guard (fun hb =>?_) (fun hb =>?_) <;>try simp only[hb])|refine U.aI (by decide +kernel) rfl fun K hK =>?_|refine .flat _ (hcmp) rfl ?_|(refine .aD [0,1,2,3,4,10,11,12,13,14,15,16,17,18,19,20,21,22,23,24,28,33,50,58,80,85,103,110,140,151,171,185,199,213] hK ?_;clear hK K)|(with_reducible refine .done (hK _ ?_);clear hK K)|refine U.of rfl ?_|(with_reducible refine al.aH (fun h =>?_) (fun h =>?_) <;>try simp only[h])) <;>try simp only[aJ,R,zz9,Nat.reduceEqDiff,reduceIte,Nat.reduceBEq])
   all_goals clear R
   refine ⟨(c+1,j),⟨by simp only;omega,g2,fun k hk =>?_,g4⟩,by simp only;omega,?_⟩
   ·simp only at hk;exact rj hsl (j:=c) (by omega) (by omega) hd1
   ·refine aB.dj ?_ (fun n=>rfl);simp[aQ,aS];omega
 ·have hc:decide (((a+i:Nat):Int)<((a+j:Nat):Int))=false:=by simp;omega
  have he:j=i:=by omega
  subst he;refine U.seq (U.seq ?_);refine .bx (by decide +kernel) fun K hK =>?_;simp only[Jk,ab,Nat.reduceEqDiff,reduceIte]
  try simp only[hc]
  refine .done (hK _ ?_);clear hK K;try simp only[au]
  refine U.bL ?_;simp only[al,ab,Nat.reduceEqDiff,reduceIte];refine ⟨fun h =>?_,fun h =>?_⟩
  ·cases h
  refine U.exit ?_;try simp only[au,bP,reduceIte]
  refine U.seq (U.seq ?_);refine .bx (by decide +kernel) fun K hK =>?_;simp only[Jm,ab,Nat.reduceEqDiff,reduceIte];refine .done (hK _ ?_);clear hK K;try simp only[au]
  have hi0:=al2 p l q x;rw[hws,←hi0];refine U.block (U.loop (fun k:Nat=>aw [(0,.view 1000000 [] 1 0 n),(14,.int .i64 ((a+j:Nat):Int)),(17,.int .i64 ((a+k:Nat):Int))] (bK 1000000 (ew p l q x k))) (fun k=>j≤k∧k≤l.length) (fun k=>k-j) l.length ⟨g2,zz7 _⟩ ?_ (fun k hk =>?_))
  ·rw[hm];refine aB.dj ?_ (fun n=>rfl);simp[aQ,aS]
  have hil:(ew p l q x k).length=p.length+l.length+1+q.length:=yL (by omega);by_cases hkj:j<k
  ·have hc2:decide (((a+j:Nat):Int)<((a+k:Nat):Int))=true:=by simp;omega
   obtain ⟨k',rfl⟩:∃ k',k=k'+1:=⟨k-1,by omega⟩
   have hstep:=L1 (p:=p) (t:=l) (rest:=q) (x:=x) (c:=k') ha (by omega);generalize ew p l q x (k'+1)=ws at hil hstep ⊢;obtain ⟨i1,hi1e⟩:∃ i1,i1=a+(k'+1):=⟨_,rfl⟩
   obtain ⟨j1,hj1e⟩:∃ j1,j1=a+k':=⟨_,rfl⟩
   have hij:a+k'+1=i1:=by omega
   rw[hij,←hj1e] at hstep;have wk:IntKind.i64.wrap ((i1:Int)-1)=(j1:Int):=by rw[cG _ (by omega) (by omega)];omega
   rw[←hi1e] at hc2 ⊢;have hi1:i1<n:=by omega
   have hj1:j1<n:=by omega
   simp only[bK];have v1:=il (n:=n) (i:=i1) hi1;have v2:=il (n:=n) (i:=j1) hj1;have l1:=fV (xs:=ws) (i:=i1) (by omega);have l2:=fV (xs:=ws) (i:=j1) (by omega);have s1:=fun (A:af) v u rest=>mV (A:=A) (n:=1000000) (xs:=ws) (i:=i1) (by omega) v u rest;obtain ⟨ws2,hws2⟩:∃ ws2,ws2=ws.set i1 (ws.getD j1 0):=⟨_,rfl⟩
   have hw2l:ws2.length=ws.length:=by rw[hws2];simp
   have s2:=fun (A:af) v u rest=>mV (A:=A) (n:=1000000) (xs:=ws2) (i:=j1) (by omega) v u rest;have l3:=fV (xs:=ws2) (i:=j1) (by omega);have R:=v6 @hc2 (v6 @wk (v6 @v1 (v6 @v2 (v6 @l1 (v6 @l2 (v6 @l3 (v6 @s1 (v6 @s2 (v6 @cL (v6 @aO @ab))))))))))
   repeat' ((first |(with_reducible refine .guard (fun hb =>?_) (fun hb =>?_) <;>try simp only[hb])|refine U.aI (by decide +kernel) rfl fun K hK =>?_|(refine .aD [0,1,2,3,4,10,11,12,13,14,15,16,17,18,19,20,21,22,23,24,28,33,50,58,80,85,103,110,140,151,171,185,199,213] hK ?_;clear hK K)|(with_reducible refine .done (hK _ ?_);clear hK K)|refine U.of rfl ?_|(with_reducible refine al.aH (fun h =>?_) (fun h =>?_) <;>try simp only[h])) <;>try simp only[aJ,R,←hws2,Nat.reduceEqDiff,reduceIte,Nat.reduceBEq])
   all_goals clear R
   refine ⟨k',by omega,by omega,?_⟩;rw[←hstep];simp only[lq,←hws2,←hj1e];refine aB.dj ?_ (fun n =>?_)
   ·simp[aQ,aS]
   ·simp only[ao];split <;>rfl
  ·have hc2:decide (((a+j:Nat):Int)<((a+k:Nat):Int))=false:=by simp;omega
   have hk2:k=j:=by omega
   subst hk2;have R:=v6 @hc2 (v6 @aO (v6 @eA @ab))
   repeat' ((first |(with_reducible refine .guard (fun hb =>?_) (fun hb =>?_) <;>try simp only[hb])|refine U.aI (by decide +kernel) rfl fun K hK =>?_|(refine .aD [0,1,2,3,4,10,11,12,13,14,15,16,17,18,19,20,21,22,23,24,28,33,50,58,80,85,103,110,140,151,171,185,199,213] hK ?_;clear hK K)|(with_reducible refine .done (hK _ ?_);clear hK K)|refine U.of rfl ?_|(with_reducible refine al.aH (fun h =>?_) (fun h =>?_) <;>try simp only[h])) <;>try simp only[aJ,R,Nat.reduceEqDiff,reduceIte,Nat.reduceBEq])
   all_goals clear R
   refine oL rfl rfl ⟨rfl,l.take k++x::l.drop k,?_,?_,?_⟩
   ·refine List.perm_middle.trans ?_;rw[zx0];exact List.perm_append_comm (l₁:=[x])
   ·refine Au hsl (fun y hy =>?_) (fun y hy =>?_)
    ·obtain ⟨i,h1,h2,rfl⟩:=uG hy;exact g3 i h1
    ·obtain ⟨i,h1,h2,rfl⟩:=qI hy;exact g4 i h1 h2
   ·rfl
theorem Sb(el:List ak)(hd:nh el)(hel:el.length≤60)(N:Nat)(ih:∀ (p l r q:List Int) (a m b n:Nat),l.length+r.length≤N→0<l.length→0<r.length→p.length=a→a+l.length=m→m+r.length=b→b≤n→n≤(p++l++r++q).length→n≤1000→dC el l→dC el r→(∀ x∈l,∀ y∈r,x<y)→(∀ x∈l++r,j0 el x) →
  cF Tryz.prog 204 [.view 1000000 [] 1 0 n,enc (a:Int),enc (m:Int),enc (b:Int),.func 138 [.ref (enc el)]] (bK 1000000 (p++l++r++q)) (nQ el p (l++r) q)) (p l r q:List Int) (a m b n:Nat) (hl0:0<l.length) (hr0:0<r.length) (ha:p.length=a) (hm:a+l.length=m) (hb:m+r.length=b) (hn:b≤n) (hnl:n≤(p++l++r++q).length) (hn1:n≤1000) (hsl:dC el l) (hsr:dC el r) (hlr:∀ x∈l,∀ y∈r,x<y) (hin:∀ x∈l++r,j0 el x) (hN:l.length+r.length≤N+1) (hl1:¬ l.length=1) (hr1:¬ r.length=1) :
  cF Tryz.prog 204 [.view 1000000 [] 1 0 n,enc (a:Int),enc (m:Int),enc (b:Int),.func 138 [.ref (enc el)]] (bK 1000000 (p++l++r++q)) (nQ el p (l++r) q):=by
 have hlen:(p++l++r++q).length=p.length+l.length+r.length+q.length:=by simp only[zz2]
 have oe:=fun i (hi:i<l.length)=>ym (p:=p) (l:=l) (r:=r) (q:=q) (i:=i) ha hi;have gr:=fun i (hi:i<r.length)=>yn (p:=p) (l:=l) (r:=r) (q:=q) (m:=m) (i:=i) (by omega) hi;have ml:=fun i (hi:i<l.length)=>(show l.getD i 0∈l by rw[zz0,zy0 hi];exact zx5 _)
 have mr:=fun i (hi:i<r.length)=>(show r.getD i 0∈r by rw[zz0,zy0 hi];exact zx5 _)
 refine cF.bp Tryz.func204 wE wH wU (t7 rfl) (t7 rfl) mP (fun hwf W0 D0 E1 =>?_);simp only[tt,u6,bl,zz4,Nat.reduceAdd];clear hwf;have fC:=jq (x:=m) (y:=a) (by omega) (by omega);refine U.seq (U.seq ?_);have h1:(((m-a:Nat):Int)==1)=false:=by simp;omega
 obtain ⟨ws,hws⟩:∃ ws,ws=p++l++r++q:=⟨_,rfl⟩
 rw[←hws] at hnl hlen gr oe ⊢;have w0b:=jq (x:=b) (y:=m) (by omega) (by omega);refine .bx (by decide +kernel) fun K hK =>?_;simp only[tW,ab,Nat.reduceEqDiff,reduceIte]
 try simp only[fC,h1]
 refine .done (hK _ ?_);clear hK K;try simp only[au]
 refine U.bL ?_
 try simp only[al,ab,Nat.reduceEqDiff,reduceIte]
 refine ⟨fun h =>?_,fun _ =>?_⟩
 ·simp at h
 refine U.skip ?_;try simp only[au]
 refine U.seq (U.seq ?_);have h2:(((b-m:Nat):Int)==1)=false:=by simp;omega
 refine .bx (by decide +kernel) fun K hK =>?_;simp only[x8,ab,Nat.reduceEqDiff,reduceIte]
 try simp only[w0b,h2]
 refine .done (hK _ ?_);clear hK K;try simp only[au]
 refine U.bL ?_
 try simp only[al,ab,Nat.reduceEqDiff,reduceIte]
 refine ⟨fun h =>?_,fun _ =>?_⟩
 ·simp at h
 refine U.skip ?_;try simp only[au]
 obtain ⟨k,hk⟩:∃ k,k=(l.length+r.length) / 2:=⟨_,rfl⟩
 have w1:=kN a b (by omega);have w2:=nx (x:=a+b) (by omega);have w3:(a+b) / 2=a+k:=by omega
 have w4:=nx (x:=a+k) (by omega);have w5:=sR (n:=a+k) (by omega);have w6:=kN (a+k) m (by omega);refine .ar (by decide +kernel) fun K hK =>?_;simp only[Jn,ab,Nat.reduceEqDiff,reduceIte]
 try simp only[w1,w2,w3,w5,oC,oB,ab,Nat.reduceEqDiff,reduceIte]
 refine .done (hK _ ?_);clear hK K;refine .ar (by decide +kernel) fun K hK =>?_;simp only[Jo,ab,Nat.reduceEqDiff,reduceIte]
 try simp only[w6]
 refine .done (hK _ ?_);clear hK K;refine .ar (by decide +kernel) fun K hK =>?_;simp only[Jp,ab];refine .done (hK _ ?_);clear hK K;obtain ⟨lo,hi,q1,q2,q3,q4,q5,q6,q7⟩:∃ lo hi,(if a+k<m then lo+r.length=k∧hi=k else lo=0∧hi=l.length)∧lo≤hi∧hi≤l.length∧hi≤k∧k≤lo+r.length∧(lo=0∨lo+r.length=k)∧(hi=l.length∨hi=k):=by
  by_cases h:a+k<m
  ·exact ⟨k-r.length,k,by rw[if_pos h];omega,by omega,by omega,by omega,by omega,by omega,by omega⟩
  ·exact ⟨0,l.length,by rw[if_neg h];omega,by omega,by omega,by omega,by omega,by omega,by omega⟩
 refine U.seq (U.AK (aw [(0,.view 1000000 [] 1 0 n),(1,.int .i64 a),(2,.int .i64 m),(3,.int .i64 b),(4,.func 138 [.ref (enc el)]),(18,.int .i64 ((a+k:Nat):Int)),(19,.int .i64 ((a+k+m:Nat):Int)),(20,.int .i64 ((a+lo:Nat):Int)),(21,.int .i64 ((a+hi:Nat):Int))] (bK 1000000 ws)) ?_ fun B hB=>U.sub hB ?_)
 ·by_cases h:a+k<m
  ·rw[if_pos h] at q1;have hc:decide (((a+k:Nat):Int)<(m:Int))=true:=by simp;omega
   have w7:=jq (x:=a+k+m) (y:=b) (by omega) (by omega);have e1:a+k+m-b=a+lo:=by omega
   have R:=v6 @hc (v6 @w7 (v6 @e1 (v6 @aO @ab)))
   repeat' ((first |(with_reducible refine .guard (fun hb =>?_) (fun hb =>?_) <;>try simp only[hb])|refine U.aI (by decide +kernel) rfl fun K hK =>?_|(refine .aD [0,1,2,3,4,10,11,12,13,14,15,16,17,18,19,20,21,22,23,24,28,33,50,58,80,85,103,110,140,151,171,185,199,213] hK ?_;clear hK K)|(with_reducible refine .done (hK _ ?_);clear hK K)|refine U.of rfl ?_|(with_reducible refine al.aH (fun h =>?_) (fun h =>?_) <;>try simp only[h])) <;>try simp only[aJ,R,Nat.reduceEqDiff,reduceIte,Nat.reduceBEq])
   all_goals clear R
   rw[q1.2];refine aB.dj ?_ (fun n=>rfl);simp[aQ,aS]
  ·rw[if_neg h] at q1;have hc:decide (((a+k:Nat):Int)<(m:Int))=false:=by simp;omega
   have R:=v6 @hc (v6 @aO @ab)
   repeat' ((first |(with_reducible refine .guard (fun hb =>?_) (fun hb =>?_) <;>try simp only[hb])|refine U.aI (by decide +kernel) rfl fun K hK =>?_|(refine .aD [0,1,2,3,4,10,11,12,13,14,15,16,17,18,19,20,21,22,23,24,28,33,50,58,80,85,103,110,140,151,171,185,199,213] hK ?_;clear hK K)|(with_reducible refine .done (hK _ ?_);clear hK K)|refine U.of rfl ?_|(with_reducible refine al.aH (fun h =>?_) (fun h =>?_) <;>try simp only[h])) <;>try simp only[aJ,R,Nat.reduceEqDiff,reduceIte,Nat.reduceBEq])
   all_goals clear R
   rw[q1.2,q1.1,hm];refine aB.dj ?_ (fun n=>rfl);simp[aQ,aS]
 clear q1 w1 w2 w3 w4 w5 w6 hl1 hr1 fC w0b;have hcrF:∀ i,lo≤i→i≤hi→(∀ j,lo≤j→j<i→dX el (l.getD j 0) (r.getD (k-1-j) 0))→(∀ j,i≤j→j<hi→dX el (r.getD (k-1-j) 0) (l.getD j 0))→sU el l r k i:=fun i a1 a2 a3 a4=>aaa hsl hsr a1 a2 q6 q7 q3 q4 q5 a3 a4;have hk2:2*k≤l.length+r.length:=by omega
 have hk3:1≤k:=by omega
 clear q6 q7 hk;have w8:IntKind.i64.wrap (((a+k+m:Nat):Int)-1)=((a+k+m-1:Nat):Int):=by rw[cG _ (by omega) (by omega)];omega
 refine .ar (by decide +kernel) fun K hK =>?_;simp only[Jr,ab,Nat.reduceEqDiff,reduceIte]
 try simp only[w8]
 refine .done (hK _ ?_);clear hK K;refine U.seq (U.block (U.loop (fun s:Nat×Nat=>aw [(0,.view 1000000 [] 1 0 n),(1,.int .i64 a),(2,.int .i64 m),(3,.int .i64 b),(4,.func 138 [.ref (enc el)]),(18,.int .i64 ((a+k:Nat):Int)),(19,.int .i64 ((a+k+m:Nat):Int)),(22,.int .i64 ((a+k+m-1:Nat):Int)),(20,.int .i64 ((a+s.1:Nat):Int)),(21,.int .i64 ((a+s.2:Nat):Int))] (bK 1000000 ws))
  (fun s=>lo≤s.1∧s.1≤s.2∧s.2≤hi∧(∀ j,lo≤j→j<s.1→dX el (l.getD j 0) (r.getD (k-1-j) 0))∧∀ j,s.2≤j→j<hi→dX el (r.getD (k-1-j) 0) (l.getD j 0)) (fun s=>s.2-s.1) (lo,hi) ⟨zz7 _,q2,zz7 _,fun j h1 h2=>by simp only at h2;omega,fun j h1 h2=>by simp only at h1;omega⟩ ?_ ?_))
 ·refine aB.dj ?_ (fun n=>rfl);simp[aQ,aS]
 rintro ⟨i,j⟩ ⟨fX,g1,g2,g3,g4⟩;simp only at fX g1 g2 g3 g4 ⊢;by_cases hij:i<j
 ·have hc:decide (((a+i:Nat):Int)<((a+j:Nat):Int))=true:=by simp;omega
  have w1:=kN (a+i) (a+j) (by omega);have w2:=nx (x:=a+i+(a+j)) (by omega);obtain ⟨c,hcd⟩:∃ c,c=(i+j) / 2:=⟨_,rfl⟩
  have hci:i≤c∧c<j:=by omega
  have w3:(a+i+(a+j)) / 2=a+c:=by omega
  have w4:=nx (x:=a+c) (by omega);have w5:=sR (n:=a+c) (by omega);have w6:=ea (i:=a+c) (by omega);have w9:=jq (x:=a+k+m-1) (y:=a+c) (by omega) (by omega);have e1:a+k+m-1-(a+c)=m+(k-1-c):=by omega
  have v1:=il (n:=n) (i:=a+c) (by omega);have v2:=il (n:=n) (i:=m+(k-1-c)) (by omega);have l1:=fV (xs:=ws) (i:=a+c) (by omega);have l2:=fV (xs:=ws) (i:=m+(k-1-c)) (by omega);rw[oe c (by omega)] at l1;rw[gr (k-1-c) (by omega)] at l2;have hlc:=ml c (by omega);have hrc:=mr (k-1-c) (by omega);have hcmp:=sW el hd hel (r.getD (k-1-c) 0) (l.getD c 0) (hin _ (by simp only[zy5];exact .inr hrc)) (hin _ (by simp only[zy5];exact .inl hlc));have hlt:=uA (l:=el) (hlr _ hlc _ hrc);simp only[bK];cases hdc:decide (gS el (r.getD (k-1-c) 0)-gS el (l.getD c 0)<0) with
  |true =>
   have hd1:dX el (r.getD (k-1-c) 0) (l.getD c 0):=hlt.2 (by have:=of_decide_eq_true hdc;omega);have R:=v6 @hc (v6 @w1 (v6 @w2 (v6 @w3 (v6 @w4 (v6 @w5 (v6 @w6 (v6 @w9 (v6 @e1 (v6 @oC (v6 @oB (v6 @v1 (v6 @v2 (v6 @l1 (v6 @l2 (v6 @hdc (v6 @cL (v6 @dL (v6 @aO @ab))))))))))))))))))
   repeat' ((first |(with_reducible refine .guard (fun hb =>?_) (fun hb =>?_) <;>try simp only[hb])|refine U.aI (by decide +kernel) rfl fun K hK =>?_|refine .flat _ (hcmp) rfl ?_|(refine .aD [0,1,2,3,4,10,11,12,13,14,15,16,17,18,19,20,21,22,23,24,28,33,50,58,80,85,103,110,140,151,171,185,199,213] hK ?_;clear hK K)|(with_reducible refine .done (hK _ ?_);clear hK K)|refine U.of rfl ?_|(with_reducible refine al.aH (fun h =>?_) (fun h =>?_) <;>try simp only[h])) <;>try simp only[aJ,R,zz9,Nat.reduceEqDiff,reduceIte,Nat.reduceBEq])
   all_goals clear R
   refine ⟨(i,c),⟨fX,by simp only;omega,by simp only;omega,g3,fun t ht ht2 =>?_⟩,by simp only;omega,?_⟩
   ·simp only at ht;exact rj hsr (j:=k-1-c) (by omega) (by omega) (ri hsl (i:=c) (by omega) (by omega) hd1)
   ·refine aB.dj ?_ (fun n=>rfl);simp[aQ,aS]
  |false =>
   have hd1:dX el (l.getD c 0) (r.getD (k-1-c) 0):=uz (hlr _ hlc _ hrc) (by have:=of_decide_eq_false hdc;omega);have R:=v6 @hc (v6 @w1 (v6 @w2 (v6 @w3 (v6 @w4 (v6 @w5 (v6 @w6 (v6 @w9 (v6 @e1 (v6 @oC (v6 @oB (v6 @v1 (v6 @v2 (v6 @l1 (v6 @l2 (v6 @hdc (v6 @cL (v6 @dL (v6 @aO @ab))))))))))))))))))
   repeat' ((first |(with_reducible refine .guard (fun hb =>?_) (fun hb =>?_) <;>try simp only[hb])|refine U.aI (by decide +kernel) rfl fun K hK =>?_|refine .flat _ (hcmp) rfl ?_|(refine .aD [0,1,2,3,4,10,11,12,13,14,15,16,17,18,19,20,21,22,23,24,28,33,50,58,80,85,103,110,140,151,171,185,199,213] hK ?_;clear hK K)|(with_reducible refine .done (hK _ ?_);clear hK K)|refine U.of rfl ?_|(with_reducible refine al.aH (fun h =>?_) (fun h =>?_) <;>try simp only[h])) <;>try simp only[aJ,R,zz9,Nat.reduceEqDiff,reduceIte,Nat.reduceBEq])
   all_goals clear R
   refine ⟨(c+1,j),⟨by simp only;omega,by simp only;omega,g2,fun t ht ht2 =>?_,g4⟩,by simp only;omega,?_⟩
   ·simp only at ht2;exact rj hsl (j:=c) (by omega) (by omega) (ri hsr (i:=k-1-c) (by omega) (by omega) hd1)
   ·refine aB.dj ?_ (fun n=>rfl);simp[aQ,aS];omega
 have hc:decide (((a+i:Nat):Int)<((a+j:Nat):Int))=false:=by simp;omega
 have he:j=i:=by omega
 subst he;have hcr:sU el l r k j:=hcrF _ fX g2 g3 g4;refine U.seq (U.seq ?_);refine .bx (by decide +kernel) fun K hK =>?_;simp only[Js,ab,Nat.reduceEqDiff,reduceIte]
 try simp only[hc]
 refine .done (hK _ ?_);clear hK K;try simp only[au]
 refine U.bL ?_;simp only[al,ab,Nat.reduceEqDiff,reduceIte];refine ⟨fun h =>?_,fun h =>?_⟩
 ·cases h
 refine U.exit ?_;try simp only[au,bP,reduceIte]
 have w10:=jq (x:=a+k+m) (y:=a+j) (by omega) (by omega);have e2:a+k+m-(a+j)=m+(k-j):=by omega
 refine .ar (by decide +kernel) fun K hK =>?_;simp only[Jt,ab,Nat.reduceEqDiff,reduceIte]
 try simp only[w10,e2]
 refine .done (hK _ ?_);clear hK K
 -- the four parts
 have hl12:l.take j++l.drop j=l:=zx0 _ _;have hr12:r.take (k-j)++r.drop (k-j)=r:=zx0 _ _;obtain ⟨l1,hl1e⟩:∃ l1,l1=l.take j:=⟨_,rfl⟩
 obtain ⟨l2,hl2e⟩:∃ l2,l2=l.drop j:=⟨_,rfl⟩
 obtain ⟨r1,hr1e⟩:∃ r1,r1=r.take (k-j):=⟨_,rfl⟩
 obtain ⟨dK,hr2e⟩:∃ dK,dK=r.drop (k-j):=⟨_,rfl⟩
 have ll1:l1.length=j:=by rw[hl1e,zy4];omega
 have ll2:l2.length=l.length-j:=by rw[hl2e,zy8]
 have lr1:r1.length=k-j:=by rw[hr1e,zy4];omega
 have lr2:dK.length=r.length-(k-j):=by rw[hr2e,zy8]
 have sl1:dC el l1:=hl1e▸QC hsl _;have sl2:dC el l2:=hl2e▸QB hsl _;have sr1:dC el r1:=hr1e▸QC hsr _;have sr2:dC el dK:=hr2e▸QB hsr _;have ml1:∀ x∈l1,x∈l:=fun x hx=>List.mem_of_mem_take (hl1e▸hx);have ml2:∀ x∈l2,x∈l:=fun x hx=>List.mem_of_mem_drop (hl2e▸hx);have mr1:∀ x∈r1,x∈r:=fun x hx=>List.mem_of_mem_take (hr1e▸hx);have mr2:∀ x∈dK,x∈r:=fun x hx=>List.mem_of_mem_drop (hr2e▸hx);rw[←hl1e,←hl2e] at hl12;rw[←hr1e,←hr2e] at hr12;have hws4:ws=(p++l1)++l2++r1++(dK++q):=by rw[hws,←hl12,←hr12];simp only[zz5]
 have e3:((a+j:Nat):Int)<m↔j<l.length:=by omega
 -- the parts change places
 refine U.seq (U.AK (aw [(0,.view 1000000 [] 1 0 n),(1,.int .i64 a),(3,.int .i64 b),(4,.func 138 [.ref (enc el)]),(18,.int .i64 ((a+k:Nat):Int)),(20,.int .i64 ((a+j:Nat):Int)),(24,.int .i64 ((m+(k-j):Nat):Int))] (bK 1000000 (p++l1++r1++(l2++dK++q)))) ?_ fun B hB=>U.sub hB ?_)
 ·by_cases h1:j<l.length
  ·have hc1:decide (((a+j:Nat):Int)<(m:Int))=true:=by simp;omega
   by_cases h2:j<k
   ·have hc2:decide ((m:Int)<((m+(k-j):Nat):Int))=true:=by simp;omega
    have hrot:=Sf (p++l1) l2 r1 (dK++q) (a+j) m (m+(k-j)) n 138 [.ref (enc el)] (by simp[I.cg,I.bJ,dL]) (by rw[zz2];omega) (by omega) (by omega) (by omega) (by omega) (by omega) hn1;rw[←hws4] at hrot;have R:=v6 @hc1 (v6 @hc2 (v6 @aO @ab))
    repeat' ((first |(with_reducible refine .guard (fun hb =>?_) (fun hb =>?_) <;>try simp only[hb])|refine U.aI (by decide +kernel) rfl fun K hK =>?_|(refine .aD [0,1,2,3,4,10,11,12,13,14,15,16,17,18,19,20,21,22,23,24,28,33,50,58,80,85,103,110,140,151,171,185,199,213] hK ?_;clear hK K)|(with_reducible refine .done (hK _ ?_);clear hK K)|refine U.of rfl ?_|(with_reducible refine al.aH (fun h =>?_) (fun h =>?_) <;>try simp only[h])) <;>try simp only[aJ,R,Nat.reduceEqDiff,reduceIte,Nat.reduceBEq])
    all_goals clear R
    refine bn.lQ hrot (lz _ n 138 [.ref (enc el)] (by simp[I.cg,I.bJ,dL]) [_,_,_]) ?_;rintro eF os' ⟨rfl,rfl⟩;refine ⟨_,rfl,rfl,?_⟩
    try simp only[ab]
    refine .done (hK _ ?_);clear hK K;have e5:p++l1++r1++l2++(dK++q)=p++l1++r1++(l2++dK++q):=by simp only[zz5]
    rw[e5];refine aB.dj ?_ (fun n=>rfl);simp[aQ,aS]
   ·have hc2:decide ((m:Int)<((m+(k-j):Nat):Int))=false:=by simp;omega
    have hn0:r1=[]:=zv9.1 (by omega);have e5:ws=p++l1++r1++(l2++dK++q):=by rw[hws4,hn0];simp only[zz5,zx6]
    rw[e5];have R:=v6 @hc1 (v6 @hc2 (v6 @aO @ab))
    repeat' ((first |(with_reducible refine .guard (fun hb =>?_) (fun hb =>?_) <;>try simp only[hb])|refine U.aI (by decide +kernel) rfl fun K hK =>?_|(refine .aD [0,1,2,3,4,10,11,12,13,14,15,16,17,18,19,20,21,22,23,24,28,33,50,58,80,85,103,110,140,151,171,185,199,213] hK ?_;clear hK K)|(with_reducible refine .done (hK _ ?_);clear hK K)|refine U.of rfl ?_|(with_reducible refine al.aH (fun h =>?_) (fun h =>?_) <;>try simp only[h])) <;>try simp only[aJ,R,Nat.reduceEqDiff,reduceIte,Nat.reduceBEq])
    all_goals clear R
    refine aB.dj ?_ (fun n=>rfl);simp[aQ,aS]
  ·have hc1:decide (((a+j:Nat):Int)<(m:Int))=false:=by simp;omega
   have hn0:l2=[]:=zv9.1 (by omega);have e5:ws=p++l1++r1++(l2++dK++q):=by rw[hws4,hn0];simp only[zz5,zx6,zy3]
   rw[e5];have R:=v6 @hc1 (v6 @aO @ab)
   repeat' ((first |(with_reducible refine .guard (fun hb =>?_) (fun hb =>?_) <;>try simp only[hb])|refine U.aI (by decide +kernel) rfl fun K hK =>?_|(refine .aD [0,1,2,3,4,10,11,12,13,14,15,16,17,18,19,20,21,22,23,24,28,33,50,58,80,85,103,110,140,151,171,185,199,213] hK ?_;clear hK K)|(with_reducible refine .done (hK _ ?_);clear hK K)|refine U.of rfl ?_|(with_reducible refine al.aH (fun h =>?_) (fun h =>?_) <;>try simp only[h])) <;>try simp only[aJ,R,Nat.reduceEqDiff,reduceIte,Nat.reduceBEq])
   all_goals clear R
   refine aB.dj ?_ (fun n=>rfl);simp[aQ,aS]
 -- the lower half
 refine U.seq (U.aqr (fun s1:List Int=>aw [(0,.view 1000000 [] 1 0 n),(3,.int .i64 b),(4,.func 138 [.ref (enc el)]),(18,.int .i64 ((a+k:Nat):Int)),(24,.int .i64 ((m+(k-j):Nat):Int))] (bK 1000000 (p++s1++l2++dK++q))) (fun s1=>s1.Perm (l1++r1)∧dC el s1) ?_ fun s1 B hC hB=>U.sub hB ?_)
 ·by_cases h1:0<j
  ·have hc1:decide ((a:Int)<((a+j:Nat):Int))=true:=by simp;omega
   by_cases h2:j<k
   ·have hc2:decide (((a+j:Nat):Int)<((a+k:Nat):Int))=true:=by simp;omega
    have hrec:=ih p l1 r1 (l2++dK++q) a (a+j) (a+k) n (by omega) (by omega) (by omega) ha (by omega) (by omega) (by omega) (by simp only[zz2];omega) hn1 sl1 sr1 (fun x hx y hy=>hlr x (ml1 x hx) y (mr1 y hy)) (fun x hx=>hin x (by
     rcases zy5.1 hx with h | h
     ·exact zy5.2 (.inl (ml1 x h))
     ·exact zy5.2 (.inr (mr1 x h))))
    have R:=v6 @hc1 (v6 @hc2 (v6 @aO @ab))
    repeat' ((first |(with_reducible refine .guard (fun hb =>?_) (fun hb =>?_) <;>try simp only[hb])|refine U.aI (by decide +kernel) rfl fun K hK =>?_|(refine .aD [0,1,2,3,4,10,11,12,13,14,15,16,17,18,19,20,21,22,23,24,28,33,50,58,80,85,103,110,140,151,171,185,199,213] hK ?_;clear hK K)|(with_reducible refine .done (hK _ ?_);clear hK K)|refine U.of rfl ?_|(with_reducible refine al.aH (fun h =>?_) (fun h =>?_) <;>try simp only[h])) <;>try simp only[aJ,R,Nat.reduceEqDiff,reduceIte,Nat.reduceBEq])
    all_goals clear R
    refine bn.lQ hrec (lz _ n 138 [.ref (enc el)] (by simp[I.cg,I.bJ,dL]) [_,_,_]) ?_;rintro eF os' ⟨rfl,s1,k1,k2,rfl⟩;refine ⟨_,rfl,rfl,?_⟩
    try simp only[ab]
    refine .done (hK _ ?_);clear hK K;refine ⟨s1,⟨k1,k2⟩,?_⟩;have e5:p++s1++(l2++dK++q)=p++s1++l2++dK++q:=by simp only[zz5]
    rw[e5];refine aB.dj ?_ (fun n=>rfl);simp[aQ,aS]
   ·have hc2:decide (((a+j:Nat):Int)<((a+k:Nat):Int))=false:=by simp;omega
    have hn0:r1=[]:=zv9.1 (by omega);have R:=v6 @hc1 (v6 @hc2 (v6 @aO @ab))
    repeat' ((first |(with_reducible refine .guard (fun hb =>?_) (fun hb =>?_) <;>try simp only[hb])|refine U.aI (by decide +kernel) rfl fun K hK =>?_|(refine .aD [0,1,2,3,4,10,11,12,13,14,15,16,17,18,19,20,21,22,23,24,28,33,50,58,80,85,103,110,140,151,171,185,199,213] hK ?_;clear hK K)|(with_reducible refine .done (hK _ ?_);clear hK K)|refine U.of rfl ?_|(with_reducible refine al.aH (fun h =>?_) (fun h =>?_) <;>try simp only[h])) <;>try simp only[aJ,R,Nat.reduceEqDiff,reduceIte,Nat.reduceBEq])
    all_goals clear R
    refine ⟨l1++r1,⟨.refl _,by rw[hn0,zx6];exact sl1⟩,?_⟩;have e5:p++l1++r1++(l2++dK++q)=p++(l1++r1)++l2++dK++q:=by simp only[zz5]
    rw[e5];refine aB.dj ?_ (fun n=>rfl);simp[aQ,aS]
  ·have hc1:decide ((a:Int)<((a+j:Nat):Int))=false:=by simp;omega
   have hn0:l1=[]:=zv9.1 (by omega);have R:=v6 @hc1 (v6 @aO @ab)
   repeat' ((first |(with_reducible refine .guard (fun hb =>?_) (fun hb =>?_) <;>try simp only[hb])|refine U.aI (by decide +kernel) rfl fun K hK =>?_|(refine .aD [0,1,2,3,4,10,11,12,13,14,15,16,17,18,19,20,21,22,23,24,28,33,50,58,80,85,103,110,140,151,171,185,199,213] hK ?_;clear hK K)|(with_reducible refine .done (hK _ ?_);clear hK K)|refine U.of rfl ?_|(with_reducible refine al.aH (fun h =>?_) (fun h =>?_) <;>try simp only[h])) <;>try simp only[aJ,R,Nat.reduceEqDiff,reduceIte,Nat.reduceBEq])
   all_goals clear R
   refine ⟨l1++r1,⟨.refl _,by rw[hn0,zy3];exact sr1⟩,?_⟩;have e5:p++l1++r1++(l2++dK++q)=p++(l1++r1)++l2++dK++q:=by simp only[zz5]
   rw[e5];refine aB.dj ?_ (fun n=>rfl);simp[aQ,aS]
 -- the upper half
 obtain ⟨k1,k2⟩:=hC;have ls1:s1.length=k:=by rw[k1.length_eq,zz2];omega
 have done:∀ s2,s2.Perm (l2++dK)→dC el s2→∀ ts ws',ws'=p++s1++s2++q→lY [] (nQ el p (l++r) q) (aw ts (bK 1000000 ws')):=fun s2 k3 k4 ts ws' he=>by
  obtain ⟨j1,j2⟩:=apR hcr (hl1e▸hr1e▸k1) (hl2e▸hr2e▸k3) k2 k4;exact oL rfl (he.trans (by simp only[zz5])) ⟨rfl,s1++s2,j1,j2,rfl⟩
 by_cases h1:j<l.length
 ·have hc1:decide (((a+k:Nat):Int)<((m+(k-j):Nat):Int))=true:=by simp;omega
  by_cases h2:k-j<r.length
  ·have hc2:decide (((m+(k-j):Nat):Int)<(b:Int))=true:=by simp;omega
   have hrec:=ih (p++s1) l2 dK q (a+k) (m+(k-j)) b n (by omega) (by omega) (by omega) (by rw[zz2];omega) (by omega) (by omega) hn (by simp only[zz2];omega) hn1 sl2 sr2 (fun x hx y hy=>hlr x (ml2 x hx) y (mr2 y hy)) (fun x hx=>hin x (by
    rcases zy5.1 hx with h | h
    ·exact zy5.2 (.inl (ml2 x h))
    ·exact zy5.2 (.inr (mr2 x h))))
   have R:=v6 @hc1 (v6 @hc2 (v6 @aO @ab))
   repeat' ((first |(with_reducible refine .guard (fun hb =>?_) (fun hb =>?_) <;>try simp only[hb])|refine U.aI (by decide +kernel) rfl fun K hK =>?_|(refine .aD [0,1,2,3,4,10,11,12,13,14,15,16,17,18,19,20,21,22,23,24,28,33,50,58,80,85,103,110,140,151,171,185,199,213] hK ?_;clear hK K)|(with_reducible refine .done (hK _ ?_);clear hK K)|refine U.of rfl ?_|(with_reducible refine al.aH (fun h =>?_) (fun h =>?_) <;>try simp only[h])) <;>try simp only[aJ,R,Nat.reduceEqDiff,reduceIte,Nat.reduceBEq])
   all_goals clear R
   refine bn.lQ hrec (lz _ n 138 [.ref (enc el)] (by simp[I.cg,I.bJ,dL]) [_,_,_]) ?_;rintro eF os' ⟨rfl,s2,k3,k4,rfl⟩;refine ⟨_,rfl,rfl,?_⟩
   try simp only[ab]
   refine .done (hK _ ?_);clear hK K;rw[mN];exact done s2 k3 k4 _ _ rfl
  ·have hc2:decide (((m+(k-j):Nat):Int)<(b:Int))=false:=by simp;omega
   have hn0:dK=[]:=zv9.1 (by omega);have R:=v6 @hc1 (v6 @hc2 (v6 @aO @ab))
   repeat' ((first |(with_reducible refine .guard (fun hb =>?_) (fun hb =>?_) <;>try simp only[hb])|refine U.aI (by decide +kernel) rfl fun K hK =>?_|(refine .aD [0,1,2,3,4,10,11,12,13,14,15,16,17,18,19,20,21,22,23,24,28,33,50,58,80,85,103,110,140,151,171,185,199,213] hK ?_;clear hK K)|(with_reducible refine .done (hK _ ?_);clear hK K)|refine U.of rfl ?_|(with_reducible refine al.aH (fun h =>?_) (fun h =>?_) <;>try simp only[h])) <;>try simp only[aJ,R,Nat.reduceEqDiff,reduceIte,Nat.reduceBEq])
   all_goals clear R
   rw[mN];exact done (l2++dK) (.refl _) (by rw[hn0,zx6];exact sl2) _ (p++s1++l2++dK++q) (by simp only[zz5])
 ·have hc1:decide (((a+k:Nat):Int)<((m+(k-j):Nat):Int))=false:=by simp;omega
  have hn0:l2=[]:=zv9.1 (by omega);have R:=v6 @hc1 (v6 @aO @ab)
  repeat' ((first |(with_reducible refine .guard (fun hb =>?_) (fun hb =>?_) <;>try simp only[hb])|refine U.aI (by decide +kernel) rfl fun K hK =>?_|(refine .aD [0,1,2,3,4,10,11,12,13,14,15,16,17,18,19,20,21,22,23,24,28,33,50,58,80,85,103,110,140,151,171,185,199,213] hK ?_;clear hK K)|(with_reducible refine .done (hK _ ?_);clear hK K)|refine U.of rfl ?_|(with_reducible refine al.aH (fun h =>?_) (fun h =>?_) <;>try simp only[h])) <;>try simp only[aJ,R,Nat.reduceEqDiff,reduceIte,Nat.reduceBEq])
  all_goals clear R
  rw[mN];exact done (l2++dK) (.refl _) (by rw[hn0,zy3];exact sr2) _ (p++s1++l2++dK++q) (by simp only[zz5])
theorem Be(el:List ak)(hd:nh el)(hel:el.length≤60):∀ (N:Nat) (p l r q:List Int) (a m b n:Nat),l.length+r.length≤N→0<l.length→0<r.length→p.length=a→a+l.length=m→m+r.length=b→b≤n→n≤(p++l++r++q).length→n≤1000→dC el l→dC el r→(∀ x∈l,∀ y∈r,x<y)→(∀ x∈l++r,j0 el x) →
  cF Tryz.prog 204 [.view 1000000 [] 1 0 n,enc (a:Int),enc (m:Int),enc (b:Int),.func 138 [.ref (enc el)]] (bK 1000000 (p++l++r++q)) (nQ el p (l++r) q):=by
 intro N
 induction N with
 |zero=>intro p l r q a m b n h1 h2;omega
 |succ N ih =>
  intro p l r q a m b n hN hl0 hr0 ha hm hb hn hnl hn1 hsl hsr hlr hin;by_cases hl1:l.length=1
  ·exact R9 el hd hel p l r q a m b n hl0 hr0 ha hm hb hn hnl hn1 hsl hsr hlr hin hl1
  by_cases hr1:r.length=1
  ·exact Sa el hd hel p l r q a m b n hl0 hr0 ha hm hb hn hnl hn1 hsl hsr hlr hin hl1 hr1
  ·exact Sb el hd hel N ih p l r q a m b n hl0 hr0 ha hm hb hn hnl hn1 hsl hsr hlr hin hN hl1 hr1
def dP(ws:List Int)(bs t:Nat):List Int:=(ws.drop (t*bs)).take bs
theorem Em(ws:List Int)(bs u:Nat):dP ws (2*bs) u=dP ws bs (2*u)++dP ws bs (2*u+1):=by
 simp only[dP];rw[show 2*bs=bs+bs by omega,List.take_add,List.drop_drop];have e1:u*(bs+bs)=2*u*bs:=by rw[Nat.mul_add,show 2*u=u+u by omega,zu9]
 have e2:2*u*bs+bs=(2*u+1)*bs:=by rw[zu9];omega
 rw[e1,e2]
def m3(el:List ak)(bs:Nat)(o d:List Int):Prop:=o.length=d.length∧∀ t,(dP d bs t).Perm (dP o bs t)∧dC el (dP d bs t)
theorem Bv(el:List ak)(bs:Nat):m3 el bs [] []:=⟨rfl,fun t=>by simp[dP,dC]⟩
theorem El{o b:List Int}{bs t t':Nat}(ho:o.length=t*bs)(hb:b.length≤bs):dP (o++b) bs t'=if t'<t then dP o bs t' else if t'=t then b else []:=by
 simp only[dP];by_cases h1:t'<t
 ·rw[if_pos h1];have h2:(t'+1)*bs≤t*bs:=Nat.mul_le_mul_right _ h1;rw[zu9,Nat.one_mul] at h2;rw[List.drop_append_of_le_length (by omega),zx7 (by rw[zy8];omega)]
 ·rw[if_neg h1];by_cases h2:t'=t
  ·subst h2;rw[if_pos rfl,←ho,List.drop_left,zv6 hb]
  ·rw[if_neg h2];have h3:(t+1)*bs≤t'*bs:=Nat.mul_le_mul_right _ (by omega);rw[zu9,Nat.one_mul] at h3;rw[zw9 (by rw[zz2];omega)];exact List.take_nil
theorem te{el:List ak}{bs t:Nat}{o d b b':List Int}(h:m3 el bs o d)(ho:o.length=t*bs)(hp:b'.Perm b)(hs:dC el b')(hl:b.length≤bs):m3 el bs (o++b) (d++b'):=by
 refine ⟨by rw[zz2,zz2,h.1,hp.length_eq],fun t' =>?_⟩;rw[El (by rw[←h.1];exact ho) (by rw[hp.length_eq];exact hl),El ho hl];split
 ·exact h.2 t'
 ·split
  ·exact ⟨hp,hs⟩
  ·exact ⟨.refl _,List.Pairwise.nil⟩
theorem SC{el:List ak}{bs:Nat}{o d:List Int}(h:m3 el bs o d)(hn:o.length≤bs):d.Perm o∧dC el d:=by
 have:=h.2 0;simp only[dP,Nat.zero_mul,List.drop_zero] at this;rw[zv6 (by rw[←h.1];exact hn),zv6 hn] at this;exact this
theorem XY{xs:List Int}(hx:xs.Pairwise (· < ·))(bs u:Nat):∀ x∈dP xs bs (2*u),∀ y∈dP xs bs (2*u+1),x<y:=by
 have h:(dP xs (2*bs) u).Pairwise (· < ·):=(hx.sublist (List.drop_sublist _ _)).sublist (List.take_sublist _ _);rw[Em,List.pairwise_append] at h;exact h.2.2
theorem wM{xs:List Int}{bs t:Nat}{x:Int}(h:x∈dP xs bs t):x∈xs:=List.mem_of_mem_drop (List.mem_of_mem_take h)
theorem QX(xs:List Int)(bs t:Nat):xs.take ((t+1)*bs)=xs.take (t*bs)++dP xs bs t:=by
 rw[zu9,Nat.one_mul,List.take_add];rfl
theorem rP(xs:List Int)(bs t:Nat):xs.drop (t*bs)=dP xs bs t++xs.drop ((t+1)*bs):=by
 simp only[dP];rw[zu9,Nat.one_mul,←List.drop_drop,zx0]
theorem rN{xs:List Int}{bs t:Nat}(h:(t+1)*bs≤xs.length):(dP xs bs t).length=bs:=by
 rw[zu9,Nat.one_mul] at h;simp only[dP,zy4,zy8];omega
theorem aqy{x:Nat}(h:x<1000000):IntKind.i64.wrap (2*(x:Int))=((2*x:Nat):Int):=by rw[cG _ (by omega) (by omega)];omega
theorem aqz{x:Nat}(h:x<1000000):IntKind.i64.wrap ((x:Int)*2)=((2*x:Nat):Int):=by rw[cG _ (by omega) (by omega)];omega
theorem Mg{i n:Nat}(h:i≤n):decide ((i:Int)≤(n:Int))=true:=by simp;omega
theorem MO{i n:Nat}(h:¬ i≤n):decide ((i:Int)≤(n:Int))=false:=by simp;omega
structure SD where
 bs:Nat
 d:List Int
theorem RR(el:List ak)(hd:nh el)(hel:el.length≤60)(xs q:List Int)(hx:xs.Pairwise (· < ·))(hS:∀ x∈xs,j0 el x)(hn:xs.length≤60) :
  cF Tryz.prog 171 [.view 1000000 [] 1 0 xs.length,enc (xs.length:Int),.func 138 [.ref (enc el)]] (bK 1000000 (xs++q)) (nQ el [] xs q):=by
 refine cF.bp Tryz.func171 DZ Ef EA (t7 rfl) (t7 rfl) mP (fun hwf W0 D0 E1 =>?_);simp only[wv,zV,bl,zz4,Nat.reduceAdd];clear hwf;have hcl:I.cg [.ref (enc el)]=true:=by simp[I.cg,I.bJ,dL]
 refine .ar (by decide +kernel) fun K hK =>?_;simp only[xU,ab,simprocAttr];refine .done (hK _ ?_);clear hK K;refine .ar (by decide +kernel) fun K hK =>?_;simp only[xV,ab,simprocAttr];refine .done (hK _ ?_);clear hK K
 -- blocks of twenty
 refine U.seq (U.block (U.loop (fun s:Nat×List Int=>aw [(0,.view 1000000 [] 1 0 xs.length),(1,.int .i64 xs.length),(2,.func 138 [.ref (enc el)]),(6,.int .i64 20),(7,.int .i64 ((s.1*20:Nat):Int)),(8,.int .i64 (((s.1+1)*20:Nat):Int))] (bK 1000000 (s.2++xs.drop (s.1*20)++q)))
  (fun s=>s.1*20≤xs.length∧m3 el 20 (xs.take (s.1*20)) s.2) (fun s=>xs.length-s.1*20) (0,[]) ⟨zw3 _,Bv el 20⟩ ?_ ?_))
 ·refine aB.dj ?_ (fun n=>rfl);simp[aQ,aS]
 rintro ⟨t,d⟩ ⟨g1,g2⟩;simp only at g1 g2 ⊢;have ht:(xs.take (t*20)).length=t*20:=by rw[zy4];omega
 have hdl:d.length=t*20:=by rw[←g2.1,ht]
 by_cases hb:(t+1)*20≤xs.length
 ·have hc:=Mg hb;have w1:IntKind.i64.wrap ((((t+1)*20:Nat):Int)+20)=(((t+1+1)*20:Nat):Int):=by rw[cG _ (by omega) (by omega)];omega
  have hcl2:=rN hb;have hins:=Bd el hd hel d (dP xs 20 t) (xs.drop ((t+1)*20)++q) (t*20) ((t+1)*20) xs.length hdl (by omega) hb (by simp only[zz2,zy8];omega) (by omega) ((hx.sublist (List.drop_sublist _ _)).sublist (List.take_sublist _ _)) (fun x hx=>hS x (wM hx));have e1:d++dP xs 20 t++(xs.drop ((t+1)*20)++q)=d++xs.drop (t*20)++q:=by rw[rP xs 20 t];simp only[zz5]
  rw[e1] at hins;have R:=v6 @hc (v6 @aO @ab)
  repeat' ((first |refine U.aI (by decide +kernel) rfl fun K hK =>?_|(refine .aD [0,1,2,6,7,8,9,13,30,35,54] hK ?_;clear hK K)|(with_reducible refine .done (hK _ ?_);clear hK K)|refine U.of rfl ?_|(with_reducible refine al.aH (fun h =>?_) (fun h =>?_) <;>try simp only[h])) <;>try simp only[aJ,R,simprocAttr])
  all_goals clear R
  refine bn.lQ hins (lz _ xs.length 138 [.ref (enc el)] hcl [_,_]) ?_;rintro eF os' ⟨rfl,s',k1,k2,rfl⟩;refine ⟨_,rfl,rfl,?_⟩
  try simp only[ab,simprocAttr]
  refine .done (hK _ ?_);clear hK K;have R:=v6 @w1 (v6 @aO @ab)
  repeat' ((first |refine U.aI (by decide +kernel) rfl fun K hK =>?_|(refine .aD [0,1,2,6,7,8,9,13,30,35,54] hK ?_;clear hK K)|(with_reducible refine .done (hK _ ?_);clear hK K)|refine U.of rfl ?_|(with_reducible refine al.aH (fun h =>?_) (fun h =>?_) <;>try simp only[h])) <;>try simp only[aJ,R,simprocAttr])
  all_goals clear R
  refine ⟨(t+1,d++s'),⟨hb,?_⟩,by simp only;omega,?_⟩
  ·simp only;rw[QX];exact te g2 ht k1 k2 (by omega)
  ·simp only[←zz5];refine aB.dj ?_ (fun n=>rfl);simp[aQ,aS]
 have hc:=MO hb;refine U.seq (U.seq ?_);refine .bx (by decide +kernel) fun K hK =>?_;simp only[Ir,ab,simprocAttr]
 try simp only[hc,simprocAttr]
 refine .done (hK _ ?_);clear hK K;try simp only[au]
 refine U.bL ?_;simp only[al,ab,simprocAttr];refine ⟨fun h =>?_,fun h =>?_⟩
 ·cases h
 refine U.exit ?_;try simp only[au,bP,simprocAttr]
 -- what is left
 have hins:=Bd el hd hel d (xs.drop (t*20)) q (t*20) xs.length xs.length hdl (by rw[zy8];omega) (zz7 _) (by simp only[zz2,zy8];omega) (by omega) (hx.sublist (List.drop_sublist _ _)) (fun x hx=>hS x (List.mem_of_mem_drop hx));refine .ar (by decide +kernel) fun K hK =>?_;simp only[Is,ab,simprocAttr];refine bn.lQ hins (lz _ xs.length 138 [.ref (enc el)] hcl [_,_]) ?_;rintro eF os' ⟨rfl,s',k1,k2,rfl⟩;refine ⟨_,rfl,rfl,?_⟩
 try simp only[ab,simprocAttr]
 refine .done (hK _ ?_);clear hK K;have hSB:m3 el 20 xs (d++s'):=by
  have:=te g2 ht k1 k2 (by rw[zy8];omega)
  rwa [zx0] at this
 clear k1 k2 hins g2 ht hdl hb hc g1;generalize d++s'=d0 at hSB ⊢
 -- blocks are merged
 refine U.block (U.loop (fun s:SD=>aw [(0,.view 1000000 [] 1 0 xs.length),(1,.int .i64 xs.length),(2,.func 138 [.ref (enc el)]),(6,.int .i64 s.bs)] (bK 1000000 (s.d++q))) (fun s=>20≤s.bs∧s.bs≤120∧m3 el s.bs xs s.d) (fun s=>200-s.bs) ⟨20,d0⟩ ⟨zz7 _,(by show 20≤120;omega),hSB⟩ ?_ ?_)
 ·refine aB.dj ?_ (fun n=>rfl);simp[aQ,aS]
 rintro ⟨bs,d1⟩ ⟨g1,g2,g3⟩;simp only at g1 g2 g3 ⊢;have hdl:=g3.1;by_cases hb:bs<xs.length
 case neg =>
  have hc:=fP hb;refine U.seq (U.seq ?_);refine .bx (by decide +kernel) fun K hK =>?_;simp only[xW,ab,simprocAttr]
  try simp only[hc,simprocAttr]
  refine .done (hK _ ?_);clear hK K;try simp only[au]
  refine U.bL ?_;simp only[al,ab,simprocAttr];refine ⟨fun h =>?_,fun h =>?_⟩
  ·cases h
  refine U.exit ?_;try simp only[au,bP,simprocAttr]
  rw[mN];obtain ⟨k1,k2⟩:=SC g3 (by omega);exact oL rfl rfl ⟨rfl,d1,k1,k2,rfl⟩
 have hc:=fw hb;have w1:=aqy (x:=bs) (by omega);refine U.seq (U.seq ?_);refine .bx (by decide +kernel) fun K hK =>?_;simp only[xW,ab,simprocAttr]
 try simp only[hc,simprocAttr]
 refine .done (hK _ ?_);clear hK K;try simp only[au]
 refine U.bL ?_;simp only[al,ab,simprocAttr];refine ⟨fun h =>?_,fun h =>?_⟩
 rotate_left
 ·cases h
 refine U.skip ?_;try simp only[au,simprocAttr]
 refine U.block (U.seq ?_);refine .bx (by decide +kernel) fun K hK =>?_;simp only[It,ab,simprocAttr]
 try simp only[w1,simprocAttr]
 refine .done (hK _ ?_);clear hK K;try simp only[au]
 refine U.seq (U.block (U.loop (fun s:Nat×List Int=>aw [(0,.view 1000000 [] 1 0 xs.length),(1,.int .i64 xs.length),(2,.func 138 [.ref (enc el)]),(6,.int .i64 bs),(7,.int .i64 ((s.1*(2*bs):Nat):Int)),(8,.int .i64 (((s.1+1)*(2*bs):Nat):Int))] (bK 1000000 (s.2++d1.drop (s.1*(2*bs))++q)))
  (fun s=>s.1*(2*bs)≤xs.length∧m3 el (2*bs) (xs.take (s.1*(2*bs))) s.2) (fun s=>xs.length-s.1*(2*bs)) (0,[]) ⟨by simp,by simp only[Nat.zero_mul,List.take_zero];exact Bv el _⟩ ?_ ?_))
 ·simp only[Nat.zero_mul,zz4,Nat.one_mul,List.drop_zero,zy3];refine aB.dj ?_ (fun n=>rfl);simp[aQ,aS]
 rintro ⟨u,e⟩ ⟨q1,q2⟩;simp only at q1 q2 ⊢;obtain ⟨A,hA⟩:∃ A,A=u*(2*bs):=⟨_,rfl⟩
 have hA1:(u+1)*(2*bs)=A+2*bs:=by rw[hA,zu9];omega
 have hA2:2*u*bs=A:=by rw[hA,Nat.mul_comm 2 u,Nat.mul_assoc]
 have hA3:(2*u+1)*bs=A+bs:=by rw[zu9,hA2];omega
 have hA4:(2*u+1+1)*bs=A+2*bs:=by rw[zu9,hA3];omega
 have ht:(xs.take A).length=A:=by rw[zy4,hA];omega
 have hel2:e.length=A:=by rw[←q2.1,←hA,ht]
 obtain ⟨kl1,kl2⟩:=g3.2 (2*u);obtain ⟨kr1,kr2⟩:=g3.2 (2*u+1);have hlt2:=XY hx bs u;have hd2:d1.drop A=dP d1 bs (2*u)++d1.drop (A+bs):=by
  have:=rP d1 bs (2*u)
  rwa [hA2,hA3] at this
 have hd3:d1.drop (A+bs)=dP d1 bs (2*u+1)++d1.drop (A+2*bs):=by
  have:=rP d1 bs (2*u+1)
  rwa [hA3,hA4] at this
 have hlr:∀ x∈dP d1 bs (2*u),∀ y∈dP d1 bs (2*u+1),x<y:=fun x h1 y h2=>hlt2 x (kl1.mem_iff.1 h1) y (kr1.mem_iff.1 h2);have hin:∀ x∈dP d1 bs (2*u)++dP d1 bs (2*u+1),j0 el x:=fun x h1=>by
  rcases zy5.1 h1 with h1 | h1
  ·exact hS x (wM (kl1.mem_iff.1 h1))
  ·exact hS x (wM (kr1.mem_iff.1 h1))
 rw[hA1];rw[←hA] at q1 q2 ⊢;by_cases hb2:A+2*bs≤xs.length
 ·have hc2:=Mg hb2;have w2:=kN A bs (by omega);have w3:IntKind.i64.wrap (((A+2*bs:Nat):Int)+((2*bs:Nat):Int))=((A+2*bs+2*bs:Nat):Int):=kN _ _ (by omega);have ll:(dP d1 bs (2*u)).length=bs:=rN (by rw[hA3];omega);have lr:(dP d1 bs (2*u+1)).length=bs:=rN (by rw[hA4];omega);have hm:=Be el hd hel _ e (dP d1 bs (2*u)) (dP d1 bs (2*u+1)) (d1.drop (A+2*bs)++q) A (A+bs) (A+2*bs) xs.length (zz7 _) (by omega) (by omega) hel2 (by omega) (by omega) hb2 (by simp only[zz2,zy8];omega) (by omega) kl2 kr2 hlr hin;have e1:e++dP d1 bs (2*u)++dP d1 bs (2*u+1)++(d1.drop (A+2*bs)++q)=e++d1.drop A++q:=by rw[hd2,hd3];simp only[zz5]
  rw[e1] at hm;have R:=v6 @hc2 (v6 @w2 (v6 @aO @ab))
  repeat' ((first |refine U.aI (by decide +kernel) rfl fun K hK =>?_|(refine .aD [0,1,2,6,7,8,9,13,30,35,54] hK ?_;clear hK K)|(with_reducible refine .done (hK _ ?_);clear hK K)|refine U.of rfl ?_|(with_reducible refine al.aH (fun h =>?_) (fun h =>?_) <;>try simp only[h])) <;>try simp only[aJ,R,simprocAttr])
  all_goals clear R
  refine bn.lQ hm (lz _ xs.length 138 [.ref (enc el)] hcl [_,_,_]) ?_;rintro eF os' ⟨rfl,s',k1,k2,rfl⟩;refine ⟨_,rfl,rfl,?_⟩
  try simp only[ab,simprocAttr]
  refine .done (hK _ ?_);clear hK K;try simp only[au]
  have R:=v6 @w1 (v6 @w3 (v6 @aO @ab))
  repeat' ((first |refine U.aI (by decide +kernel) rfl fun K hK =>?_|(refine .aD [0,1,2,6,7,8,9,13,30,35,54] hK ?_;clear hK K)|(with_reducible refine .done (hK _ ?_);clear hK K)|refine U.of rfl ?_|(with_reducible refine al.aH (fun h =>?_) (fun h =>?_) <;>try simp only[h])) <;>try simp only[aJ,R,simprocAttr])
  all_goals clear R
  refine ⟨(u+1,e++s'),⟨by simp only;omega,?_⟩,by simp only;omega,?_⟩
  ·simp only;rw[QX,←hA];refine te q2 (ht.trans hA) (k1.trans ?_) k2 (by rw[rN (by omega)];omega);rw[Em];exact kl1.append kr1
  ·have e2:(u+1+1)*(2*bs)=A+2*bs+2*bs:=by rw[zu9,hA1];omega
   simp only[hA1,e2,←zz5];refine aB.dj ?_ (fun n=>rfl);simp[aQ,aS]
 have hc2:=MO hb2;refine U.seq (U.seq ?_);refine .bx (by decide +kernel) fun K hK =>?_;simp only[Iu,ab,simprocAttr]
 try simp only[hc2,simprocAttr]
 refine .done (hK _ ?_);clear hK K;try simp only[au]
 refine U.bL ?_;simp only[al,ab,simprocAttr];refine ⟨fun h =>?_,fun h =>?_⟩
 ·cases h
 refine U.exit ?_;try simp only[au,bP,simprocAttr]
 have w2:=kN A bs (by omega);have w4:=aqz (x:=bs) (by omega);have bC:∀ s',s'.Perm (xs.drop A)→dC el s'→m3 el (2*bs) xs (e++s'):=fun s' k1 k2=>by
  have:=te q2 (ht.trans hA) k1 k2 (by rw[zy8];omega)
  rwa [zx0] at this
 have hx1:xs.drop A=dP xs bs (2*u)++xs.drop (A+bs):=by
  have:=rP xs bs (2*u)
  rwa [hA2,hA3] at this
 have hx2:xs.drop (A+bs)=dP xs bs (2*u+1)++xs.drop (A+2*bs):=by
  have:=rP xs bs (2*u+1)
  rwa [hA3,hA4] at this
 by_cases hb3:A+bs<xs.length
 ·have hc3:=fw hb3;have ll:(dP d1 bs (2*u)).length=bs:=rN (by rw[hA3];omega);have hdn:d1.drop (A+2*bs)=[]:=zw9 (by omega);have hxn:xs.drop (A+2*bs)=[]:=zw9 (by omega);have lr:(dP d1 bs (2*u+1)).length=xs.length-(A+bs):=by
   have:=congrArg List.length hd3;rw[hdn,zx6,zy8] at this;omega
  have hm:=Be el hd hel _ e (dP d1 bs (2*u)) (dP d1 bs (2*u+1)) q A (A+bs) xs.length xs.length (zz7 _) (by omega) (by omega) hel2 (by omega) (by omega) (zz7 _) (by simp only[zz2];omega) (by omega) kl2 kr2 hlr hin;have e1:e++dP d1 bs (2*u)++dP d1 bs (2*u+1)++q=e++d1.drop A++q:=by rw[hd2,hd3,hdn];simp only[zz5,zx6]
  rw[e1] at hm;have R:=v6 @hc3 (v6 @w2 (v6 @aO @ab))
  repeat' ((first |refine U.aI (by decide +kernel) rfl fun K hK =>?_|(refine .aD [0,1,2,6,7,8,9,13,30,35,54] hK ?_;clear hK K)|(with_reducible refine .done (hK _ ?_);clear hK K)|refine U.of rfl ?_|(with_reducible refine al.aH (fun h =>?_) (fun h =>?_) <;>try simp only[h])) <;>try simp only[aJ,R,simprocAttr])
  all_goals clear R
  refine bn.lQ hm (lz _ xs.length 138 [.ref (enc el)] hcl [_,_,_]) ?_;rintro eF os' ⟨rfl,s',k1,k2,rfl⟩;refine ⟨_,rfl,rfl,?_⟩
  try simp only[ab,simprocAttr]
  refine .done (hK _ ?_);clear hK K;try simp only[au]
  have R:=v6 @w4 (v6 @aO @ab)
  repeat' ((first |refine U.aI (by decide +kernel) rfl fun K hK =>?_|(refine .aD [0,1,2,6,7,8,9,13,30,35,54] hK ?_;clear hK K)|(with_reducible refine .done (hK _ ?_);clear hK K)|refine U.of rfl ?_|(with_reducible refine al.aH (fun h =>?_) (fun h =>?_) <;>try simp only[h])) <;>try simp only[aJ,R,simprocAttr])
  all_goals clear R
  refine ⟨⟨2*bs,e++s'⟩,⟨by simp only;omega,by simp only;omega,bC s' (k1.trans ?_) k2⟩,by simp only;omega,?_⟩
  ·rw[hx1,hx2,hxn,zx6];exact kl1.append kr1
  ·refine aB.dj ?_ (fun n=>rfl);simp[aQ,aS]
 ·have hc3:=fP hb3;have hdn:d1.drop (A+bs)=[]:=zw9 (by omega);have hxn:xs.drop (A+bs)=[]:=zw9 (by omega);rw[hdn,zx6] at hd2;rw[hxn,zx6] at hx1;have R:=v6 @hc3 (v6 @w2 (v6 @w4 (v6 @aO @ab)))
  repeat' ((first |refine U.aI (by decide +kernel) rfl fun K hK =>?_|(refine .aD [0,1,2,6,7,8,9,13,30,35,54] hK ?_;clear hK K)|(with_reducible refine .done (hK _ ?_);clear hK K)|refine U.of rfl ?_|(with_reducible refine al.aH (fun h =>?_) (fun h =>?_) <;>try simp only[h])) <;>try simp only[aJ,R,simprocAttr])
  all_goals clear R
  refine ⟨⟨2*bs,e++d1.drop A⟩,⟨by simp only;omega,by simp only;omega,bC _ (by rw[hd2,hx1];exact kl1) (by rw[hd2];exact kl2)⟩,by simp only;omega,?_⟩;refine aB.dj ?_ (fun n=>rfl);simp[aQ,aS]
theorem Rt(el:List ak)(hd:nh el)(hel:el.length≤60)(xs q:List Int)(hx:xs.Pairwise (· < ·))(hS:∀ x∈xs,j0 el x)(hn:xs.length≤60) :
  cF Tryz.prog 137 [.view 1000000 [] 1 0 xs.length,.func 138 [.ref (enc el)]] (bK 1000000 (xs++q)) (nQ el [] xs q):=by
 refine cF.bp Tryz.func137 DW Ec Ew (t7 rfl) (t7 rfl) mP (fun hwf W0 D0 E1 =>?_);simp only[wo,zS,bl,zz4];clear hwf;refine .bx (by decide +kernel) fun K hK =>?_;simp only[GV,ab,simprocAttr]
 try simp only[cL,ab,simprocAttr]
 refine bn.lQ (RR el hd hel xs q hx hS hn) (lz _ xs.length 138 [.ref (enc el)] (by simp[I.cg,I.bJ,dL]) [_]) ?_;rintro eF os' ⟨rfl,s',k1,k2,rfl⟩;refine ⟨_,rfl,rfl,?_⟩
 try simp only[ab,simprocAttr]
 refine .done (hK _ ?_);clear hK K;rw[mN];exact oL rfl rfl ⟨rfl,s',k1,k2,rfl⟩
def jQ(l:List ak)(day:Int)(xs:List Int):List (Nat×ah):=[(1000008,.box (.own 1000080 xs.length)),(1000080,.c4 3 xs),(1000003,.box (enc l)),(1000004,.box (enc day))]
theorem ap4(l:List ak)(day:Int)(xs ys:List Int):fJ (jQ l day xs) (jQ l day ys):=by
 refine ⟨fun n=>by simp only[jQ,aq,ao];(repeat' split) <;>rfl,fun n x h =>?_,fun n h =>?_⟩
 ·simp only[jQ,ao] at h
  repeat' split at h
  all_goals first | (cases h;done) | (simp only[u8] at h;subst h;exact ⟨by simp[jQ,aq,ao,ah.only,bg,I.only],rfl⟩)
 ·simp only[jQ,aq,ao] at h
  repeat' split at h
  all_goals first | omega | (simp at h;done)
def r6(l:List ak)(day:Int)(i:Nat):Bool:=decide ((ae l i).kind≠0)&&decide ((ae l i).day≤day)
def mh(l:List ak)(day known:Int)(k:Nat):List Nat:=((eW l known).take k).filter (r6 l day)
theorem abC{l:List ak}{day known:Int}{k:Nat}(hk:k<(eW l known).length):mh l day known (k+1)=mh l day known k++(if r6 l day ((eW l known).getD k 0) then [(eW l known).getD k 0] else []):=by
 have e:(eW l known).getD k 0=(eW l known)[k]:=by rw[zz0,zy0 hk];rfl
 simp only[mh];rw[zz8 hk,List.filter_append,e];simp only[zx8,zu2]
theorem abA(l:List ak)(day known:Int):mh l day known (eW l known).length=jy l day known:=by
 simp only[mh,zu7];rfl
theorem abB(l:List ak)(day known:Int)(k:Nat):(mh l day known k).length≤l.length:=by
 have h1:=zv5 (r6 l day) ((eW l known).take k);have h2:((eW l known).take k).length≤(eW l known).length:=by rw[zy4];omega
 have h3:(eW l known).length≤l.length:=by
  have:=zv5 (fun i=>(gZ l known).getD i false) (List.range l.length)
  rwa [List.length_range] at this
 exact zu4 h1 (zu4 h2 h3)
theorem QH:(∀ (A:af) n b m k m' k' rest,dT A none n [] b (.own m k) rest (some (.own m' k'))=aF rest (A.aU n (.box (.own m k)))) :=
 fun _ _ _ m k m' k' _=>by rw[eG (s:=none) (v:=.own m k) (old:=.own m' k') rfl rfl rfl,fT]
theorem QU:(∀ n k,fB n k (.own n k)=.view n [] 1 0 k)∧(∀ n k m p,fB n k (.ptr m p)=.ptr m p)∧(∀ n k z,fB n k (.nils z)=.nils z)∧(∀ {α:Type} [Enc α] n k (x:α),fB n k (enc x)=enc x)∧(∀ n k i (x:Int),fB n k (.int i x)=.int i x)∧(∀ n k f xs,fB n k (.func f xs)=.func f xs)∧(∀ n k ks vs,fB n k (.c7 ks vs)=.c7 ks vs)∧(∀ n k b,fB n k (.bool b)=.bool b) ∧
  (∀ n,gm n (.own n 0)=.nils 1)∧(∀ n m p,gm n (.ptr m p)=.ptr m p)∧(∀ n z,gm n (.nils z)=.nils z)∧(∀ {α:Type} [Enc α] n (x:α),gm n (enc x)=enc x)∧(∀ n i (x:Int),gm n (.int i x)=.int i x)∧(∀ n f xs,gm n (.func f xs)=.func f xs)∧(∀ n ks vs,gm n (.c7 ks vs)=.c7 ks vs)∧(∀ n b,gm n (.bool b)=.bool b) ∧
  (∀ f v,iW f (.box v)=.box (f v))∧(∀ f T xs,iW f (.c4 T xs)=.c4 T xs)∧(∀ f ks vs,iW f (.cE ks vs)=.cE ks vs) :=
 ⟨fun _ _=>by simp[fB],fun _ _ _ _=>rfl,fun _ _ _=>rfl,fun _ _ x=>rr (bg _ x),fun _ _ _ _=>rfl,fun _ _ _ _=>rfl,fun _ _ _ _=>rfl,fun _ _ _=>rfl,fun _=>by simp[gm],fun _ _ _=>rfl,fun _ _=>rfl,fun _ x=>AD (bg _ x),fun _ _ _=>rfl,fun _ _ _=>rfl,fun _ _ _=>rfl,fun _ _=>rfl,fun _ _=>rfl,fun _ _ _=>rfl,fun _ _ _=>rfl⟩
theorem s9(l:List ak)(day known:Int)(hok:c8 l=true):aA Tryz.prog 88 [enc l,enc day,enc known] (sw l day known):=by
 have hl:=kD hok;have hd:nh l:=fun i hi=>aob (zx hok hi);refine aA.bp Tryz.func88 VM XQ Z3 (t7 rfl) (fun hwf W0 D0 E1 =>?_);simp only[DN,PK,bl,zz4,Nat.reduceAdd];clear hwf;refine .ar (by decide +kernel) fun K hK =>?_;simp only[Lc,ab,simprocAttr];refine .done (hK _ ?_);clear hK K;refine .ar (by decide +kernel) fun K hK =>?_;simp only[Ld,ab,simprocAttr];refine .done (hK _ ?_);clear hK K;refine U.seq (U.seq ?_);refine .bx (by decide +kernel) fun K hK =>?_;simp only[Li,ab,simprocAttr]
 try simp only[dY,aO,ab,simprocAttr]
 refine .lead _ (Rh l known hl) ?_
 try simp only[ab,simprocAttr]
 refine .done (hK _ ?_);clear hK K;try simp only[au]
 refine U.sub (aB.SS 8 80 3 1 [] _ rfl rfl rfl (B:=aw [(3,.ptr 3 []),(4,.ptr 4 []),(8,.ptr 8 []),(9,.nils 1),(17,.func 146 [.ref (enc l),.ref (enc (gZ l known))])] [(8,.box (.own 80 0)),(80,.c4 3 []),(3,.box (enc l)),(4,.box (enc day))]) ?_) ?_
 ·simp only[fT];refine aB.bE ?_ ?_ ?_ ?_ <;>simp[aQ,bt,br,aY,aq,aS,bT,I.only,I.bV,ah.only,bg,ig]
 refine U.block (U.kF (osb0:=jQ l day []) (tsR:=[(3,.ptr 1000003 []),(4,.ptr 1000004 []),(8,.ptr 1000008 [])]) (ρ:=[(1999999,999999),(1000003,3),(1000004,4),(1000008,8),(1000080,80)])
  (fun k os=>os=jQ l day (cU (mh l day known k)))
  (fun _ _=>False)
  rfl (t7 rfl) (by simp only[ab,simprocAttr]) (by simp[I.cg,I.bJ,dL]) wC (A2 l (gZ l known) hl (Ax l known)) (fun _=>rfl) rfl rfl rfl (fun o=>⟨?_,?_⟩) ?_ ?_ ?_ ?_ ?_ ?_ ?_)
 ·intro n x hx;simp only[dw,jQ,ao] at hx
  repeat' split at hx
  all_goals first | (cases hx;done) | (subst_vars;simp only[u8] at hx;subst hx;simp[dw,jQ,aq,bD,ao,ah.aN,I.aN,ij,ah.only,I.only,bg,ah.eZ,ig])
 ·intro a b ha hb;simp only[dw,jQ,aq,ao] at ha hb
  repeat' split at ha
  all_goals first | (simp at ha;done) | skip
  all_goals (repeat' split at hb)
  all_goals first | (simp at hb;done) | (subst_vars;simp[bD])
 ·simp[mU,aS,I.aN,bD,I.only,jQ,aq,ao]
 ·rintro k os rfl;exact ap4 ..
 ·rintro e os h;exact h.elim
 ·simp[jQ,mh,cU]
 ·rintro k osb hk rfl W1 D1 E1 Mc o1 o2;have hk':k<(eW l known).length:=hk;have hdl:=abB l day known k;have hsu:=abC (day:=day) hk';generalize mh l day known k=dk at hsu hdl ⊢;obtain ⟨i,hi⟩:∃ i,i=(eW l known).getD k 0:=⟨_,rfl⟩
  have hil:i<l.length:=by
   rw[hi,zz0,zy0 hk'];exact QO (zx5 hk')
  have hit:((iX (fun i=>(gZ l known).getD i false) l.length).getD k 0)=i:=hi.symm;rw[←hi] at hsu;have he:=kv hil;simp only[hit,qX,dw,jQ];have R:=v6 @aO @ab
  repeat' ((first |(with_reducible refine .guard (fun hb =>?_) (fun hb =>?_) <;>try simp only[hb])|refine U.aI (by decide +kernel) rfl fun K hK =>?_|(refine .aD [0,1,2,3,4,6,7,8,9,10,11,12,14,17,18,33,45,46,47,48,64] hK ?_;clear hK K)|(with_reducible refine .done (hK _ ?_);clear hK K)|refine U.of rfl ?_|(with_reducible refine al.aH (fun h =>?_) (fun h =>?_) <;>try simp only[h])) <;>try simp only[aJ,R,simprocAttr])
  all_goals clear R
  refine ⟨by simp[],?_⟩;have hap:=fun (A:af) d rest=>tk (A:=A) (d:=d) (e:=3) (bytes:=8) (n:=1000080) (l:=(cU dk).length) (xs:=cU dk) (y:=(i:Int)) (rest:=rest) rfl (by simp[cU,maxLen];omega) (by simp[cU];omega);rcases h1:((ae l i).kind != 0) <;>rcases h2:decide ((ae l i).day≤day)
  all_goals
   have R:=v6 @h1 (v6 @h2 (v6 @he (v6 @hap (v6 @dY (v6 @QH (v6 @eU (v6 @aZ (v6 @aO @ab))))))))
   repeat' ((first |(with_reducible refine .guard (fun hb =>?_) (fun hb =>?_) <;>try simp only[hb])|refine U.aI (by decide +kernel) rfl fun K hK =>?_|(refine .aD [0,1,2,3,4,6,7,8,9,10,11,12,14,17,18,33,45,46,47,48,64] hK ?_;clear hK K)|(with_reducible refine .done (hK _ ?_);clear hK K)|refine U.of rfl ?_|(with_reducible refine al.aH (fun h =>?_) (fun h =>?_) <;>try simp only[h])) <;>try simp only[aJ,R,simprocAttr])
   all_goals clear R
  all_goals
   have hdue:r6 l day i=(((ae l i).kind != 0)&&decide ((ae l i).day≤day)):=by simp only[r6,bne,ne_eq,decide_not];rfl
   rw[h1,h2] at hdue;rw[hdue] at hsu;refine ⟨_,?_,rfl⟩;rw[hsu];intro n x hx;simp only[dw,ao,if_true,zz6,zw7,Bool.and_true,Bool.and_false,if_false,zx6] at hx
   (repeat' split at hx) <;>first
    |(cases hx;done)
    |(subst_vars;simp only[u8] at hx;subst hx;simp[dw,aq,aw,ao,ah.only,I.only,bg,ah.eZ,cU])
 ·rintro os rfl;have eN:mh l day known (iX (fun i=>(gZ l known).getD i false) l.length).length=jy l day known:=abA l day known;simp only[eN,jQ,dB,zy2,zx1,bD,ah.aN,I.aN,ij,au,bP,reduceIte,Nat.reduceEqDiff,zz9,zy3];refine U.sub (B:=aw [(3,.ptr 3 []),(8,.ptr 8 []),(9,.nils 1)] [(8,.box (.own 80 (mg l day known).length)),(80,.c4 3 (mg l day known)),(3,.box (enc l))]) ?_ ?_
  ·refine aB.bE ?_ ?_ ?_ ?_ <;>simp[*,aQ,bt,br,aY,aq,aS,bT,I.only,ah.only,bg,ig,mg]
  have hlen:(mg l day known).length≤60:=by simp only[mg,cU,zy1];exact zu4 (wZ l day known) hl
  have hris:=abz l day known;have hin:=aby (l:=l) (day:=day) (known:=known);have heq:=fun s=>aoz (l:=l) (day:=day) (known:=known) (s:=s);generalize mg l day known=xs at hlen hris hin heq ⊢;by_cases hx0:xs=[]
  ·subst hx0;have ho0:qT l day known=[]:=(heq [] (List.Perm.refl _) List.Pairwise.nil).symm;refine U.sub (aB.QZ (n:=80) (T:=3) rfl (B:=aw [(3,.ptr 3 []),(8,.ptr 8 []),(9,.nils 1)] [(8,.box (.nils 1)),(3,.box (enc l))]) ?_) ?_
   ·simp only[zy2,zx1,QU,zv0];refine aB.bE ?_ ?_ ?_ ?_ <;>simp[aQ,bt,br,aY,aq,aS,bT,I.only,ah.only,bg]
   refine .ar (by decide +kernel) fun K hK =>?_;simp only[ye,ab,simprocAttr]
   try simp only[qJ,gK,ab,simprocAttr]
   refine .flat _ (Ru l) rfl ?_
   try simp only[ab,simprocAttr]
   refine .done (hK _ ?_);clear hK K;refine .ar (by decide +kernel) fun K hK =>?_;simp only[yf,ab,simprocAttr]
   try simp only[eU,ab,simprocAttr]
   refine .done (hK _ ?_);clear hK K;refine .ar (by decide +kernel) fun K hK =>?_;simp only[yg,ab,simprocAttr];refine .lead _ AZ ?_
   try simp only[ab,simprocAttr]
   refine .done (hK _ ?_);clear hK K;refine U.seq (U.seq ?_);refine .bx (by decide +kernel) fun K hK =>?_;simp only[yh,ab,simprocAttr]
   try simp only[dY,cL,aZ,eU,ab,simprocAttr]
   refine .done (hK _ ?_);clear hK K;try simp only[au]
   have hF:=Bp l day known hok (W0:=W0) (D0:=D0) (E1:=E1);rw[ho0] at hF;refine U.sub (aB.qy [8] 45 (x:=.nils 1) (y:=enc ([]:List Int)) rfl (by rfl) ?_ ?_ ?_ ?_ ?_) hF
   ·simp[cR,aY,ah.only,I.only,I.bV,bg]
   ·simp[aQ,gU,aS,I.only,I.bV,lC]
   ·simp[bt,cR,ao]
   ·simp[br,aq,ao,I.only,I.bV,bg,lC]
   ·simp[aY,aq,ao,ah.only,I.only,I.bV,bg]
  ·refine U.AI (n:=80) rfl hx0 (by omega) (qR (by simp[lM,I.only])) ?_ (fun q =>?_)
   ·intro m y hy hm;simp only[ao] at hy
    repeat' split at hy
    all_goals first | (cases hy;done) | (exact absurd (by assumption) hm) | (simp only[u8] at hy;subst hy;first | exact .inl rfl | exact .inr (by simp[ah.only,bg]))
   simp only[zy2,zx1,QU];refine .ar (by decide +kernel) fun K hK =>?_;simp only[ye,ab,simprocAttr]
   try simp only[dY,qJ,gK,ab,simprocAttr]
   refine .bQ true [(1000000,80)] (bK 1000000 (xs++List.replicate q 0)) [.view 1000000 [] 1 0 xs.length,.func 138 [.ref (enc l)]] _ rfl (Rt l hd hl xs _ hris hin hlen) ?_ ?_ ?_ ?_
   ·refine ⟨fun m y hy =>?_,fun m m' h h' _=>by rw[cz.1 h,cz.1 h']⟩;simp only[bK,ao] at hy;split at hy
    ·rename_i hm;cases hy;subst hm;exact ⟨by simp only[bD,if_true,ao,ah.aN,I.aN,eP],fZ _ _,rfl⟩
    ·cases hy
   ·refine ⟨.inl ⟨by simp[I.aN,bD],cz.2 rfl,rfl⟩,.inr ?_,trivial⟩;simp[bC,cn,cH,aw,cR,j6,bK,bD,ao,dL,hT]
   ·rintro eF os' ⟨rfl,s',k1,k2,rfl⟩;refine ⟨fun m y hy =>?_,fun m m' h h' _=>by rw[cz.1 h,cz.1 h'],fun m hm=>by rw[cz.1 hm];exact cz.2 rfl,fun m a b=>by rw[cz.1 a] at b;simp[bK,aq,ao] at b,rfl,fun _=>rfl⟩;simp only[bK,ao] at hy;split at hy
    ·cases hy;exact ⟨fZ _ _,rfl,fun _=>amJ _⟩
    ·cases hy
   ·rintro eF os' ⟨rfl,s',k1,k2,rfl⟩;have hs':=heq s' k1 k2;have hsl:xs.length=s'.length:=k1.length_eq.symm
    try simp only[bK,dB,zy2,zx1,ah.aN,I.aN,eP,bD,reduceIte,zz9,zy3,I.cZ,ab,simprocAttr]
    refine .done (hK _ ?_);clear hK K;refine .ar (by decide +kernel) fun K hK =>?_;simp only[yf,ab,simprocAttr]
    try simp only[eU,ab,simprocAttr]
    refine .done (hK _ ?_);clear hK K;refine .ar (by decide +kernel) fun K hK =>?_;simp only[yg,ab,simprocAttr];refine .lead _ AZ ?_
    try simp only[ab,simprocAttr]
    refine .done (hK _ ?_);clear hK K;refine U.seq (U.seq ?_);refine .bx (by decide +kernel) fun K hK =>?_;simp only[yh,ab,simprocAttr]
    try simp only[dY,cL,ab,simprocAttr]
    refine .done (hK _ ?_);clear hK K;try simp only[au]
    have hF:=Bp l day known hok (W0:=W0) (D0:=D0) (E1:=E1);rw[←hs'] at hF;refine U.sub (aB.qy [80,8] 45 (x:=.view 80 [] 1 0 xs.length) (y:=enc s') rfl ?_ ?_ ?_ ?_ ?_ ?_) hF
    ·have:ao (ji [80,8] [(43,ah.box (I.agg ([I.raw (Value.map none)].set 0 (I.mref 41)))),(41,ah.cE [] []),(80,ah.box (I.agg ((s'++List.replicate q 0).map enc))),(80,ah.box (I.agg ((xs++List.replicate q 0).map enc))),(8,ah.box (I.view 80 [] 1 0 xs.length)),(80,ah.c4 3 xs),(3,ah.box (enc l))]) 80=some (.box (.agg ((s'++List.replicate q 0).map enc))):=by
      rw[px];simp[ao]
     try simp only[this,ab,simprocAttr]
     exact xp hsl.symm
    ·simp[cR,aY,ah.only,I.only,I.bV,bg]
    ·simp[aQ,gU,aS,I.only,I.bV,lC,hsl]
    ·simp[bt,cR,ao]
    ·simp[br,aq,ao,I.only,I.bV,bg,lC]
    ·simp[aY,aq,ao,ah.only,I.only,I.bV,bg]
 ·rintro e os h;exact h.elim
theorem Rm(n:Int):aA Tryz.prog 126 [enc n] (enc (!b7 0 100000 n)):=by
 refine aA.bp Tryz.func126 Ug We Yv (t7 rfl) (fun hwf W0 D0 E1 =>?_);simp only[Cc,N7,bl];have R:=v6 @aO @ab
 repeat' ((first |refine U.aI (by decide +kernel) rfl fun K hK =>?_|refine .flat _ (vN _) rfl ?_|(refine .aD [0,2] hK ?_;clear hK K)|(with_reducible refine .done (hK _ ?_);clear hK K)|refine U.of rfl ?_|(with_reducible refine al.aH (fun h =>?_) (fun h =>?_) <;>try simp only[h])) <;>try simp only[aJ,R,simprocAttr])
 all_goals clear R
abbrev jT:=aX 2 Int
def ep(a b:Int):jT:=⟨[a,b],rfl⟩
def eS(l:List ak)(ns:List jT)(ds:List Int):Int:=if c8 l then (if ns.all (fun n=>b7 1 (n.g 1) (n.g 0)) then (if ds.any (fun d => !b7 0 100000 d) then 6 else 0) else 1) else 41
theorem QG{A:af}{n:Nat}{b:I}{x:jT}{u v:Int}{rest:List aE} : dT A (some 2) n [] b (enc x) rest (some (.agg [.int .i64 u,.int .i64 v]))=aF rest (A.aU n (.box (enc x))):=by
 have:=eG (A:=A) (n:=n) (p:=[]) (b:=b) (v:=enc x) (old:=.agg [.int .i64 u,.int .i64 v]) (rest:=rest) (s:=some 2) (du _) (by rw[fW];rfl) (eT x);rw[this,fT]
theorem yY :
  (∀ (x:jT) y,fH (0:Int) 2 (fG 2 1 (x.l.map enc) y)=y)∧(∀ (x:jT) y,fH (1:Int) 2 (fG 2 1 (x.l.map enc) y)=y)∧(∀ x:jT,(x.l.map (enc (α:=Int)))[0]?=some (I.int .i64 (x.g 0)))∧(∀ x:jT,(x.l.map (enc (α:=Int)))[1]?=some (I.int .i64 (x.g 1))) ∧
  (∀ x:jT,(enc x:I).dD=some (x.l.map enc))∧(∀ x:jT,cj (some 2) (enc x)=true)∧((0:Int).toNat=0)∧((1:Int).toNat=1) :=
 ⟨fun x y=>gh 1 x (by decide) rfl,fun x y=>gh 1 x (by decide) rfl,fun x=>od x (by decide),fun x=>od x (by decide),fun _=>rfl,fun x=>by rw[fW];rfl,rfl,rfl⟩
theorem oR(l:List ak)(ns:List jT)(ds:List Int):aA Tryz.prog 67 [enc l,enc ns,enc ds] (enc (eS l ns ds)):=by
 refine aA.bp Tryz.func67 Vy XC ZP (t7 rfl) (fun hwf W0 D0 E1 =>?_);simp only[Dy,Pw,bl,zz4,Nat.reduceAdd];have hnl:ns.length≤maxLen:=((kL ns).1 hwf.2.1).1;simp only[maxLen] at hnl;have hF64:=rC l;simp only[eS];rcases hok:c8 l
 ·rw[hok,if_neg (by decide)] at hF64;have R:=v6 @hok (v6 @aZ (v6 @aO @ab))
  repeat' ((first |refine U.aI (by decide +kernel) rfl fun K hK =>?_|refine .flat _ (hF64) rfl ?_|(refine .aD [0,1,2,6,7,9,13,15,16,17,18,26,29] hK ?_;clear hK K)|(with_reducible refine .done (hK _ ?_);clear hK K)|refine U.of rfl ?_|(with_reducible refine al.aH (fun h =>?_) (fun h =>?_) <;>try simp only[h])) <;>try simp only[aJ,R,simprocAttr])
  all_goals clear R
 rw[hok,if_pos rfl] at hF64;have R:=v6 @hok (v6 @aZ (v6 @aO @ab))
 repeat' ((first |refine U.aI (by decide +kernel) rfl fun K hK =>?_|refine .flat _ (hF64) rfl ?_|(refine .aD [0,1,2,6,7,9,13,15,16,17,18,26,29] hK ?_;clear hK K)|(with_reducible refine .done (hK _ ?_);clear hK K)|refine U.of rfl ?_|(with_reducible refine al.aH (fun h =>?_) (fun h =>?_) <;>try simp only[h])) <;>try simp only[aJ,R,simprocAttr])
 all_goals clear R
 refine U.loop (fun i:Nat=>aw [(2,enc ds),(15,enc ns),(16,.int .i64 ns.length),(17,.int .i64 i)] []) (fun i=>i≤ns.length∧∀ k,(h:k<ns.length)→k<i→b7 1 ((ns[k]).g 1) ((ns[k]).g 0)=true) (fun i=>ns.length-i) 0 ⟨zw3 _,fun k _ hk=>by omega⟩ ?_ (fun i hi =>?_)
 ·refine aB.bE ?_ ?_ ?_ ?_ <;>simp[aQ,bt,br,aY,aS,I.only,bg]
 obtain ⟨hi1,hi2⟩:=hi;by_cases hlt:i<ns.length
 ·have hc:=fw hlt;have he:=fun A=>fm (A:=A) 2 hlt rfl;have hw:=ea (i:=i) (by omega);obtain ⟨x,hx⟩:∃ x,x=ns[i]:=⟨_,rfl⟩
  rw[←hx] at he;rcases hp:b7 1 (x.g 1) (x.g 0)
  ·have hall:(ns.all fun n=>b7 1 (n.g 1) (n.g 0))=false:=by
    rw[List.all_eq_false];exact ⟨x,hx▸zx5 hlt,by rw[hp];decide⟩
   have R:=v6 @hc (v6 @he (v6 @hp (v6 @hall (v6 @QG (v6 @yY (v6 @aZ @ab))))))
   repeat' ((first |refine U.aI (by decide +kernel) rfl fun K hK =>?_|refine .flat _ (mZ _ _ _) rfl ?_|(refine .aD [0,1,2,6,7,9,13,15,16,17,18,26,29] hK ?_;clear hK K)|(with_reducible refine .done (hK _ ?_);clear hK K)|refine U.of rfl ?_|(with_reducible refine al.aH (fun h =>?_) (fun h =>?_) <;>try simp only[h])) <;>try simp only[aJ,R,simprocAttr])
   all_goals clear R
  ·have R:=v6 @hc (v6 @he (v6 @hp (v6 @hw (v6 @QG (v6 @yY (v6 @aZ @ab))))))
   repeat' ((first |refine U.aI (by decide +kernel) rfl fun K hK =>?_|refine .flat _ (mZ _ _ _) rfl ?_|(refine .aD [0,1,2,6,7,9,13,15,16,17,18,26,29] hK ?_;clear hK K)|(with_reducible refine .done (hK _ ?_);clear hK K)|refine U.of rfl ?_|(with_reducible refine al.aH (fun h =>?_) (fun h =>?_) <;>try simp only[h])) <;>try simp only[aJ,R,simprocAttr])
   all_goals clear R
   refine ⟨i+1,⟨by omega,fun k hk hki =>?_⟩,by omega,?_⟩
   ·by_cases e:k=i
    ·subst e;rw[←hx];exact hp
    ·exact hi2 k hk (by omega)
   ·refine aB.bE ?_ ?_ ?_ ?_ <;>simp[aQ,bt,br,aY,aS,bg,I.only]
 ·have hc:=fP hlt;have hall:(ns.all fun n=>b7 1 (n.g 1) (n.g 0))=true:=by
   rw[zx3];intro x hx;obtain ⟨k,hk,rfl⟩:=zu3 hx;exact hi2 k hk (by omega)
  have hF:=vM ds 126 [] rfl (fun d => !b7 0 100000 d) (fun x _=>Rm x);rcases hd:ds.any fun d => !b7 0 100000 d
  all_goals
   rw[hd] at hF;have R:=v6 @hc (v6 @hall (v6 @hd (v6 @aZ (v6 @aO @ab))))
   repeat' ((first |refine U.aI (by decide +kernel) rfl fun K hK =>?_|refine .flat _ (hF) rfl ?_|(refine .aD [0,1,2,6,7,9,13,15,16,17,18,26,29] hK ?_;clear hK K)|(with_reducible refine .done (hK _ ?_);clear hK K)|refine U.of rfl ?_|(with_reducible refine al.aH (fun h =>?_) (fun h =>?_) <;>try simp only[h])) <;>try simp only[aJ,R,simprocAttr])
   all_goals clear R
def cA(l:List ak)(day known:Int):List aP:=(sx fh l (ka l day known)).1
def aqs(l:List ak)(day known:Int):List Int:=cS (cU (sx fh l (ka l day known)).2)
theorem u4(l:List ak)(day known:Int):sw l day known=.tuple [e8 (cA l day known),enc (aqs l day known)]:=rfl
theorem pk{l:List ak}(hok:c8 l=true)(day known:Int):((cA l day known).map (·.no)).Nodup∧(cA l day known).length≤60∧∀ b∈cA l day known,b.bS.length≤60:=by
 have h:=zL l (ka l day known) _ (zz7 _);rw[NH] at h;have h2:(ka l day known).length≤60:=by rw[NB];exact zu4 (wZ l day known) (kD hok)
 exact ⟨h.1,by simp only[cA];omega,fun b hb=>by have:=h.2.2.1 b hb;omega⟩
theorem qF(bs:List aP)(no:Int):gN (.i .i64) .nilp (.int .i64 no) (dA bs) (bs.map fun b=>.ref (enc (⟨b⟩:eQ)))=match cM bs no with
  |some b=>some (.ref (enc (⟨b⟩:eQ)),true)
  |none=>some (.nilp,false):=by
 have h1:=yl (bs:=bs) (no:=no);have h2:=yZ xf .nilp no (bs.map (·.no)) (bs.map fun b=>.ref (enc (⟨b⟩:eQ)));rw[ig] at h2;unfold dA;rw[h2];cases h:(bs.map (·.no)).findIdx? fun x=>decide (no=x) with
 |none=>rw[h] at h1;simp only at h1;rw[h1]
 |some i =>
  rw[h] at h1;obtain ⟨hi,g1,g2⟩:=h1;rw[g1];simp[hi]
theorem X9(bs:List aP):I.cg (bs.map fun b=>.ref (enc (⟨b⟩:eQ)))=true:=by
 induction bs with
 |nil=>rfl
 |cons b bs ih=>simp only[zy2,I.cg,I.bJ,dL,ih,zw7]
theorem X3(bs:List aP):(I.c7 (dA bs) (bs.map fun b=>.ref (enc (⟨b⟩:eQ)))).bJ=true:=by
 simp only[I.bJ,X9,Bool.and_true];exact lB _
theorem oo:(∀ bs,(e8 bs).bJ=true)∧(∀ aC A bs,bC aC A (e8 bs)=some (e8 bs))∧(∀ bs,(e8 bs).cq=true)∧(∀ bs,cj none (e8 bs)=true)∧(∀ p bs,(e8 bs).only p=true)∧(∀ x:eQ,(enc x:I).bJ=true)∧(∀ bs,nA (e8 bs)=some (e8 bs)) ∧
  (∀ A bs,mn A 0 0 (e8 bs)=some (.ref (.c7 (dA bs) (bs.map fun b=>.ref (enc (⟨b⟩:eQ))))))∧(∀ x:eQ,nA (.ref (enc x))=some (.ref (enc x))) :=
 have h:∀ bs,(I.agg [.c7 (dA bs) (bs.map fun b=>.ref (enc (⟨b⟩:eQ)))]).bJ=true:=fun bs=>by simp only[I.bJ,I.cg,Bool.and_true];exact X3 bs
 ⟨fun bs=>by simp only[e8,I.bJ];exact h bs,fun aC A bs=>by simp only[e8,bC,h bs,if_true],fun _=>rfl,fun _=>rfl,fun p bs=>nC p _ (by simp only[e8,I.bJ];exact h bs),fun x=>dL x,fun _=>rfl,
  fun A bs=>by simp[e8,mn,I.dD,rW,qw,er,I.sizes],fun _=>rfl⟩
theorem Q1:(∀ k n,(I.int k n).cq=true)∧(∀ b,(I.bool b).cq=true):=⟨fun _ _=>rfl,fun _=>rfl⟩
theorem ng{l:List ak}{ns:List jT}{ds:List Int}(h:eS l ns ds=0):c8 l=true:=by
 simp only[eS] at h;split at h
 ·assumption
 ·cases h
theorem oE{a:Int}(h:a=0):(a != 0)=false:=by simp[h]
theorem oF{a:Int}(h:¬ a=0):(a != 0)=true:=by simp[h]
theorem rL(a b:Int):iO 1 (some [.int .i64 a,.int .i64 b])=some (enc [a,b]):=nc (ys:=[a,b]) 1 rfl
theorem oS(l:List ak)(known:Int)(hok:c8 l=true):aA Tryz.prog 68 [enc l,enc known] (e8 (cA l 100000 known)):=by
 refine aA.bp Tryz.func68 Vz XD ZQ (t7 rfl) (fun hwf W0 D0 E1 =>?_);simp only[Dz,Px,bl,zz4];have hF:=s9 l 100000 known hok;rw[u4] at hF;have R:=v6 @oo (v6 @aO @ab)
 repeat' ((first |refine U.aI (by decide +kernel) rfl fun K hK =>?_|refine .lead _ (hF) ?_|(refine .aD [0,1,4,5] hK ?_;clear hK K)|(with_reducible refine .done (hK _ ?_);clear hK K)|refine U.of rfl ?_|(with_reducible refine al.aH (fun h =>?_) (fun h =>?_) <;>try simp only[h])) <;>try simp only[aJ,R,simprocAttr])
 all_goals clear R
theorem Su(b:aP):aA Tryz.prog 89 [.ref (enc (⟨b⟩:eQ))] (enc (!decide (0≤b.dW))):=by
 refine aA.bp Tryz.func89 VN XR Z4 (t7 rfl) (fun hwf W0 D0 E1 =>?_);simp only[DO,PL,bl];have R:=v6 @oo (v6 @aO @ab)
 repeat' ((first |refine U.aI (by decide +kernel) rfl fun K hK =>?_|refine .flat _ (jS _) rfl ?_|(refine .aD [0,2] hK ?_;clear hK K)|(with_reducible refine .done (hK _ ?_);clear hK K)|refine U.of rfl ?_|(with_reducible refine al.aH (fun h =>?_) (fun h =>?_) <;>try simp only[h])) <;>try simp only[aJ,R,simprocAttr])
 all_goals clear R
def oW(l:List ak)(day known:Int):List Int×Int:=if eS l [] [day,known]=0 then (cS (((cA l day known).filter fun b => !decide (0≤b.dW)).map (·.no)),0) else ([],eS l [] [day,known])
theorem Bi(l:List ak)(day known:Int):aA Tryz.prog 26 [enc l,enc day,enc known] (.tuple [enc (oW l day known).1,enc (oW l day known).2]):=by
 refine aA.bp Tryz.func26 Vi Xm Zz (t7 rfl) (fun hwf W0 D0 E1 =>?_);simp only[Dg,Pf,bl,zz4,Nat.reduceAdd];clear hwf;have hC:=oR l [] [day,known];simp only[oW];generalize hc:eS l [] [day,known]=e at hC ⊢;by_cases he:e=0
 ·have hn:=oE he;subst he;have hok:=ng hc;have hF:=s9 l day known hok;rw[u4] at hF;have hb:=pk hok day known;have hN:=s7 (cA l day known) hb.2.1 89 [] rfl (fun b => !decide (0≤b.dW)) (fun b _=>Su b);have R:=v6 @hn (v6 @rL (v6 @oo (v6 @gK (v6 @aO @ab))))
  repeat' ((first |refine U.aI (by decide +kernel) rfl fun K hK =>?_|refine .flat _ (hC) rfl ?_|refine .lead _ (hF) ?_|refine .lead _ (hN) ?_|(refine .aD [0,1,2,6,7,8,9,17] hK ?_;clear hK K)|(with_reducible refine .done (hK _ ?_);clear hK K)|refine U.of rfl ?_|(with_reducible refine al.aH (fun h =>?_) (fun h =>?_) <;>try simp only[h])) <;>try simp only[aJ,R,simprocAttr])
  all_goals clear R
  all_goals rfl
 ·have hn:=oF he;have R:=v6 @hn (v6 @he (v6 @rL (v6 @aO @ab)))
  repeat' ((first |refine U.aI (by decide +kernel) rfl fun K hK =>?_|refine .flat _ (hC) rfl ?_|(refine .aD [0,1,2,6,7,8,9,17] hK ?_;clear hK K)|(with_reducible refine .done (hK _ ?_);clear hK K)|refine U.of rfl ?_|(with_reducible refine al.aH (fun h =>?_) (fun h =>?_) <;>try simp only[h])) <;>try simp only[aJ,R,simprocAttr])
  all_goals clear R
  all_goals rfl
def og(l:List ak)(no day known:Int):Int×Int:=if eS l [ep no 9999] [day,known]=0 then (match cM (cA l day known) no with
 |none=>(0,42)
 |some b=>if 0≤b.dW then (0,0) else (b.bU,0)) else (0,eS l [ep no 9999] [day,known])
theorem BS(a b:Int):iO 2 (some [.agg [.int .i64 a,.int .i64 b]])=some (enc [ep a b]):=nc (ys:=[ep a b]) 2 rfl
theorem BT(a b c d:Int):iO 2 (some [.agg [.int .i64 a,.int .i64 b],.agg [.int .i64 c,.int .i64 d]])=some (enc [ep a b,ep c d]):=nc (ys:=[ep a b,ep c d]) 2 rfl
theorem dG:(type_of% @aO)∧(type_of% @iz)∧(type_of% @oo)∧(type_of% @gK)∧(type_of% @eU)∧(type_of% @dY)∧(type_of% @aZ)∧(type_of% @rL)∧(type_of% @BS)∧(type_of% @BT)∧(type_of% @BQ)∧(type_of% @Q1)∧(type_of% @ab):=⟨@aO,@iz,@oo,@gK,@eU,@dY,@aZ,@rL,@BS,@BT,@BQ,@Q1,@ab⟩
theorem Bj(l:List ak)(no day known:Int):aA Tryz.prog 27 [enc l,enc no,enc day,enc known] (.tuple [enc (og l no day known).1,enc (og l no day known).2]):=by
 refine aA.bp Tryz.func27 Vj Xn ZA (t7 rfl) (fun hwf W0 D0 E1 =>?_);simp only[Di,Pg,bl,zz4,Nat.reduceAdd];clear hwf;have hC:=oR l [ep no 9999] [day,known];simp only[og];generalize hc:eS l [ep no 9999] [day,known]=e at hC ⊢;by_cases he:e=0
 ·have hn:=oE he;subst he;have hok:=ng hc;have hF:=s9 l day known hok;rw[u4] at hF;have hk:=qF (cA l day known) no;cases hg:cM (cA l day known) no with
  |none =>
   rw[hg] at hk;have R:=v6 @hn (v6 @hk dG)
   repeat' ((first |refine U.aI (by decide +kernel) rfl fun K hK =>?_|refine .flat _ (hC) rfl ?_|refine .lead _ (hF) ?_|(refine .aD [0,1,2,3,8,9,10,11,13,23,38,41] hK ?_;clear hK K)|(with_reducible refine .done (hK _ ?_);clear hK K)|refine U.of rfl ?_|(with_reducible refine al.aH (fun h =>?_) (fun h =>?_) <;>try simp only[h])) <;>try simp only[aJ,R,simprocAttr])
   all_goals clear R
  |some b =>
   rw[hg] at hk;rcases hd:decide (0≤b.dW)
   all_goals
    have R:=v6 @hn (v6 @hk (v6 @hd dG))
    repeat' ((first |refine U.aI (by decide +kernel) rfl fun K hK =>?_|refine .flat _ (hC) rfl ?_|refine .lead _ (hF) ?_|refine .flat _ (jS _) rfl ?_|(refine .aD [0,1,2,3,8,9,10,11,13,23,38,41] hK ?_;clear hK K)|(with_reducible refine .done (hK _ ?_);clear hK K)|refine U.of rfl ?_|(with_reducible refine al.aH (fun h =>?_) (fun h =>?_) <;>try simp only[h])) <;>try simp only[aJ,R,simprocAttr])
    all_goals clear R
    simp only[decide_eq_true_eq,decide_eq_false_iff_not] at hd;simp[hd]
 ·have hn:=oF he;have R:=v6 @hn (v6 @he dG)
  repeat' ((first |refine U.aI (by decide +kernel) rfl fun K hK =>?_|refine .flat _ (hC) rfl ?_|(refine .aD [0,1,2,3,8,9,10,11,13,23,38,41] hK ?_;clear hK K)|(with_reducible refine .done (hK _ ?_);clear hK K)|refine U.of rfl ?_|(with_reducible refine al.aH (fun h =>?_) (fun h =>?_) <;>try simp only[h])) <;>try simp only[aJ,R,simprocAttr])
  all_goals clear R
  all_goals rfl
theorem Sv(b:aP)(o s:Int):aA Tryz.prog 91 [.ref (enc (⟨b⟩:eQ)),.ref (enc o),.ref (enc s)] (enc (!decide (0≤b.dW)&&(b.bU==o&&b.dF==s))):=by
 refine aA.bp Tryz.func91 VP XT Z6 (t7 rfl) (fun hwf W0 D0 E1 =>?_);simp only[DQ,PN,bl,zz4,Nat.reduceAdd];have R:=dG
 repeat' ((first |(with_reducible refine .guard (fun hb =>?_) (fun hb =>?_) <;>try simp only[hb])|refine U.aI (by decide +kernel) rfl fun K hK =>?_|refine .flat _ (jS _) rfl ?_|(refine .aD [0,1,2,4] hK ?_;clear hK K)|(with_reducible refine .done (hK _ ?_);clear hK K)|refine U.of rfl ?_|(with_reducible refine al.aH (fun h =>?_) (fun h =>?_) <;>try simp only[h])) <;>try simp only[aJ,R,simprocAttr])
 all_goals clear R
 all_goals simp_all
def qk(l:List ak)(o s day known:Int):Int×Int:=if eS l [ep o 99,ep s 9] [day,known]=0 then ((((cA l day known).filter fun b => !decide (0≤b.dW)&&(b.bU==o&&b.dF==s)).length:Int),0) else (0,eS l [ep o 99,ep s 9] [day,known])
theorem Bk(l:List ak)(o s day known:Int):aA Tryz.prog 28 [enc l,enc o,enc s,enc day,enc known] (.tuple [enc (qk l o s day known).1,enc (qk l o s day known).2]):=by
 refine aA.bp Tryz.func28 Vk Xo ZB (t7 rfl) (fun hwf W0 D0 E1 =>?_);simp only[Dj,Ph,bl,zz4,Nat.reduceAdd];clear hwf;have hC:=oR l [ep o 99,ep s 9] [day,known];simp only[qk];generalize hc:eS l [ep o 99,ep s 9] [day,known]=e at hC ⊢;by_cases he:e=0
 ·have hn:=oE he;subst he;have hok:=ng hc;have hF:=s9 l day known hok;rw[u4] at hF;have hb:=pk hok day known;have hN:=s7 (cA l day known) hb.2.1 91 [.ref (enc o),.ref (enc s)] rfl (fun b => !decide (0≤b.dW)&&(b.bU==o&&b.dF==s)) (fun b _=>Sv b o s);have R:=v6 @hn (v6 @qJ dG)
  repeat' ((first |refine U.aI (by decide +kernel) rfl fun K hK =>?_|refine .flat _ (hC) rfl ?_|refine .lead _ (hF) ?_|(refine .aD [0,1,2,3,4,6,7,10,11,12,13,26] hK ?_;clear hK K)|(with_reducible refine .done (hK _ ?_);clear hK K)|refine U.of rfl ?_|(with_reducible refine al.aH (fun h =>?_) (fun h =>?_) <;>try simp only[h])) <;>try simp only[aJ,R,simprocAttr])
  all_goals clear R
  refine .iQ [6,7] _ rfl hN ?_ ?_ ?_
  ·simp[bC,cn,cH,aw,ji,ao,hT,oo,I.bJ];exact ⟨rfl,rfl⟩
  ·simp[aY,cR]
  ·have hlen:(cS (((cA l day known).filter fun b => !decide (0≤b.dW)&&(b.bU==o&&b.dF==s)).map (·.no))).length=((cA l day known).filter fun b => !decide (0≤b.dW)&&(b.bU==o&&b.dF==s)).length:=by simp[cS]
   try simp only[gU,zy2,zx1,hlen,dG,ab,simprocAttr]
   have R:=v6 @hlen dG
   repeat' ((first |refine U.aI (by decide +kernel) rfl fun K hK =>?_|(refine .aD [0,1,2,3,4,6,7,10,11,12,13,26] hK ?_;clear hK K)|(with_reducible refine .done (hK _ ?_);clear hK K)|refine U.of rfl ?_|(with_reducible refine al.aH (fun h =>?_) (fun h =>?_) <;>try simp only[h])) <;>try simp only[aJ,R,simprocAttr])
   all_goals clear R
 ·have hn:=oF he;have R:=v6 @hn (v6 @he dG)
  repeat' ((first |refine U.aI (by decide +kernel) rfl fun K hK =>?_|refine .flat _ (hC) rfl ?_|(refine .aD [0,1,2,3,4,6,7,10,11,12,13,26] hK ?_;clear hK K)|(with_reducible refine .done (hK _ ?_);clear hK K)|refine U.of rfl ?_|(with_reducible refine al.aH (fun h =>?_) (fun h =>?_) <;>try simp only[h])) <;>try simp only[aJ,R,simprocAttr])
  all_goals clear R
  all_goals rfl
theorem fp(m:bY):cj (some 7) (enc m)=true:=by rw[fW];rfl
theorem sZ(m:bY)(b:aP):aA Tryz.prog 69 [enc m,.ref (enc (⟨b⟩:eQ))] (enc (jG m b.bS).1):=by
 refine aA.bp Tryz.func69 VA XE ZR (t7 rfl) (fun hwf W0 D0 E1 =>?_);simp only[DA,Py,bl,zz4];clear hwf;have hC:=Rn m b.bS;have R:=v6 @fp dG
 repeat' ((first |refine U.aI (by decide +kernel) rfl fun K hK =>?_|refine .lead _ (hC) ?_|(refine .aD [0,1,2,4,5] hK ?_;clear hK K)|(with_reducible refine .done (hK _ ?_);clear hK K)|refine U.of rfl ?_|(with_reducible refine al.aH (fun h =>?_) (fun h =>?_) <;>try simp only[h])) <;>try simp only[aJ,R,simprocAttr])
 all_goals clear R
theorem Rq(l:List Int)(n:Int):aA Tryz.prog 131 [enc l,enc n] (enc (ku (fun x=>n==x) l)):=by
 refine aA.bp Tryz.func131 Ul Wj YA (t7 rfl) (fun hwf W0 D0 E1 =>?_);simp only[Ch,Oc,bl,zz4];have hlen:l.length≤maxLen:=((kL l).1 hwf.1).1;simp only[maxLen] at hlen;clear hwf;have R:=v6 @aZ @ab
 repeat' ((first |refine U.aI (by decide +kernel) rfl fun K hK =>?_|(refine .aD [0,1,4,5,7,8,9,16] hK ?_;clear hK K)|(with_reducible refine .done (hK _ ?_);clear hK K)|refine U.of rfl ?_|(with_reducible refine al.aH (fun h =>?_) (fun h =>?_) <;>try simp only[h])) <;>try simp only[aJ,R,simprocAttr])
 all_goals clear R
 refine U.loop (fun i:Nat=>aw [(0,enc l),(1,.int .i64 n),(7,.int .i64 l.length),(8,.int .i64 i)] []) (fun i=>i≤l.length∧∀ x∈l.take i,(n==x)=false) (fun i=>l.length-i) 0 ⟨zw3 _,by simp⟩ ?_ (fun i hi =>?_)
 ·refine aB.bE ?_ ?_ ?_ ?_ <;>simp[aQ,bt,br,aY,aS,I.only,bg]
 obtain ⟨hi1,hi2⟩:=hi;by_cases hlt:i<l.length
 ·have hc:=fw hlt;have he:=fun A=>fm (A:=A) 1 hlt rfl;have hw:=ea (i:=i) (by omega);rcases hp:(n==l[i])
  ·have R:=v6 @hc (v6 @he (v6 @hp (v6 @hw (v6 @iw (v6 @aZ @ab)))))
   repeat' ((first |refine U.aI (by decide +kernel) rfl fun K hK =>?_|(refine .aD [0,1,4,5,7,8,9,16] hK ?_;clear hK K)|(with_reducible refine .done (hK _ ?_);clear hK K)|refine U.of rfl ?_|(with_reducible refine al.aH (fun h =>?_) (fun h =>?_) <;>try simp only[h])) <;>try simp only[aJ,R,simprocAttr])
   all_goals clear R
   refine ⟨i+1,⟨by omega,fun x hm =>?_⟩,by omega,?_⟩
   ·rw[zz8 hlt] at hm;rcases zy5.1 hm with hm | hm
    ·exact hi2 x hm
    ·simp at hm;rw[hm];exact hp
   ·refine aB.bE ?_ ?_ ?_ ?_ <;>simp[aQ,bt,br,aY,aS,I.only,bg]
  ·have R:=v6 @hc (v6 @he (v6 @hp (v6 @iw (v6 @aZ @ab))))
   repeat' ((first |refine U.aI (by decide +kernel) rfl fun K hK =>?_|(refine .aD [0,1,4,5,7,8,9,16] hK ?_;clear hK K)|(with_reducible refine .done (hK _ ?_);clear hK K)|refine U.of rfl ?_|(with_reducible refine al.aH (fun h =>?_) (fun h =>?_) <;>try simp only[h])) <;>try simp only[aJ,R,simprocAttr])
   all_goals clear R
   simp[ku,xr hlt hi2 hp]
 ·have hc:=fP hlt;have hge:i=l.length:=by omega
  have R:=v6 @hc (v6 @aZ @ab)
  repeat' ((first |refine U.aI (by decide +kernel) rfl fun K hK =>?_|(refine .aD [0,1,4,5,7,8,9,16] hK ?_;clear hK K)|(with_reducible refine .done (hK _ ?_);clear hK K)|refine U.of rfl ?_|(with_reducible refine al.aH (fun h =>?_) (fun h =>?_) <;>try simp only[h])) <;>try simp only[aJ,R,simprocAttr])
  all_goals clear R
  subst hge;rw[zu7] at hi2;simp[ku,xq hi2]
theorem Sm(l:List Int)(n:Int):aA Tryz.prog 74 [enc l,enc n] (enc (decide (n∈l))):=by
 refine aA.bp Tryz.func74 VD XH ZU (t7 rfl) (fun hwf W0 D0 E1 =>?_);simp only[DE,PB,bl,zz4];clear hwf;have R:=v6 @aO @ab
 repeat' ((first |refine U.aI (by decide +kernel) rfl fun K hK =>?_|refine .flat _ (Rq _ _) rfl ?_|(refine .aD [0,1,4] hK ?_;clear hK K)|(with_reducible refine .done (hK _ ?_);clear hK K)|refine U.of rfl ?_|(with_reducible refine al.aH (fun h =>?_) (fun h =>?_) <;>try simp only[h])) <;>try simp only[aJ,R,simprocAttr])
 all_goals clear R
 rw[LV]
 congr 1
 rw[Bool.eq_iff_iff];simp[List.any_eq_true]
theorem Sl(m:bY)(b:aP):aA Tryz.prog 73 [.ref (enc (⟨b⟩:eQ)),.ref (enc m)] (enc (decide (0<b.ju) && !decide (b.ju∈(jG m b.bS).1))):=by
 refine aA.bp Tryz.func73 VC XG ZT (t7 rfl) (fun hwf W0 D0 E1 =>?_);simp only[DC,PA,bl,zz4];clear hwf;have hC:=sZ m b;have R:=v6 @fp dG
 repeat' ((first |(with_reducible refine .guard (fun hb =>?_) (fun hb =>?_) <;>try simp only[hb])|refine U.aI (by decide +kernel) rfl fun K hK =>?_|refine .lead _ (hC) ?_|refine .flat _ (Sm _ _) rfl ?_|(refine .aD [0,1,3] hK ?_;clear hK K)|(with_reducible refine .done (hK _ ?_);clear hK K)|refine U.of rfl ?_|(with_reducible refine al.aH (fun h =>?_) (fun h =>?_) <;>try simp only[h])) <;>try simp only[aJ,R,simprocAttr])
 all_goals clear R
 all_goals first | (simp_all;done) | (simp_all;intro h;omega)
def l7(m:bY)(l:List ak)(no known:Int):List Int×Int:=if ed m then (if eS l [ep no 9999] [known]=0 then (match cM (cA l 100000 known) no with
 |none=>([],42)
 |some b=>((jG m b.bS).1,0)) else ([],eS l [ep no 9999] [known])) else ([],13)
theorem nd(a:Int):iO 1 (some [.int .i64 a])=some (enc [a]):=nc (ys:=[a]) 1 rfl
theorem vO(m:bY)(l:List ak)(no known:Int):aA Tryz.prog 14 [enc m,enc l,enc no,enc known] (.tuple [enc (l7 m l no known).1,enc (l7 m l no known).2]):=by
 refine aA.bp Tryz.func14 Us Wq YH (t7 rfl) (fun hwf W0 D0 E1 =>?_);simp only[Co,Oj,bl,zz4,Nat.reduceAdd];clear hwf;have hM:=sY m;have hC:=oR l [ep no 9999] [known];simp only[l7];rcases hm:ed m
 ·rw[hm,if_neg (by decide)] at hM;have R:=v6 @fp dG
  repeat' ((first |refine U.aI (by decide +kernel) rfl fun K hK =>?_|refine .flat _ (hM) rfl ?_|(refine .aD [0,1,2,3,4,8,9,10,11,12,16,26,37] hK ?_;clear hK K)|(with_reducible refine .done (hK _ ?_);clear hK K)|refine U.of rfl ?_|(with_reducible refine al.aH (fun h =>?_) (fun h =>?_) <;>try simp only[h])) <;>try simp only[aJ,R,simprocAttr])
  all_goals clear R
  all_goals rfl
 rw[hm,if_pos rfl] at hM;generalize hc:eS l [ep no 9999] [known]=e at hC ⊢;by_cases he:e=0
 ·have hn:=oE he;subst he;have hok:=ng hc;have hF:=oS l known hok;have hk:=qF (cA l 100000 known) no;cases hg:cM (cA l 100000 known) no with
  |none =>
   rw[hg] at hk;have R:=v6 @hn (v6 @hk (v6 @fp dG))
   repeat' ((first |refine U.aI (by decide +kernel) rfl fun K hK =>?_|refine .flat _ (hM) rfl ?_|refine .flat _ (hC) rfl ?_|refine .lead _ (hF) ?_|(refine .aD [0,1,2,3,4,8,9,10,11,12,16,26,37] hK ?_;clear hK K)|(with_reducible refine .done (hK _ ?_);clear hK K)|refine U.of rfl ?_|(with_reducible refine al.aH (fun h =>?_) (fun h =>?_) <;>try simp only[h])) <;>try simp only[aJ,R,simprocAttr])
   all_goals clear R
   all_goals rfl
  |some b =>
   rw[hg] at hk;have hB:=sZ m b;have R:=v6 @hn (v6 @hk (v6 @fp dG))
   repeat' ((first |refine U.aI (by decide +kernel) rfl fun K hK =>?_|refine .flat _ (hM) rfl ?_|refine .flat _ (hC) rfl ?_|refine .lead _ (hF) ?_|refine .lead _ (hB) ?_|(refine .aD [0,1,2,3,4,8,9,10,11,12,16,26,37] hK ?_;clear hK K)|(with_reducible refine .done (hK _ ?_);clear hK K)|refine U.of rfl ?_|(with_reducible refine al.aH (fun h =>?_) (fun h =>?_) <;>try simp only[h])) <;>try simp only[aJ,R,simprocAttr])
   all_goals clear R
 ·have hn:=oF he;have R:=v6 @hn (v6 @he (v6 @fp dG))
  repeat' ((first |refine U.aI (by decide +kernel) rfl fun K hK =>?_|refine .flat _ (hM) rfl ?_|refine .flat _ (hC) rfl ?_|(refine .aD [0,1,2,3,4,8,9,10,11,12,16,26,37] hK ?_;clear hK K)|(with_reducible refine .done (hK _ ?_);clear hK K)|refine U.of rfl ?_|(with_reducible refine al.aH (fun h =>?_) (fun h =>?_) <;>try simp only[h])) <;>try simp only[aJ,R,simprocAttr])
  all_goals clear R
  all_goals rfl
def sS(m:bY)(l:List ak)(known:Int):List Int×Int:=if ed m then (if eS l [] [known]=0 then
 (cS (((cA l 100000 known).filter fun b=>decide (0<b.ju) && !decide (b.ju∈(jG m b.bS).1)).map (·.no)),0) else ([],eS l [] [known])) else ([],13)
theorem RJ(m:bY)(l:List ak)(known:Int):aA Tryz.prog 16 [enc m,enc l,enc known] (.tuple [enc (sS m l known).1,enc (sS m l known).2]):=by
 refine aA.bp Tryz.func16 UG WG YW (t7 rfl) (fun hwf W0 D0 E1 =>?_);simp only[CD,OC,bl,zz4,Nat.reduceAdd];clear hwf;have hM:=sY m;have hC:=oR l [] [known];simp only[sS];rcases hm:ed m
 ·rw[hm,if_neg (by decide)] at hM;have R:=v6 @fp dG
  repeat' ((first |refine U.aI (by decide +kernel) rfl fun K hK =>?_|refine .flat _ (hM) rfl ?_|(refine .aD [0,1,2,3,6,7,8,9,13,20] hK ?_;clear hK K)|(with_reducible refine .done (hK _ ?_);clear hK K)|refine U.of rfl ?_|(with_reducible refine al.aH (fun h =>?_) (fun h =>?_) <;>try simp only[h])) <;>try simp only[aJ,R,simprocAttr])
  all_goals clear R
  all_goals rfl
 rw[hm,if_pos rfl] at hM;generalize hc:eS l [] [known]=e at hC ⊢;by_cases he:e=0
 ·have hn:=oE he;subst he;have hok:=ng hc;have hF:=oS l known hok;have hb:=pk hok 100000 known;have hN:=s7 (cA l 100000 known) hb.2.1 73 [.ref (enc m)] (by simp[I.eY,I.done,dL]) (fun b=>decide (0<b.ju) && !decide (b.ju∈(jG m b.bS).1)) (fun b _=>Sl m b);have R:=v6 @hn (v6 @fp (v6 @qJ dG))
  repeat' ((first |refine U.aI (by decide +kernel) rfl fun K hK =>?_|refine .flat _ (hM) rfl ?_|refine .flat _ (hC) rfl ?_|refine .lead _ (hF) ?_|(refine .aD [0,1,2,3,6,7,8,9,13,20] hK ?_;clear hK K)|(with_reducible refine .done (hK _ ?_);clear hK K)|refine U.of rfl ?_|(with_reducible refine al.aH (fun h =>?_) (fun h =>?_) <;>try simp only[h])) <;>try simp only[aJ,R,simprocAttr])
  all_goals clear R
  refine .iQ [3] _ rfl hN ?_ ?_ ?_
  ·simp[bC,cn,cH,aw,ji,ao,hT,oo,dL]
  ·simp[aY,cR]
  ·try simp only[gU,zy2,zx1,dG,ab,simprocAttr]
   have R:=dG
   repeat' ((first |refine U.aI (by decide +kernel) rfl fun K hK =>?_|(refine .aD [0,1,2,3,6,7,8,9,13,20] hK ?_;clear hK K)|(with_reducible refine .done (hK _ ?_);clear hK K)|refine U.of rfl ?_|(with_reducible refine al.aH (fun h =>?_) (fun h =>?_) <;>try simp only[h])) <;>try simp only[aJ,R,simprocAttr])
   all_goals clear R
 ·have hn:=oF he;have R:=v6 @hn (v6 @he (v6 @fp dG))
  repeat' ((first |refine U.aI (by decide +kernel) rfl fun K hK =>?_|refine .flat _ (hM) rfl ?_|refine .flat _ (hC) rfl ?_|(refine .aD [0,1,2,3,6,7,8,9,13,20] hK ?_;clear hK K)|(with_reducible refine .done (hK _ ?_);clear hK K)|refine U.of rfl ?_|(with_reducible refine al.aH (fun h =>?_) (fun h =>?_) <;>try simp only[h])) <;>try simp only[aJ,R,simprocAttr])
  all_goals clear R
  all_goals rfl
def mz{α:Type}(f:α→Int)(l:List α)(x:α):List α:=(l.takeWhile fun a=>decide (f a≤f x))++x::l.dropWhile fun a=>decide (f a≤f x)
section
variable {α:Type} {f:α→Int}
theorem alX(l:List α)(x:α):(mz f l x).length=l.length+1:=by
 have h:(l.takeWhile fun a=>decide (f a≤f x))++(l.dropWhile fun a=>decide (f a≤f x))=l:=List.takeWhile_append_dropWhile;have h2:=congrArg List.length h;simp only[mz,zz2,zu5] at h2 ⊢;omega
end
def ly(l:List Int)(x:Int):List Int:=if x∈l then l else mz id l x
def iU(l:List Int):List Int:=l.foldl ly []
theorem SI(l:List Int)(x:Int):(ly l x).length≤l.length+1:=by
 simp only[ly];split
 ·omega
 ·rw[alX];omega
theorem Fw:∀ (l o:List Int),(l.foldl ly o).length≤o.length+l.length
 | [],o=>by simp
 |x::l,o=>by
  have h1:=Fw l (ly o x);have h2:=SI o x;simp only[List.foldl_cons,zu5];omega
theorem apY{A:af}{n:Nat}{w:I}{b:aP}{rest:List aE} : dT A (some 9) n [] w (enc b) rest (some (.agg [.int .i64 0,.int .i64 0,.int .i64 0,.int .i64 0,.int .i64 0,.int .i64 0,.int .i64 0,.bool false,.nils 6]))=aF rest (A.aU n (.box (enc b))):=by
 refine (eG (s:=some 9) (du _) (by rw[fW];rfl) (eT b)).trans ?_;rw[fT]
end Go.Proofs.YtcldiigclhgafaaGreat
namespace Go.Proofs.YtcldiigclhgafaaGreat
open Go Go.Abs Go.ChangeShapes Go.WideShapes Go.RowKit
open Go.Abs.Enc (enc)
theorem Tryz.own:ownKnob Tryz.prog.godebug=none:=by kernel_rfl
theorem Tryz.Md:laidOutB Tryz.prog=true:=by kernel_rfl
theorem uQ:jU Tryz.prog 3 Int:=aoy (by kernel_rfl) (by kernel_rfl)
theorem MS:jU Tryz.prog 29 (List Int):=Nw (by kernel_rfl) uQ (by kernel_rfl)
theorem ann:jU Tryz.prog 28 jT:=zJ (yM (by kernel_rfl)) uQ (by kernel_rfl) (by decide)
theorem Qi{w:World}{D:aW}{E:a8}{x y z:I}{a b c:Value}(hx:∃ cs,bN x a cs∧ai w D E x cs)(hy:∃ cs,bN y b cs∧ai w D E y cs)(hz:∃ cs,bN z c cs∧ai w D E z cs):aK w D E [x,y,z] [a,b,c]:=by
 obtain ⟨c1,h1,h2⟩:=hx;obtain ⟨c2,h3,h4⟩:=hy;obtain ⟨c3,h5,h6⟩:=hz;simp only[aK];exact ⟨a,[b,c],c1,rfl,h1,h2,b,[c],c2,rfl,h3,h4,c,[],c3,rfl,h5,h6,rfl⟩
end Go.Proofs.YtcldiigclhgafaaGreat
