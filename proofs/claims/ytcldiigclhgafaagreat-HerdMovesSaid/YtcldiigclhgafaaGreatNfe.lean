/-
  A part of the proof that the law HerdMoves returns true for every input; conditions: none beyond the statement's own. (part 5 of 7)
-/
import Derived.Shelf.Sort.Plain
import Derived.Shelf.Slices.In.SortNone
import Derived.Test.YtcldiigclhgafaaGreatNfd
set_option linter.unusedSimpArgs false
set_option linter.unusedVariables false
set_option maxHeartbeats 16000000
set_option maxRecDepth 100000
namespace Go.Proofs.YtcldiigclhgafaaGreat
open Go Go.Abs
open Go.Abs.Enc (enc)
def ec(bs:List aH):List (Nat×ah):=(43,.box (.agg [.mref 41]))::(41,.cB (dw bs) (ez 2000 bs.length))::fe 2000 0 bs
def nK(bs:List aH)(b:aH):List (Nat×ah):=(41,.cB (dw (bs++[b])) (ez 2000 bs.length++[.ptr (2002+2*bs.length) []]))::(2002+2*bs.length,.box (eC b (.nils 6)))::ec bs
def gQ(n:Nat):List (Nat×Nat):=(33,2002+2*n)::(1000000,43)::(1000001,41)::(List.range' 0 200).map fun j=>(1000002+j,2002+j)
theorem Ou(m:Nat):∀ k a,bJ ((List.range' a k).map fun j=>(1000002+j,2002+j)) m=if 1000002+a≤m∧m<1000002+a+k then m-998000 else m
 |0,a=>by
  rw[if_neg (by omega)];rfl
 |k+1,a=>by
  rw[List.range'_succ,zy2,bJ,Ou m k (a+1)];by_cases h:m=1000002+a
  ·rw[if_pos h,if_pos (by omega)];omega
  ·rw[if_neg h];by_cases h2:1000002+(a+1)≤m∧m<1000002+(a+1)+k
   ·rw[if_pos h2,if_pos (by omega)]
   ·rw[if_neg h2,if_neg (by omega)]
theorem mj(n m:Nat):bJ (gQ n) m=if m=33 then 2002+2*n else if m=1000000 then 43 else if m=1000001 then 41 else if 1000002≤m∧m<1000202 then m-998000 else m:=by
 simp only[gQ,bJ,Ou]
theorem Ot{n i:Nat}(h:i≤80):bJ (gQ n) (1000000+2+2*i)=2000+2+2*i:=by
 rw[mj,if_neg (by omega),if_neg (by omega),if_neg (by omega),if_pos (by omega)];omega
theorem aoN{n i:Nat}(h:i≤80):bJ (gQ n) (1000000+3+2*i)=2000+3+2*i:=by
 rw[mj,if_neg (by omega),if_neg (by omega),if_neg (by omega),if_pos (by omega)];omega
theorem On(n:Nat):bJ (gQ n) 1000000=43:=by rw[mj];rfl
theorem Oo(n:Nat):bJ (gQ n) 1000001=41:=by rw[mj];rfl
theorem Oq(n:Nat):bJ (gQ n) 33=2002+2*n:=by rw[mj];rfl
theorem zf(ρ:List (Nat×Nat))(k:Nat)(v:ah)(os:List (Nat×ah)):dN ρ ((k,v)::os)=(bJ ρ k,v.aQ (bJ ρ))::dN ρ os:=rfl
theorem Og(n:Nat):∀ (bs:List aH) (i:Nat),i+bs.length≤80→dN (gQ n) (fe 1000000 i bs)=fe 2000 i bs
 | [],_,_=>rfl
 |b::bs,i,h=>by
  simp only[List.length_cons] at h;have ih:=Og n bs (i+1) (by omega);simp only[fe,zf,ih,Ot (n:=n) (i:=i) (by omega),aoN (n:=n) (i:=i) (by omega),ah.aQ,fM,eC,I.aQ,I.cZ]
theorem Oi(n:Nat){k:Nat}(h:k≤80):I.cZ (bJ (gQ n)) (ez 1000000 k)=ez 2000 k:=by
 simp only[ez,oW,List.map_map];refine List.map_congr_left fun i hi =>?_;have:=zv2.1 hi;simp only[Function.comp,I.aQ,Ot (n:=n) (i:=i) (by omega)]
theorem Oh(ρ:Nat→Nat)(bs:List aH):I.cZ ρ (dw bs)=dw bs:=by
 simp only[dw,fM]
theorem uE(n:Nat){bs:List aH}(h:bs.length≤80):dN (gQ n) (cA 1000000 bs)=ec bs:=by
 have h1:=Og n bs 0 (by omega);simp only[cA,ec,zf,h1,ah.aQ,I.aQ,I.cZ,Oh,Oi n h,On,Oo,Nat.reduceAdd]
theorem aoB(ρ:Nat→Nat)(xs ys:List I):I.cZ ρ (xs++ys)=I.cZ ρ xs++I.cZ ρ ys:=by simp only[oW,zx4]
theorem aoz{bs:List aH}{b:aH}(h:bs.length≤80):dN (gQ bs.length) (gZ 1000000 33 bs b)=nK bs b:=by
 have h1:=uE bs.length h;simp only[gZ,nK,zf,h1,ah.aQ,I.aQ,I.cZ,Oh,aoB,Oi bs.length h,Oo,Oq,eC,Nat.reduceAdd]
def tX(n m:Nat):Prop:=m=33∨(1000000≤m∧m<1000002+2*n)
theorem uI{n k m m':Nat}(hk:k≤80)(hm:1000000≤m∧m<1000002+2*k)(hm':1000000≤m'∧m'<1000002+2*k)(h:bJ (gQ n) m=bJ (gQ n) m'):m=m':=by
 rw[mj,mj] at h;rw[if_neg (by omega),if_neg (show ¬ m'=33 by omega)] at h
 (repeat' split at h) <;>omega
theorem aoM{n m m':Nat}(hk:n≤80)(hm:tX n m)(hm':tX n m')(h:bJ (gQ n) m=bJ (gQ n) m'):m=m':=by
 simp only[tX] at hm hm';rw[mj,mj] at h
 (repeat' split at h) <;>omega
theorem amd{ρ:List (Nat×Nat)}{os:List (Nat×ah)}{m:Nat}{y:ah}(inj:∀ m',al os m'=true→bJ ρ m'=bJ ρ m→m'=m)(h:ak os m=some y):ak (dN ρ os) (bJ ρ m)=some (y.aQ (bJ ρ)):=by
 have h1:=ry ρ os [] (bJ ρ m);rw[zx5] at h1;rw[h1];cases hp:pre ρ os (bJ ρ m) with
 |none=>exact absurd rfl (yW hp (by simp[al,h]))
 |some m' =>
  obtain ⟨k1,k2⟩:=mg hp;have:=inj m' k1 k2;subst this;simp only[h,zy7]
theorem xZ{bs:List aH}{n:Nat} : al (ec bs) n=decide (n=43∨n=41∨(2002≤n∧n<2002+2*bs.length)):=by
 have h2:al (fe 2000 0 bs) n=decide (2002≤n∧n<2002+2*bs.length):=by
  by_cases h1:n<2002
  ·simp only[al,tI 2000 bs 0 n (by omega)];simp;omega
  by_cases h3:2002+2*bs.length≤n
  ·simp only[al,tG 2000 bs 0 n (by omega)];simp;omega
  ·rcases tW 2000 n bs.length with h | h | h | ⟨k,hk,h⟩ | ⟨k,hk,h⟩ | h
   ·omega
   ·omega
   ·omega
   ·have:=tH 2000 bs 0 k hk;rw[zz3] at this;rw[h];simp only[al,this];simp;omega
   ·have:=tJ 2000 bs 0 k hk;rw[zz3] at this;rw[h];simp only[al,this];simp;omega
   ·omega
 simp only[al,ec,ak] at h2 ⊢;by_cases h3:n=43
 ·simp[h3]
 by_cases h4:n=41
 ·simp[h4]
 simp only[h3,h4,if_false,h2,false_or]
theorem cG.post{P:Program}{f:FuncId}{args:List I}{os:List (Nat×ah)}{post post':cR}(h:cG P f args os post)(hp:∀ r os',post r os'→post' r os'):cG P f args os post' :=
 ⟨h.1,fun w D E vs hs hD ho hv=>(h.2 w D E vs hs hD ho hv).mono fun _ _ ⟨v,D',E',r,os',k1,k2,k⟩=>⟨v,D',E',r,os',k1,hp _ _ k2,k⟩⟩
def nB:List I:=[.int .i64 1,.int .i64 2,.int .i64 3,.int .i64 4,.int .i64 5,.int .i64 6]
def nC:List I:=[.func 172 [],.func 173 [],.func 174 [],.func 175 [],.func 176 [],.func 177 []]
theorem KU{x:ao}(h:iv x=true):0≤x.kind∧x.kind≤6∧(x.kind=2→x.dY=0):=by
 simp only[iv,zz4,decide_eq_true_eq] at h;obtain ⟨h1,h2,_⟩:=h;have h3:x.kind=2→x.dY=0:=fun hk=>by rw[h2];simp[mE,hk]
 simp only[ky] at h1;refine ⟨?_,?_,h3⟩
 all_goals
  split at h1
  ·omega
  ·simp only[zz4] at h1;obtain ⟨-,h1⟩:=h1
   repeat' split at h1
   all_goals first | omega | (simp only[decide_eq_true_eq] at h1;omega)
theorem vY{bs:List aH}{x:ao}(hok:iv x=true)(hk0:x.kind≠0)(hd:(bs.map (·.no)).Nodup)(hlen:∀ b∈bs,b.bH.length≤1000) :
  ∃ f,gG (.i .i64) .dv (.int .i64 x.kind) nB nC=some (.func f [],true)∧[172,173,174,175,176,177].contains f=true∧cG Tryz.prog f [.ptr 1000000 [],enc x] (cA 1000000 bs) (ji 1000000 33 bs x):=by
 obtain ⟨h1,h2,h3⟩:=KU hok;have h4:x.kind=1∨x.kind=2∨x.kind=3∨x.kind=4∨x.kind=5∨x.kind=6:=by omega
 rcases h4 with h | h | h | h | h | h
 ·exact ⟨172,by rw[h];simp[gG,fm,cn,nB,nC],rfl,Qj bs x h⟩
 ·refine ⟨173,by rw[h];simp[gG,fm,cn,nB,nC],rfl,cG.post (sd bs x) ?_⟩;have hdam:fy bs x=true:=by simp[fy,h3 h]
  rintro r os' (⟨k1,rfl,rfl⟩ | ⟨k1,rfl,rfl⟩)
  ·exact j9 (by simp[dz,h,k1])
  ·exact tA (.inr h) k1 hdam
 ·exact ⟨174,by rw[h];simp[gG,fm,cn,nB,nC],rfl,Qk bs x 33 h hd⟩
 ·exact ⟨175,by rw[h];simp[gG,fm,cn,nB,nC],rfl,Ql bs x 33 h hd hlen⟩
 ·exact ⟨176,by rw[h];simp[gG,fm,cn,nB,nC],rfl,Qm bs x 33 h hd⟩
 ·exact ⟨177,by rw[h];simp[gG,fm,cn,nB,nC],rfl,Qn bs x 33 h hd⟩
theorem vt{bs bs':List aH}{x:ao}(hk:¬ (x.kind=1∨x.kind=2))(h:dz fQ bs x=some bs'):bs'.length=bs.length:=by
 simp only[dz,if_neg hk] at h;split at h
 ·cases h
 ·simp only[zz1] at h;obtain ⟨b',_,rfl⟩:=h;simp[nd]
theorem cj.vY{hs:List FuncId}{K:ae→Prop}{f:FuncId}{x:ao}{avs:List I}{a1 a2:Option (List I)}{dst:Option Nat}{rest:List aG}{ts:List (Nat×I)}{z y:ah}{bs:List aH}(hlen:bs.length≤60)(hf:hs.contains f=true)
  (hc:cG Tryz.prog f [.ptr 1000000 [],enc x] (cA 1000000 bs) (ji 1000000 33 bs x)) (hav:avs=[.ptr 43 [],enc x])
  (h1:dz fQ bs x=none→cj Tryz.prog hs K (aC rest ((ar ts (ec bs++((900,z)::(ec bs++[(3,y)])))).aS dst (.bool false))))
  (h2:∀ bs',dz fQ bs x=some bs'→¬ (x.kind=1∨x.kind=2)→cj Tryz.prog hs K (aC rest ((ar ts (ec bs'++((900,z)::(ec bs++[(3,y)])))).aS dst (.bool true))))
  (h3:dz fQ bs x=some (bs++[fu x])→cj Tryz.prog hs K (aC rest ((ar ts (nK bs (fu x)++((900,z)::(ec bs++[(3,y)])))).aS dst (.bool true)))) :
  cj Tryz.prog hs K (.call f avs a1 a2 dst rest (ar ts ((900,z)::(ec bs++[(3,y)])))):=by
 subst hav;have nm:∀ {bs:List aH} {m},al (cA 1000000 bs) m=true→1000000≤m∧m<1000002+2*bs.length:=fun {bs m} h=>by
  rw[nO] at h;simpa using h
 have hlow:∀ {bs':List aH},bs'.length≤60→∀ {m y},ak (cA 1000000 bs') m=some y→ak (ec bs') (bJ (gQ bs.length) m)=some (y.aQ (bJ (gQ bs.length))):=fun {bs'} hl {m y} hy=>by
  rw[←uE bs.length (bs:=bs') (by omega)];exact amd (fun m' hm' he=>uI (by omega) (nm hm') (nm (by simp[al,hy])) he) hy
 refine .yC false (gQ bs.length) (cA 1000000 bs) [.ptr 1000000 [],enc x] _ hf hc ⟨fun m y' hy =>?_,fun m m' h h' e=>uI (n:=bs.length) (by omega) (nm h) (nm h') e⟩ ⟨.inl ⟨?_,?_,rfl⟩,.inl ⟨(j5 _ _).symm,bh _ _,dO _⟩,trivial⟩ ?_ ?_
 ·have hm:=nm (bs:=bs) (m:=m) (by simp[al,hy]);refine ⟨?_,fB hy⟩;have h9:bJ (gQ bs.length) m≠900:=fun e=>by
   rw[mj] at e
   (repeat' split at e) <;>omega
  simp only[ak,if_neg h9,kE,hlow hlen hy]
 ·simp only[I.aQ,On]
 ·simp only[I.only];simp[al,kB]
 ·intro r os' hp;simp only[ji] at hp;split at hp
  ·obtain ⟨rfl,rfl⟩:=hp;exact ⟨fun m y hy=>⟨(fB hy).1,(fB hy).2,fun h=>by cases h⟩,fun m m' h h' e=>uI (n:=bs.length) (k:=bs.length) (by omega) (nm h) (nm h') e,fun m hm=>hm,(fun m a b=>by rw[a] at b;cases b),rfl,(fun h=>by cases h)⟩
  ·rename_i bs' hb;obtain ⟨rfl,rfl⟩:=hp;split
   ·rename_i hk;have hbs:bs'=bs++[fu x]:=by
     simp only[dz,if_pos hk] at hb;split at hb
     ·simpa[fQ] using hb.symm
     ·cases hb
    subst hbs;have hN:∀ {m},al (gZ 1000000 33 bs (fu x)) m=true→tX bs.length m:=fun {m} h=>by
     rw[nL] at h;simp only[Bool.or_eq_true,decide_eq_true_eq] at h;rcases h with h | h
     ·exact .inl h
     ·exact .inr (nm h)
    refine ⟨fun m y hy=>⟨(nM hy).1,(nM hy).2,fun h=>by cases h⟩,fun m m' h h' e=>aoM (by omega) (hN h) (hN h') e,fun m hm =>?_,fun m a b =>?_,rfl,fun h=>by cases h⟩
    ·show al (gZ 1000000 33 bs (fu x)) m=true
     rw[nL,hm,Bool.or_true]
    ·have a':al (gZ 1000000 33 bs (fu x)) m=true:=a;rw[nL,b,Bool.or_false,decide_eq_true_eq] at a';subst a';rw[Oq];refine ⟨?_,by omega⟩;have h9:¬ 2002+2*bs.length=900:=by omega
     have h3:¬ 2002+2*bs.length=3:=by omega
     have hno:ak (ec bs) (2002+2*bs.length)=none:=by
      have:=xZ (bs:=bs) (n:=2002+2*bs.length);rw[decide_eq_false (by omega)] at this;simpa[al] using this
     simp only[ak,if_neg h9,kE,hno,if_neg h3]
   ·rename_i hk;have hl:=vt hk hb;refine ⟨fun m y hy=>⟨(fB hy).1,(fB hy).2,fun h=>by cases h⟩,fun m m' h h' e=>uI (n:=bs.length) (k:=bs'.length) (by omega) (nm h) (nm h') e,fun m hm =>?_,fun m a b =>?_,rfl,fun h=>by cases h⟩
    ·rw[nO] at hm ⊢;rw[hl];exact hm
    ·rw[nO] at a b;rw[hl] at a;rw[a] at b;cases b
 ·intro r os' hp;simp only[ji] at hp;split at hp
  ·rename_i hb;obtain ⟨rfl,rfl⟩:=hp;rw[uE bs.length (by omega)];exact h1 hb
  ·rename_i bs' hb;obtain ⟨rfl,rfl⟩:=hp;split
   ·rename_i hk;have hbs:bs'=bs++[fu x]:=by
     simp only[dz,if_pos hk] at hb;split at hb
     ·simpa[fQ] using hb.symm
     ·cases hb
    subst hbs;have e:dN (gQ bs.length) ((1000000+1,ah.cB (dw (bs++[fu x])) (ez 1000000 bs.length++[.ptr 33 []]))::(33,.box (eC (fu x) (.nils 6)))::cA 1000000 bs)=nK bs (fu x):=aoz (by omega);rw[e];exact h3 hb
   ·rename_i hk;have hl:=vt hk hb;rw[uE bs.length (by omega)];exact h2 bs' hb hk
def vk(a b c d e f:Int):bG 6 Int:=⟨[a,b,c,d,e,f],rfl⟩
def a5(a b c d e:Int):bG 5 Int:=⟨[a,b,c,d,e],rfl⟩
theorem aag(a b c d e:Int):I.agg [.int .i64 a,.int .i64 b,.int .i64 c,.int .i64 d,.int .i64 e]=enc (a5 a b c d e):=rfl
theorem aah(a b c d e f:Int):I.agg [.int .i64 a,.int .i64 b,.int .i64 c,.int .i64 d,.int .i64 e,.int .i64 f]=enc (vk a b c d e f):=rfl
theorem zC{zs:List I}{i:Nat}{v z:I}{rest:List (Nat×I)}(h:zs[i]?=some z)(h1:v.cu=true)(h2:v.size=z.size):eP zs ((i,v)::rest)=eP (zs.set i v) rest:=by
 simp only[eP,h];rw[if_pos ⟨h1,h2⟩]
theorem aaf(w:bG 5 Int)(n:Int)(l:List cE):I.agg [enc w,.int .i64 n,enc l]=enc (⟨w,n,l⟩:cq):=rfl
theorem apZ(x:ao):aw Tryz.prog 62 [enc x] (enc (if iv x then (0:Int) else 40)):=by
 refine aw.bj Tryz.func62 TO VU Yf (zz0 rfl) (fun hwf W0 D0 E1 =>?_);simp only[CD,NB,bg];have R:=u8 @aJ @U
 repeat' ((first |(with_reducible refine .guard (fun hb =>?_) (fun hb =>?_) <;>try simp only[hb])|refine J.aE (by decide +kernel) rfl fun K hK =>?_|refine .flat _ (u3 _) rfl ?_|(refine .ay [0,1,2,5] hK ?_;clear hK K)|(with_reducible refine .done (hK _ ?_);clear hK K)|refine J.of rfl ?_|(with_reducible refine ai.aB (fun h =>?_) (fun h =>?_) <;>try simp only[h])) <;>try simp only[aF,R,simprocAttr])
 all_goals clear R
 all_goals simp_all
theorem alN{x:ao}(h:ky x=true):b9 0 6 x.kind=true:=by
 simp only[ky] at h;simp only[b9,zz4,decide_eq_true_eq]
 repeat' split at h
 all_goals first | omega | (simp at h;omega)
def sP(x:ao):Bool:=b9 0 100000 x.known&&b9 0 100000 x.day
def qi(x:ao):Bool:=mR x.cm&&(sP x&&(b9 0 6 x.kind&&decide (x=mE x)))
theorem Lo(x:ao):iv x=(qi x&&ky x):=by
 simp only[iv,qi,sP];cases h:ky x
 ·simp
 ·simp[alN h,Bool.and_comm,Bool.and_left_comm,Bool.and_assoc]
theorem Ao(x:ao):aw Tryz.prog 63 [enc x] (enc (if iv x then (0:Int) else 40)):=by
 refine aw.bj Tryz.func63 TP VV Yg (zz0 rfl) (fun hwf W0 D0 E1 =>?_);simp only[CE,NC,bg];clear hwf;refine .aq (by decide +kernel) fun K hK =>?_;simp only[Jy,U,simprocAttr]
 try simp only[aJ,U,simprocAttr]
 refine .done (hK _ ?_);clear hK K;refine J.seq (J.oq (ar [(1,.ptr 1 []),(3,.bool (sP x))] [(1,.box (enc x))]) ?_ fun B hB=>J.sub hB ?_)
 ·have R:=u8 @aJ @U
  repeat' ((first |(with_reducible refine .guard (fun hb =>?_) (fun hb =>?_) <;>try simp only[hb])|refine J.aE (by decide +kernel) rfl fun K hK =>?_|refine .flat _ (ou _ _ _) rfl ?_|(refine .ay [0,1,2,3,4,5,6,34,37,64,68,76,77,98,102,107,113] hK ?_;clear hK K)|(with_reducible refine .done (hK _ ?_);clear hK K)|refine J.of rfl ?_|(with_reducible refine ai.aB (fun h =>?_) (fun h =>?_) <;>try simp only[h])) <;>try simp only[aF,R,simprocAttr])
  all_goals clear R
  all_goals
   refine az.bL ?_ ?_ ?_ ?_ <;>simp[*,aO,bC,bx,aZ,al,aP,b8,I.only,ah.only,bh,sP]
 refine J.seq (J.seq (J.oq (ar [(1,.ptr 1 []),(34,.bool !(qi x))] [(1,.box (enc x))]) ?_ fun B hB=>J.sub hB ?_))
 ·have R:=u8 @aJ @U
  repeat' ((first |(with_reducible refine .guard (fun hb =>?_) (fun hb =>?_) <;>try simp only[hb])|refine J.aE (by decide +kernel) rfl fun K hK =>?_|refine .flat _ (ou _ _ _) rfl ?_|refine .flat _ (z7 _) rfl ?_|refine .lead _ (QW _) ?_|(refine .ay [0,1,2,3,4,5,6,34,37,64,68,76,77,98,102,107,113] hK ?_;clear hK K)|(with_reducible refine .done (hK _ ?_);clear hK K)|refine J.of rfl ?_|(with_reducible refine ai.aB (fun h =>?_) (fun h =>?_) <;>try simp only[h])) <;>try simp only[aF,R,simprocAttr])
  all_goals clear R
  all_goals
   refine az.bL ?_ ?_ ?_ ?_ <;>simp[*,aO,bC,bx,aZ,al,aP,b8,I.only,ah.only,bh,qi]
 refine J.bP ?_;simp only[ai,U,simprocAttr];refine ⟨fun h =>?_,fun h =>?_⟩
 ·have R:=u8 @aJ @U
  repeat' ((first |(with_reducible refine .guard (fun hb =>?_) (fun hb =>?_) <;>try simp only[hb])|refine J.aE (by decide +kernel) rfl fun K hK =>?_|(refine .ay [0,1,2,3,4,5,6,34,37,64,68,76,77,98,102,107,113] hK ?_;clear hK K)|(with_reducible refine .done (hK _ ?_);clear hK K)|refine J.of rfl ?_|(with_reducible refine ai.aB (fun h =>?_) (fun h =>?_) <;>try simp only[h])) <;>try simp only[aF,R,simprocAttr])
  all_goals clear R
  simp at h;simp[Lo,h]
 refine J.skip ?_;try simp only[au,simprocAttr]
 have hp:qi x=true:=by simpa using h
 have hr:0≤x.kind∧x.kind≤6:=by simp[qi,b9] at hp;omega
 have ho:iv x=ky x:=by rw[Lo,hp];rfl
 rw[ho];obtain hk | hk | hk | hk | hk | hk | hk:x.kind=0∨x.kind=1∨x.kind=2∨x.kind=3∨x.kind=4∨x.kind=5∨x.kind=6:=by omega
 all_goals
  have R:=u8 @hk (u8 @aJ @U)
  repeat' ((first |(with_reducible refine .guard (fun hb =>?_) (fun hb =>?_) <;>try simp only[hb])|refine J.aE (by decide +kernel) rfl fun K hK =>?_|refine .flat _ (ou _ _ _) rfl ?_|refine .flat _ (z7 _) rfl ?_|refine .flat _ (zX _) rfl ?_|(refine .ay [0,1,2,3,4,5,6,34,37,64,68,76,77,98,102,107,113] hK ?_;clear hK K)|(with_reducible refine .done (hK _ ?_);clear hK K)|refine J.of rfl ?_|(with_reducible refine ai.aB (fun h =>?_) (fun h =>?_) <;>try simp only[h])) <;>try simp only[aF,R,simprocAttr])
  all_goals clear R
 all_goals (clear hp hr;simp_all[ky];try omega)
theorem DF(a b:Item):decide (lL a b<0)=before a b:=by
 simp only[lL,me,jI,before]
 repeat' split
 all_goals simp_all
 all_goals omega
theorem WG(a b:Item):(lL a b==0)=decide (a=b):=by
 rw[Bool.eq_iff_iff,beq_iff_eq,decide_eq_true_eq,Item.Er];simp only[lL,me,jI]
 repeat' split
 all_goals (simp_all <;>try omega)
theorem vy{a b c:Item}(h:before a b=true)(k:before b c=true):before a c=true:=by
 simp only[before,Bool.or_eq_true,decide_eq_true_eq,zz4] at *;omega
theorem AU(a:Item):before a a=false:=by simp[before]
theorem DG(a b:Item):decide (0≤lL a b) = !before a b:=by
 rw[←DF];by_cases h:lL a b<0
 ·have:¬ 0≤lL a b:=by omega
  simp[h,this]
 ·have:0≤lL a b:=by omega
  simp[h,this]
theorem gC{l:List ao}{i:Nat}(h:i<l.length):l[i]=ab l i:=by simp[ab,h]
theorem hE{l:List ao}{i:Nat}(h:i<l.length)(A:ae):jl A 17 (i:Int) (enc l)=some (.ref (enc (ab l i))):=by
 rw[eh 17 h rfl,gC h]
theorem eR{i n:Nat}(h:i<n):decide ((i:Int)<(n:Int))=true:=by simp;omega
theorem eT{i n:Nat}(h:¬ i<n):decide ((i:Int)<(n:Int))=false:=by simp;omega
theorem r5{n:Nat}(h:n≤9223372036854775807):IntKind.i64.wrap (n:Int)=(n:Int):=cL _ (by omega) (by omega)
theorem dX{i:Nat}(h:i<9223372036854775807):IntKind.i64.wrap ((i:Int)+1)=((i+1:Nat):Int):=by rw[cL _ (by omega) (by omega)];rfl
theorem Pj{i:Nat}(h:0<i)(h2:i<9223372036854775807):IntKind.i64.wrap ((i:Int)-1)=((i-1:Nat):Int):=by rw[cL _ (by omega) (by omega)];omega
theorem n9{l:List ao}(h:dF l=true):l.length≤60:=by simp[dF] at h;exact h.1
theorem yH{l:List ao}(h:dF l=true){i:Nat}(hi:i<l.length):iE l i=true:=by
 simp only[dF,zz4,zx9,zv2] at h;exact h.2 i hi
theorem ue{l:List ao}{i:Nat}(hi:i<l.length)(h:iE l i=false):dF l=false:=by
 cases hk:dF l with
 |false=>rfl
 |true=>rw[yH hk hi] at h;cases h
theorem yJ{l:List ao}(hl:l.length≤60)(h:∀ i,i<l.length→iE l i=true):dF l=true:=by
 simp only[dF,zz4,zx9,zv2,decide_eq_true_eq];exact ⟨hl,h⟩
theorem uf{l:List ao}(h:dF l=true){i:Nat}(hi:i<l.length):iv (ab l i)=true:=by
 have:=yH h hi;simp only[iE,zz4] at this;exact this.1
theorem Lp{l:List ao}(h:dF l=true):∀ {j i:Nat},i<j→j<l.length→before (ab l i).cm (ab l j).cm=true
 |0,i,hij,_=>by omega
 |j+1,i,hij,hj=>by
  have h1:=yH h hj;simp only[iE,zz4,Bool.or_eq_true,decide_eq_true_eq,Nat.add_sub_cancel] at h1;have h2:=h1.2.resolve_left (by omega);by_cases e:i=j
  ·rw[e];exact h2
  ·exact vy (Lp h (j:=j) (by omega) (by omega)) h2
theorem rA{p:Nat→Prop}{i:Nat}(h:∀ j,j<i→p j)(hi:p i):∀ j,j<i+1→p j:=fun j hj=>by
 by_cases e:j=i
 ·exact e▸hi
 ·exact h j (by omega)
theorem QO(l:List ao):aw Tryz.prog 64 [enc l] (enc (if dF l then (0:Int) else 41)):=by
 refine aw.bj Tryz.func64 TQ VW Yh (zz0 rfl) (fun hwf W0 D0 E1 =>?_);simp only[CF,ND,bg];have hlen:l.length≤maxLen:=((kL l).1 hwf.1).1;simp only[maxLen] at hlen;clear hwf;refine .aq (by decide +kernel) fun K hK =>?_;simp only[Jz,U,simprocAttr];refine .done (hK _ ?_);clear hK K;refine J.seq (J.seq ?_);refine .bK (by decide +kernel) fun K hK =>?_;simp only[JA,U,simprocAttr]
 try simp only[aX,U,simprocAttr]
 refine .done (hK _ ?_);clear hK K;try simp only[au]
 refine J.bP ?_;simp only[ai,U,simprocAttr];refine ⟨fun h =>?_,fun h =>?_⟩
 ·have R:=u8 @aJ @U
  repeat' ((first |(with_reducible refine .guard (fun hb =>?_) (fun hb =>?_) <;>try simp only[hb])|refine J.aE (by decide +kernel) rfl fun K hK =>?_|(refine .ay [0,2,3,4,7,8,9,10,11,33] hK ?_;clear hK K)|(with_reducible refine .done (hK _ ?_);clear hK K)|refine J.of rfl ?_|(with_reducible refine ai.aB (fun h =>?_) (fun h =>?_) <;>try simp only[h])) <;>try simp only[aF,R,simprocAttr])
  all_goals clear R
  have:¬ l.length≤60:=by simp at h;omega
  simp[dF,this]
 have hl6:l.length≤60:=by simp at h;omega
 refine J.skip ?_;try simp only[au,simprocAttr]
 refine J.seq (J.seq ?_);refine .bK (by decide +kernel) fun K hK =>?_;simp only[JB,U,simprocAttr]
 try simp only[aX,U,simprocAttr]
 refine .done (hK _ ?_);clear hK K;try simp only[au]
 refine J.block (J.loop (fun i:Nat=>ar [(0,enc l),(8,enc l),(9,.int .i64 l.length),(10,.int .i64 i)] []) (fun i=>i≤l.length∧∀ j,j<i→iE l j=true) (fun i=>l.length-i) 0 ⟨by omega,fun k h=>by omega⟩ ?_ (fun i hi =>?_))
 ·refine az.bL ?_ ?_ ?_ ?_ <;>simp[aO,bC,bx,aZ,aP,I.only,bh]
 by_cases hlt:i<l.length
 ·have he:=hE hlt;have hc:=eR hlt;have hw:=dX (i:=i) (by omega);by_cases h0:i=0
  ·have hc0:decide ((0:Int)<(i:Int))=false:=by simp;omega
   have R:=u8 @he (u8 @hc (u8 @hw (u8 @hc0 (u8 @DG (u8 @aJ @U)))))
   repeat' ((first |(with_reducible refine .guard (fun hb =>?_) (fun hb =>?_) <;>try simp only[hb])|refine J.aE (by decide +kernel) rfl fun K hK =>?_|refine .flat _ (u3 _) rfl ?_|refine .flat _ (u4 _ _) rfl ?_|(refine .ay [0,2,3,4,7,8,9,10,11,33] hK ?_;clear hK K)|(with_reducible refine .done (hK _ ?_);clear hK K)|refine J.of rfl ?_|(with_reducible refine ai.aB (fun h =>?_) (fun h =>?_) <;>try simp only[h])) <;>try simp only[aF,R,simprocAttr])
   all_goals clear R
   all_goals first
    |(refine ⟨i+1,⟨by omega,rA hi.2 (by simp_all[iE])⟩,by omega,?_⟩;(refine az.bL ?_ ?_ ?_ ?_ <;>simp[aO,bC,bx,aZ,aP,I.only,bh]))
    |(rw[ue hlt (by simp_all[iE])];rfl)
  ·have he2:=hE (l:=l) (i:=i-1) (by omega);have hw2:=Pj (i:=i) (by omega) (by omega);have hc0:decide ((0:Int)<(i:Int))=true:=by simp;omega
   have R:=u8 @he (u8 @hc (u8 @hw (u8 @he2 (u8 @hw2 (u8 @hc0 (u8 @DG (u8 @aJ @U)))))))
   repeat' ((first |(with_reducible refine .guard (fun hb =>?_) (fun hb =>?_) <;>try simp only[hb])|refine J.aE (by decide +kernel) rfl fun K hK =>?_|refine .flat _ (u3 _) rfl ?_|refine .flat _ (u4 _ _) rfl ?_|(refine .ay [0,2,3,4,7,8,9,10,11,33] hK ?_;clear hK K)|(with_reducible refine .done (hK _ ?_);clear hK K)|refine J.of rfl ?_|(with_reducible refine ai.aB (fun h =>?_) (fun h =>?_) <;>try simp only[h])) <;>try simp only[aF,R,simprocAttr])
   all_goals clear R
   all_goals first
    |(refine ⟨i+1,⟨by omega,rA hi.2 (by simp_all[iE])⟩,by omega,?_⟩;(refine az.bL ?_ ?_ ?_ ?_ <;>simp[aO,bC,bx,aZ,aP,I.only,bh]))
    |(rw[ue hlt (by simp_all[iE])];rfl)
 ·have hc:=eT hlt;have R:=u8 @hc (u8 @aJ @U)
  repeat' ((first |(with_reducible refine .guard (fun hb =>?_) (fun hb =>?_) <;>try simp only[hb])|refine J.aE (by decide +kernel) rfl fun K hK =>?_|(refine .ay [0,2,3,4,7,8,9,10,11,33] hK ?_;clear hK K)|(with_reducible refine .done (hK _ ?_);clear hK K)|refine J.of rfl ?_|(with_reducible refine ai.aB (fun h =>?_) (fun h =>?_) <;>try simp only[h])) <;>try simp only[aF,R,simprocAttr])
  all_goals clear R
  rw[yJ hl6 fun j hj=>hi.2 j (by omega)];rfl
theorem vf(l:List ao):aw Tryz.prog 65 [enc l] (enc (if dF l then (0:Int) else 41)):=by
 refine aw.bj Tryz.func65 TR VX Yi (zz0 rfl) (fun hwf W0 D0 E1 =>?_);simp only[CG,NF,bg];have hlen:l.length≤maxLen:=((kL l).1 hwf.1).1;simp only[maxLen] at hlen;clear hwf;refine .aq (by decide +kernel) fun K hK =>?_;simp only[JC,U,simprocAttr];refine .done (hK _ ?_);clear hK K;refine J.seq (J.seq ?_);refine .bK (by decide +kernel) fun K hK =>?_;simp only[JD,U,simprocAttr]
 try simp only[aX,U,simprocAttr]
 refine .done (hK _ ?_);clear hK K;try simp only[au]
 refine J.bP ?_;simp only[ai,U,simprocAttr];refine ⟨fun h =>?_,fun h =>?_⟩
 ·have R:=u8 @aJ @U
  repeat' ((first |(with_reducible refine .guard (fun hb =>?_) (fun hb =>?_) <;>try simp only[hb])|refine J.aE (by decide +kernel) rfl fun K hK =>?_|(refine .ay [0,2,3,6,10,37] hK ?_;clear hK K)|(with_reducible refine .done (hK _ ?_);clear hK K)|refine J.of rfl ?_|(with_reducible refine ai.aB (fun h =>?_) (fun h =>?_) <;>try simp only[h])) <;>try simp only[aF,R,simprocAttr])
  all_goals clear R
  have:¬ l.length≤60:=by simp at h;omega
  simp[dF,this]
 have hl6:l.length≤60:=by simp at h;omega
 refine J.skip ?_;try simp only[au,simprocAttr]
 refine J.seq (J.seq ?_);refine .bK (by decide +kernel) fun K hK =>?_;simp only[JE,U,simprocAttr]
 try simp only[da,aX,mb,ev,U,simprocAttr]
 refine .done (hK _ ?_);clear hK K;try simp only[au]
 refine J.block (J.loop (fun i:Nat=>ar [(0,enc l),(3,.int .i64 i)] []) (fun i=>i≤l.length∧∀ j,j<i→iE l j=true) (fun i=>l.length-i) 0 ⟨by omega,fun k h=>by omega⟩ ?_ (fun i hi =>?_))
 ·refine az.bL ?_ ?_ ?_ ?_ <;>simp[aO,bC,bx,aZ,aP,I.only,bh]
 by_cases hlt:i<l.length
 ·have he:=hE hlt;have hc:=eR hlt;have hw:=dX (i:=i) (by omega);have hb0:∀ b:Bool,((if b=true then (0:Int) else 40) != 0) = !b:=fun b=>by cases b <;>rfl
  by_cases h0:i=0
  ·have hc0:decide ((0:Int)<(i:Int))=false:=by simp;omega
   have R:=u8 @he (u8 @hc (u8 @hw (u8 @hc0 (u8 @hb0 (u8 @aX (u8 @aJ @U))))))
   repeat' ((first |(with_reducible refine .guard (fun hb =>?_) (fun hb =>?_) <;>try simp only[hb])|refine J.aE (by decide +kernel) rfl fun K hK =>?_|refine .flat _ (Ao _) rfl ?_|refine .flat _ (z8 _ _) rfl ?_|(refine .ay [0,2,3,6,10,37] hK ?_;clear hK K)|(with_reducible refine .done (hK _ ?_);clear hK K)|refine J.of rfl ?_|(with_reducible refine ai.aB (fun h =>?_) (fun h =>?_) <;>try simp only[h])) <;>try simp only[aF,R,simprocAttr])
   all_goals clear R
   all_goals first
    |(refine ⟨i+1,⟨by omega,rA hi.2 (by simp_all[iE])⟩,by omega,?_⟩;(refine az.bL ?_ ?_ ?_ ?_ <;>simp[aO,bC,bx,aZ,aP,I.only,bh]))
    |(rw[ue hlt (by simp_all[iE])];rfl)
  ·have he2:=hE (l:=l) (i:=i-1) (by omega);have hw2:=Pj (i:=i) (by omega) (by omega);have hc0:decide ((0:Int)<(i:Int))=true:=by simp;omega
   have R:=u8 @he (u8 @hc (u8 @hw (u8 @he2 (u8 @hw2 (u8 @hc0 (u8 @hb0 (u8 @aX (u8 @aJ @U))))))))
   repeat' ((first |(with_reducible refine .guard (fun hb =>?_) (fun hb =>?_) <;>try simp only[hb])|refine J.aE (by decide +kernel) rfl fun K hK =>?_|refine .flat _ (Ao _) rfl ?_|refine .flat _ (z8 _ _) rfl ?_|(refine .ay [0,2,3,6,10,37] hK ?_;clear hK K)|(with_reducible refine .done (hK _ ?_);clear hK K)|refine J.of rfl ?_|(with_reducible refine ai.aB (fun h =>?_) (fun h =>?_) <;>try simp only[h])) <;>try simp only[aF,R,simprocAttr])
   all_goals clear R
   all_goals first
    |(refine ⟨i+1,⟨by omega,rA hi.2 (by simp_all[iE])⟩,by omega,?_⟩;(refine az.bL ?_ ?_ ?_ ?_ <;>simp[aO,bC,bx,aZ,aP,I.only,bh]))
    |(rw[ue hlt (by simp_all[iE])];rfl)
 ·have hc:=eT hlt;have R:=u8 @hc (u8 @aX (u8 @aJ @U))
  repeat' ((first |(with_reducible refine .guard (fun hb =>?_) (fun hb =>?_) <;>try simp only[hb])|refine J.aE (by decide +kernel) rfl fun K hK =>?_|(refine .ay [0,2,3,6,10,37] hK ?_;clear hK K)|(with_reducible refine .done (hK _ ?_);clear hK K)|refine J.of rfl ?_|(with_reducible refine ai.aB (fun h =>?_) (fun h =>?_) <;>try simp only[h])) <;>try simp only[aF,R,simprocAttr])
  all_goals clear R
  rw[yJ hl6 fun j hj=>hi.2 j (by omega)];rfl
def oK(l:List ao)(a:Item):Int:=if jh l a then (x1 l a:Int) else -1
theorem Kt{l:List ao}{a:Item}{i:Nat}(hi:i<l.length)(h:(ab l i).cm=a):jh l a=true:=by
 simp only[jh,List.any_eq_true,decide_eq_true_eq];exact ⟨ab l i,by rw[←gC hi];exact zx8 _,h⟩
theorem alm{l:List ao}{a:Item}(h:∀ i,i<l.length→(ab l i).cm≠a):jh l a=false:=by
 cases hk:jh l a with
 |false=>rfl
 |true =>
  simp only[jh,List.any_eq_true,decide_eq_true_eq] at hk;obtain ⟨x,hx,rfl⟩:=hk;obtain ⟨i,hi,rfl⟩:=List.getElem_of_mem hx;exact absurd (by rw[gC hi]) (h i hi)
theorem Ky{l:List ao}{a:Item}{i:Nat}(hi:i<l.length)(h:(ab l i).cm=a)(h2:∀ j,j<i→(ab l j).cm≠a):x1 l a=i:=by
 simp only[x1];rw[List.findIdx_eq hi];refine ⟨by rw[gC hi];simpa using h,fun j hj =>?_⟩;rw[gC (Nat.lt_trans hj hi)];simpa using h2 j hj
theorem alu{l:List ao}{a:Item}{i:Nat}(hi:i<l.length)(h:(ab l i).cm=a)(h2:∀ j,j<i→(ab l j).cm≠a):oK l a=i:=by
 simp only[oK,Kt hi h,if_true,Ky hi h h2]
theorem alv{l:List ao}{a:Item}(h:∀ i,i<l.length→(ab l i).cm≠a):oK l a=-1:=by
 simp[oK,alm h]
theorem PA(l:List ao)(a:Item):aw Tryz.prog 110 [enc l,enc a] (enc (oK l a)):=by
 refine aw.bj Tryz.func110 Sr Uw WQ (zz0 rfl) (fun hwf W0 D0 E1 =>?_);simp only[Bd,L9,bg,zz3];have hlen:l.length≤maxLen:=((kL l).1 hwf.1).1;simp only[maxLen] at hlen;clear hwf;refine .aq (by decide +kernel) fun K hK =>?_;simp only[Fx,U,simprocAttr]
 try simp only[aJ,U,simprocAttr]
 refine .done (hK _ ?_);clear hK K;refine J.seq (J.seq ?_);refine .bK (by decide +kernel) fun K hK =>?_;simp only[Fy,U,simprocAttr];refine .done (hK _ ?_);clear hK K;try simp only[au]
 refine J.block (J.loop (fun i:Nat=>ar [(0,enc l),(3,.ptr 3 []),(5,.int .i64 i)] [(3,.box (enc a))]) (fun i=>i≤l.length∧∀ j,j<i→(ab l j).cm≠a) (fun i=>l.length-i) 0 ⟨by omega,fun k h=>by omega⟩ ?_ (fun i hi =>?_))
 ·refine az.bL ?_ ?_ ?_ ?_ <;>simp[aO,bC,bx,aZ,al,aP,b8,I.only,ah.only,bh]
 by_cases hlt:i<l.length
 ·have he:=hE hlt;have hc:=eR hlt;have hw:=dX (i:=i) (by omega);have R:=u8 @he (u8 @hc (u8 @hw (u8 @aX (u8 @aJ @U))))
  repeat' ((first |(with_reducible refine .guard (fun hb =>?_) (fun hb =>?_) <;>try simp only[hb])|refine J.aE (by decide +kernel) rfl fun K hK =>?_|(refine .ay [0,1,3,4,5,9,18] hK ?_;clear hK K)|(with_reducible refine .done (hK _ ?_);clear hK K)|refine J.of rfl ?_|(with_reducible refine ai.aB (fun h =>?_) (fun h =>?_) <;>try simp only[h])) <;>try simp only[aF,R,simprocAttr])
  all_goals clear R
  all_goals first
   |(refine ⟨i+1,⟨by omega,rA hi.2 (by simpa using h)⟩,by omega,?_⟩;(refine az.bL ?_ ?_ ?_ ?_ <;>simp[aO,bC,bx,aZ,al,aP,b8,I.only,ah.only,bh]))
   |(rw[alu hlt (by simpa using h) hi.2])
 ·have hc:=eT hlt;have R:=u8 @hc (u8 @aX (u8 @aJ @U))
  repeat' ((first |(with_reducible refine .guard (fun hb =>?_) (fun hb =>?_) <;>try simp only[hb])|refine J.aE (by decide +kernel) rfl fun K hK =>?_|(refine .ay [0,1,3,4,5,9,18] hK ?_;clear hK K)|(with_reducible refine .done (hK _ ?_);clear hK K)|refine J.of rfl ?_|(with_reducible refine ai.aB (fun h =>?_) (fun h =>?_) <;>try simp only[h])) <;>try simp only[aF,R,simprocAttr])
  all_goals clear R
  rw[alv fun j hj=>hi.2 j (by omega)]
def bN(k:Nat)(ws:List Int):List (Nat×ah):=[(k,.box (.agg (ws.map enc)))]
theorem gj(p:Nat→Bool)(l:List Int):(I.agg (l.map enc)).only p=true:=by simp only[I.only];exact dn p l
theorem ame(l:List Int):(I.agg (l.map enc)).c7=true:=by simp only[I.c7];exact tF l
theorem mn{ws:List Int} : ∀ m,al (bN 1000000 ws) m=true→1000000≤m:=fun m hm=>by rw[cH.1 hm];exact zz9 _
def kK(ws:List Int)(i j:Nat):List Int:=(ws.set i (ws.getD j 0)).set j (ws.getD i 0)
theorem O7{A B C:List Int}{x y:Int}{i j:Nat}(hi:A.length=i)(hj:A.length+1+B.length=j):kK (A++x::B++y::C) i j=A++y::B++x::C:=by
 subst hi hj;have e1:(A++x::B++y::C).getD A.length 0=x:=by simp[zz2,zz6]
 have e2:(A++x::B++y::C).getD (A.length+1+B.length) 0=y:=by
  rw[zz2,zw0 (by simp;omega)];simp[];have:A.length+1+B.length-(A.length+(B.length+1))=0:=by omega
  rw[this];rfl
 simp only[kK,e1,e2];rw[zz6,List.set_append_right _ _ (zz9 _),Nat.sub_self,zy0,List.set_cons_zero];rw[List.set_append_right _ _ (by omega)];have:A.length+1+B.length-A.length=(B.length)+1:=by omega
 rw[this,List.set_cons_succ,List.set_append_right _ _ (zz9 _),Nat.sub_self,List.set_cons_zero];simp
theorem hJ{n i:Nat}(h:i<n)(fs:List I):jn 1000000 [] 1 0 n 1 (i:Int) (some fs)=some (.ptr 1000000 [i]):=by
 have:=nT (m:=1000000) (sz:=1) (lo:=0) (l:=n) (i:=i) (fs:=fs) h
 rwa [zz3] at this
theorem kM(x y:Nat)(h:x+y<9223372036854775807):IntKind.i64.wrap ((x:Int)+(y:Int))=((x+y:Nat):Int):=by rw[cL _ (by omega) (by omega)];omega
theorem iZ{x y:Nat}(h:y≤x)(hx:x<9223372036854775807):IntKind.i64.wrap ((x:Int)-(y:Int))=((x-y:Nat):Int):=by rw[cL _ (by omega) (by omega)];omega
def kj(p x y z q:List Int)(i:Nat):List Int:=p++(z.take i++x.drop i)++y++(x.take i++z.drop i)++q
theorem apx{p x y z q:List Int}{i a b:Nat}(hx:i<x.length)(hz:z.length=x.length)(ha:p.length=a)(hb:a+x.length+y.length=b):kK (kj p x y z q i) (a+i) (b+i)=kj p x y z q (i+1):=by
 have e1:kj p x y z q i=(p++z.take i)++x[i]::(x.drop (i+1)++y++x.take i)++z[i]::(z.drop (i+1)++q):=by
  simp only[kj];rw[zv4 hx,zv4 (l:=z) (by omega)];simp only[zz6,zy0]
 have e2:kj p x y z q (i+1)=(p++z.take i)++z[i]::(x.drop (i+1)++y++x.take i)++x[i]::(z.drop (i+1)++q):=by
  simp only[kj];rw[zz7 hx,zz7 (l:=z) (by omega)];simp only[zz6,zy0,zy5]
 rw[e1,e2];refine O7 ?_ ?_
 ·simp;omega
 ·simp;omega
theorem apw(p x y z q:List Int)(i:Nat)(hz:z.length=x.length)(hi:i≤x.length):(kj p x y z q i).length=p.length+x.length+y.length+x.length+q.length:=by
 simp only[kj,zz5,zy4,zy9];omega
def zm(ws:List Int):cR:=fun r os'=>r=.tuple []∧os'=bN 1000000 ws
theorem od{ts:List (Nat×I)}{ws ws':List Int}{os:List (Nat×ah)}{post:cR}(hl:ak os 1000000=some (.box (.agg (ws.map enc))))(he:ws=ws')(hp:post (.tuple []) (bN 1000000 ws')):lB [] post (ar ts os):=by
 subst he;exact ⟨bN 1000000 ws,[],jK hl (fun p=>gj p _),trivial,hp⟩
theorem ve(p x y z q:List Int)(a b n k:Nat)(f:I)(hz:z.length=x.length)(ha:p.length=a)(hb:a+x.length+y.length=b)(hk:x.length=k)(hn:b+k≤n)(hN:n≤1000) :
  cG Tryz.prog 216 [.view 1000000 [] 1 0 n,enc (a:Int),enc (b:Int),enc (k:Int),f] (bN 1000000 (p++x++y++z++q)) (zm (p++z++y++x++q)):=by
 refine cG.bj Tryz.func216 TF VL X6 (zz0 rfl) (zz0 rfl) mn (fun hwf W0 D0 E1 =>?_);simp only[Cu,Ns,bg,zz3,Nat.reduceAdd];clear hwf;refine .aq (by decide +kernel) fun K hK =>?_;simp only[Jx,U,simprocAttr];refine .done (hK _ ?_);clear hK K;refine J.block (J.loop (fun i:Nat=>ar [(0,.view 1000000 [] 1 0 n),(1,.int .i64 a),(2,.int .i64 b),(3,.int .i64 k),(10,.int .i64 i)] (bN 1000000 (kj p x y z q i))) (fun i=>i≤k) (fun i=>k-i) 0 (by omega) ?_ (fun i hi =>?_))
 ·have e:kj p x y z q 0=p++x++y++z++q:=by simp[kj]
  rw[e];simp only[bN];refine az.bL ?_ ?_ ?_ ?_ <;>simp[aO,bC,bx,aZ,al,aP,b8,I.only,ah.only,dn,gm]
 by_cases hlt:i<k
 ·have hc:=eR hlt;have hw:=dX (i:=i) (by omega);have w1:=kM a i (by omega);have w2:=kM b i (by omega);have hst:=apx (p:=p) (q:=q) (i:=i) (by omega) hz ha hb;have hl:=apw p x y z q i hz (by omega);simp only[bN];generalize kj p x y z q i=ws at hst hl;have v1:=hJ (n:=n) (i:=a+i) (by omega);have v2:=hJ (n:=n) (i:=b+i) (by omega);have l1:=fJ (xs:=ws) (i:=a+i) (by omega);have l2:=fJ (xs:=ws) (i:=b+i) (by omega);have s1:=fun (A:ae) v u rest=>mw (A:=A) (n:=1000000) (xs:=ws) (i:=a+i) (by omega) v u rest;obtain ⟨ws2,hws2⟩:∃ ws2,ws2=ws.set (a+i) (ws.getD (b+i) 0):=⟨_,rfl⟩
  have s2:=fun (A:ae) v u rest=>mw (A:=A) (n:=1000000) (xs:=ws2) (i:=b+i) (by rw[hws2];simp;omega) v u rest;have l3:=fJ (xs:=ws2) (i:=b+i) (by rw[hws2];simp;omega);have R:=u8 @hc (u8 @hw (u8 @w1 (u8 @w2 (u8 @v1 (u8 @v2 (u8 @l1 (u8 @l2 (u8 @s1 (u8 @s2 (u8 @l3 (u8 @cK (u8 @aJ @U))))))))))))
  repeat' ((first |(with_reducible refine .guard (fun hb =>?_) (fun hb =>?_) <;>try simp only[hb])|refine J.aE (by decide +kernel) rfl fun K hK =>?_|(refine .ay [0,1,2,3,10,13] hK ?_;clear hK K)|(with_reducible refine .done (hK _ ?_);clear hK K)|refine J.of rfl ?_|(with_reducible refine ai.aB (fun h =>?_) (fun h =>?_) <;>try simp only[h])) <;>try simp only[aF,R,←hws2,simprocAttr])
  all_goals clear R
  refine ⟨i+1,by omega,by omega,?_⟩;rw[←hst];simp only[kK,←hws2];generalize ws2.set _ _=ws3;refine az.bL ?_ ?_ ?_ ?_ <;>simp[aO,bC,bx,aZ,al,aP,b8,I.only,ah.only,dn]
 ·have hc:=eT hlt;have he:i=k:=by omega
  subst he;have R:=u8 @hc (u8 @aJ @U)
  repeat' ((first |(with_reducible refine .guard (fun hb =>?_) (fun hb =>?_) <;>try simp only[hb])|refine J.aE (by decide +kernel) rfl fun K hK =>?_|(refine .ay [0,1,2,3,10,13] hK ?_;clear hK K)|(with_reducible refine .done (hK _ ?_);clear hK K)|refine J.of rfl ?_|(with_reducible refine ai.aB (fun h =>?_) (fun h =>?_) <;>try simp only[h])) <;>try simp only[aF,R,simprocAttr])
  all_goals clear R
  rw[mi];refine od rfl ?_ ⟨rfl,rfl⟩;have h1:z.take i=z:=zw1 (by omega);have h2:x.take i=x:=zw1 (by omega);have h3:z.drop i=[]:=zw3 (by omega);have h4:x.drop i=[]:=zw3 (by omega);simp only[kj,h1,h2,h3,h4,zx5]
end Go.Proofs.YtcldiigclhgafaaGreat
namespace Go.Proofs.YtcldiigclhgafaaGreat
open Go Go.Abs Go.Shelf
open Go.Abs.Enc (enc)
def al3:Go.Shelf.Ren:=⟨fun | 189=>107 | 125=>148 | 257=>147 | 128=>188 | 129=>189 | 294=>179 | 295=>180 | 296=>181 | 297=>182 | 298=>183 | 299=>184 | 216=>185 | 300=>186 | 301=>187 | 328=>205 | 329=>206 | 330=>207 | 331=>208 | 332=>209 | 215=>194 | 343=>214 | n=>n,fun | 28=>29 | 3=>3 | 46=>193 | 0=>0 | 51=>217 | 53=>219 | 4=>4 | 183=>210 | 182=>209 | 131=>150 | 5=>5 | 9=>9 | 218=>230 | 222=>234 | 228=>236 | 229=>237 | n=>n,fun | n=>n⟩
theorem KW:Go.Proofs.Lays.n189 Tryz.prog al3 := {
 mixed:=by kernel_rfl
 f125:=Tryz.func148.trans (congrArg some (by kernel_rfl))
 f128:=Tryz.func188.trans (congrArg some (by kernel_rfl))
 f129:=Tryz.func189.trans (congrArg some (by kernel_rfl))
 f189:=Tryz.func107.trans (congrArg some (by kernel_rfl))
 f215:=Tryz.func194.trans (congrArg some (by kernel_rfl))
 f216:=Tryz.func185.trans (congrArg some (by kernel_rfl))
 f257:=Tryz.func147.trans (congrArg some (by kernel_rfl))
 f294:=Tryz.func179.trans (congrArg some (by kernel_rfl))
 f295:=Tryz.func180.trans (congrArg some (by kernel_rfl))
 f296:=Tryz.func181.trans (congrArg some (by kernel_rfl))
 f297:=Tryz.func182.trans (congrArg some (by kernel_rfl))
 f298:=Tryz.func183.trans (congrArg some (by kernel_rfl))
 f299:=Tryz.func184.trans (congrArg some (by kernel_rfl))
 f300:=Tryz.func186.trans (congrArg some (by kernel_rfl))
 f301:=Tryz.func187.trans (congrArg some (by kernel_rfl))
 f328:=Tryz.func205.trans (congrArg some (by kernel_rfl))
 f329:=Tryz.func206.trans (congrArg some (by kernel_rfl))
 f330:=Tryz.func207.trans (congrArg some (by kernel_rfl))
 f331:=Tryz.func208.trans (congrArg some (by kernel_rfl))
 f332:=Tryz.func209.trans (congrArg some (by kernel_rfl))
 f343:=Tryz.func214.trans (congrArg some (by kernel_rfl))
 t0:=Tryz.underlying0
 a0:=Tryz.isAgg0
 z0:=Tryz.sizeOf0
 v0:=Tryz.zeroValue0
 t3:=Tryz.underlying3
 a3:=Tryz.isAgg3
 z3:=Tryz.sizeOf3
 v3:=Tryz.zeroValue3
 t4:=Tryz.underlying4
 a4:=Tryz.isAgg4
 z4:=Tryz.sizeOf4
 v4:=Tryz.zeroValue4
 t5:=Tryz.underlying5
 a5:=Tryz.isAgg5
 z5:=Tryz.sizeOf5
 v5:=Tryz.zeroValue5
 t9:=Tryz.underlying9
 a9:=Tryz.isAgg9
 z9:=Tryz.sizeOf9
 v9:=Tryz.zeroValue9
 t28:=Tryz.underlying29
 a28:=Tryz.isAgg29
 z28:=Tryz.sizeOf29
 v28:=Tryz.zeroValue29
 t46:=Tryz.underlying193
 a46:=Tryz.isAgg193
 z46:=Tryz.sizeOf193
 v46:=Tryz.zeroValue193
 t51:=Tryz.underlying217
 a51:=Tryz.isAgg217
 z51:=Tryz.sizeOf217
 v51:=Tryz.zeroValue217
 t53:=Tryz.underlying219
 a53:=Tryz.isAgg219
 z53:=Tryz.sizeOf219
 v53:=Tryz.zeroValue219
 t131:=Tryz.underlying150
 a131:=Tryz.isAgg150
 z131:=Tryz.sizeOf150
 v131:=Tryz.zeroValue150
 t182:=Tryz.underlying209
 a182:=Tryz.isAgg209
 z182:=Tryz.sizeOf209
 v182:=Tryz.zeroValue209
 t183:=Tryz.underlying210
 a183:=Tryz.isAgg210
 z183:=Tryz.sizeOf210
 v183:=Tryz.zeroValue210
 t218:=Tryz.underlying230
 a218:=Tryz.isAgg230
 z218:=Tryz.sizeOf230
 v218:=Tryz.zeroValue230
 t222:=Tryz.underlying234
 a222:=Tryz.isAgg234
 z222:=Tryz.sizeOf234
 v222:=Tryz.zeroValue234
 t228:=Tryz.underlying236
 a228:=Tryz.isAgg236
 z228:=Tryz.sizeOf236
 v228:=Tryz.zeroValue236
 t229:=Tryz.underlying237
 a229:=Tryz.isAgg237
 z229:=Tryz.sizeOf237
 v229:=Tryz.zeroValue237 }
def di(xs:List Int):List Int:=xs.mergeSort fun x y=>decide (x≤y)
theorem N9{w:World}{D:aV}{E:a6} : ∀ {xs:List Int} {cs:List Value},aL w D E (xs.map enc) cs→cs=xs.map (Value.int .i64)∧∀ x∈xs,IntKind.i64.min≤x∧x≤IntKind.i64.max
 | [],cs,h=>by
  simp only[zx2,aL] at h;subst h;exact ⟨rfl,by simp⟩
 |x::xs,cs,h=>by
  simp only[zy2,aL] at h;obtain ⟨c1,c2,rfl,h1,h2⟩:=h;obtain ⟨rfl,h3⟩:=N9 h2;have h1':c1=[.int .i64 x]∧IntKind.i64.min≤x∧x≤IntKind.i64.max:=h1;obtain ⟨rfl,h4⟩:=h1';refine ⟨rfl,fun y hy =>?_⟩;rcases zw2.1 hy with rfl | hy
  ·exact h4
  ·exact h3 y hy
theorem ql{w:World}{D:aV}{E:a6} : ∀ {xs:List Int},(∀ x∈xs,IntKind.i64.min≤x∧x≤IntKind.i64.max)→aL w D E (xs.map enc) (xs.map (Value.int .i64))
 | [],_=>rfl
 |x::xs,h=>⟨[.int .i64 x],xs.map (Value.int .i64),rfl,⟨rfl,h x (by simp)⟩,ql fun y hy=>h y (by simp[hy])⟩
theorem qp(xs:List Int):(I.agg (xs.map enc)).aU=.ej (List.replicate xs.length .one):=by
 show cY.ej (I.cX _)=_
 congr 1
 induction xs with
 |nil=>rfl
 |cons x xs ih=>simp only[zy2,I.cX,ih,List.length_cons,List.replicate_succ];rfl
theorem aoq{xs ys q:List Int}(hl:ys.length=xs.length){cs:Array Value}(hc:cs.toList=(xs++q).map (Value.int .i64)):(Sort.putCells (Value.int .i64) 0 ys.toArray cs).toList=(ys++q).map (Value.int .i64):=by
 apply List.ext_getElem?;intro k;have h1:cs[k]?=((xs++q).map (Value.int .i64))[k]?:=by rw[←hc,zu0]
 rw[zu0,Sort.putCells,Array.getElem?_mapIdx,h1];simp only[zw6,List.size_toArray,zw8,true_and,zz3,Nat.sub_zero];by_cases hk:k<ys.length
 ·simp only[hk,if_true];rw[zx0 (by omega),zx0 hk,zy1 (by omega),zy1 hk];simp[hk]
 ·simp only[hk,if_false];rw[zw0 (by omega),zw0 (by omega),hl];cases (q[k-xs.length]?) <;>rfl
open Go.Sort Go.RowKit in
theorem uZ(xs q:List Int)(hn:xs.length≤200):cG Tryz.prog 107 [.view 1000000 [] 1 0 xs.length] (bN 1000000 (xs++q)) (zm (di xs++q)):=by
 refine ⟨C8,fun w D E vs _ hD hO hv =>?_⟩;have ho:=hO.bV 1000000;simp only[bN,ak,if_true] at ho;obtain ⟨b,cs,T,aA,-,hb,hr,hnD⟩:=ho;have hEn:∀ n,n≠1000000→E n=none:=fun n hn=>by
  have:=hO.bV n;simpa only[bN,ak,if_neg hn,de] using this
 simp only[aK] at hv;obtain ⟨v,rest,cs',rfl,hp,hr',rfl⟩:=hv;obtain ⟨b',aU,off,l,hE',hoff,hpart,rfl,hl1,hl2,hl3⟩:=hr';rw[aA] at hE';simp only[t7,bZ.aD.injEq] at hE';obtain ⟨rfl,rfl⟩:=hE';have hoff':off=0:=by
  have:(some 0:Option Nat)=some off:=by rw[←hoff];rw[qp];rfl
  injection this with this;exact this.symm
 subst hoff';have hp':v=.slice (some ⟨b,0,none⟩) xs.length (l.length-0):=by
  have:[Value.slice (some ⟨b,0+0*1,none⟩) xs.length (l.length-0)]=[v]:=hp;simpa using this.symm
 subst hp';obtain ⟨hcs,hrg⟩:=N9 hr;have hbs:b<w.heap.size:=(zx6.1 hb).1;have hH:Holds (Value.int .i64) w b 0 xs.toArray:=fun j hj=>by
  simp only[List.size_toArray] at hj;constructor
  ·simp only[World.cell?,hb,Option.isSome_none,zz8,if_false,zz3];rw[←zu0,hcs];rw[zx4,zx0 (by simpa using hj)];simp[hj]
  ·simp[World.frozen?,hb]
 have hlen:(di xs).length=xs.length:=by simp[di]
 refine (Any.slices_Sort_int KW b 0 (l.length-0) xs w hH hbs (by omega)).mono ?_;rintro e w' ⟨rfl,n,os,rfl⟩;have hb1:(putRow (Value.int .i64) (Sort.ahead w n) b 0 (di xs).toArray).heap[b]?=some (.cells (putCells (Value.int .i64) 0 (di xs).toArray cs) T (0,0)):=by
  simp[putRow,mapBlock,Sort.ahead,Array.getElem?_modify,hb,onCells]
 have hother:∀ k,k<w.heap.size→k≠b→(grow (putRow (Value.int .i64) (Sort.ahead w n) b 0 (di xs).toArray) os).heap[k]?=w.heap[k]?:=fun k hk hkb=>by
  rw[heap_grow_old _ _ (by simpa[Sort.ahead] using hk)];simp[putRow,mapBlock,Sort.ahead,Array.getElem?_modify,Ne.symm hkb]
 have hb2:(grow (putRow (Value.int .i64) (Sort.ahead w n) b 0 (di xs).toArray) os).heap[b]?=some (.cells (putCells (Value.int .i64) 0 (di xs).toArray cs) T (0,0)):=by
  rw[heap_grow_old _ _ (by simpa[Sort.ahead] using hbs)];exact hb1
 have hsz:w.heap.size≤(grow (putRow (Value.int .i64) (Sort.ahead w n) b 0 (di xs).toArray) os).heap.size:=by simp[Sort.ahead]
 have hshow:(grow (putRow (Value.int .i64) (Sort.ahead w n) b 0 (xs.mergeSort fun x y=>decide (x≤y)).toArray) os)=(grow (putRow (Value.int .i64) (Sort.ahead w n) b 0 (di xs).toArray) os):=rfl;rw[hshow];have hw1:(grow (putRow (Value.int .i64) (Sort.ahead w n) b 0 (di xs).toArray) os).os=w.os:=rfl;have hw2:(grow (putRow (Value.int .i64) (Sort.ahead w n) b 0 (di xs).toArray) os).tape=w.tape:=rfl;have hw3:(grow (putRow (Value.int .i64) (Sort.ahead w n) b 0 (di xs).toArray) os).output=w.output:=rfl;revert hother hb2 hsz hw1 hw2 hw3;generalize grow (putRow (Value.int .i64) (Sort.ahead w n) b 0 (di xs).toArray) os=w2;intro hother hb2 hsz hw1 hw2 hw3;have hmem:∀ x∈di xs++q,IntKind.i64.min≤x∧x≤IntKind.i64.max:=fun x hx=>hrg x (by
  rcases zx1.1 hx with h | h
  ·exact List.mem_append_left _ (by simpa[di] using h)
  ·exact List.mem_append_right _ h)
 refine ⟨.tuple #[],D,E,.tuple [],bN 1000000 (di xs++q),rfl,⟨rfl,rfl⟩,⟨[],rfl,rfl⟩,⟨fun m =>?_,hO.c4⟩,⟨hw1,hw2,hw3,hsz,fun k hk =>?_⟩,fun _ _ h=>h,fun b0 o h=>Nat.lt_of_lt_of_le (hD b0 o h) hsz,fun _ _ h _ _=>h,fun m e h _=>⟨e,h,bZ.le.refl e⟩,⟨fun b0 o u hd hc =>?_,fun b0 es ck hd hc =>?_⟩⟩
 ·by_cases hm:m=1000000
  ·subst hm;simp only[bN,ak,if_true];refine ⟨b,_,T,?_,.inr ⟨1000000,_,aA,rfl⟩,hb2,?_,hnD⟩
   ·rw[aA,qp,qp,zz5,zz5,hlen]
   ·show aL w2 D E _ _
    rw[aoq hlen hcs];exact ql hmem
  ·simp only[bN,ak,if_neg hm,de];exact hEn m hm
 ·by_cases hk2:k<w.heap.size
  ·exact hother k hk2 fun e=>hk (.inr ⟨1000000,_,aA,by rw[e];rfl⟩)
  ·exact absurd (.inl (Nat.le_of_not_lt hk2)) hk
 ·have hne:b0≠b:=fun e=>hnD o (e▸hd);simp only[World.cell?,hother b0 (hD b0 o hd) hne] at hc ⊢;exact hc
 ·have hne:b0≠b:=fun e=>hnD 0 (e▸hd);rw[hother b0 (hD b0 0 hd) hne];exact hc
theorem zY(v:I)(hv0:v=.nils 1∨v=enc ([]:List Int)):aw Tryz.prog 107 [v] (.tuple []):=by
 refine ⟨C8,fun w D vs hD hv =>?_⟩;simp only[aK] at hv;obtain ⟨u,rest,cs',rfl,hp,hr',rfl⟩:=hv;have hu:∃ a cap,u=.slice a 0 cap:=by
  rcases hv0 with rfl | rfl
  ·have h1:cs'=[.slice none 0 0]:=hr';have h2:cs'=[u]:=hp;rw[h1] at h2;exact ⟨none,0,by simpa using h2.symm⟩
  ·obtain ⟨a,cap,h1,_⟩:=hr';have h2:cs'=[u]:=hp;rw[h1] at h2;exact ⟨a,cap,by simpa using h2.symm⟩
 obtain ⟨a,cap,rfl⟩:=hu;refine (Any.slices_Sort_int_none KW a cap w).mono ?_;rintro e w' ⟨rfl,rfl⟩;exact ⟨.tuple #[],D,rfl,⟨[],rfl,rfl⟩,⟨rfl,rfl,rfl,zz9 _,fun _ _=>rfl⟩,hD,fun _ _ h _=>h⟩
end Go.Proofs.YtcldiigclhgafaaGreat
namespace Go.Proofs.YtcldiigclhgafaaGreat
open Go Go.Abs
open Go.Abs.Enc (enc)
theorem tw{os os2 ow:List (Nat×ah)}{ts:List (Nat×I)}(h:fH os os2)(how:∀ m,al ow m=true→m<1000000):∀ n x,ak os2 n=some x→(ar ts (ow++os2)).o n=some x∧x.only (al os2)=true∧x.eZ=true:=fun n x hx=>by
 have hn:al os2 n=true:=by simp[al,hx]
 have hg:=h.oI n (by rw[←h.same];exact hn);refine ⟨?_,h.ok n x hx⟩;simp only[ar,kE];cases hw:ak ow n with
 |none=>exact hx
 |some y=>have:=how n (by simp[al,hw]);omega
theorem apn{A:ae}{n:Nat}{b:I}{v u:bG 6 Int}{rest:List aG} : dx A (some 6) n [] b (enc v) rest (some (enc u))=aC rest (A.aR n (.box (enc v))):=by
 rw[eF (dO _) (by rw[gq];rfl) ((eL _).trans (eL _).symm),iw]
theorem Lw{α:Type}[Enc α](l:List α):ca none (enc l)=true:=by simp[kW,nF]
theorem p6:(∀ (x:I) xs (f:I→Bool),(x::xs).all f=(f x&&xs.all f))∧(∀ f:I→Bool,([]:List I).all f=true)∧(∀ n p,(I.ptr n p).cu=true)∧(∀ b,(true&&b)=b) :=
 ⟨fun _ _ _=>List.all_cons,fun _=>List.all_nil,fun _ _=>rfl,fun _=>rfl⟩
theorem qh:∀ m,al [] m=true→m<1000000:=fun m h=>by simp[al,ak] at h
theorem Qo(l:List ao)(hl:l.length≤60):vi Tryz.prog 178 [.ref (enc l)] l.length (fun k=>[.int .i64 ((l.length-1-k:Nat):Int),enc (ab l (l.length-1-k))]):=by
 intro Y v aj Ix os hv hY hI hIx h0;have hG:=hI 0 os h0;refine kQ.bj Tryz.func178 Df Vu XP (zz0 rfl) (zz0 rfl) hG.oI (fun hwf W0 D0 E1 =>?_);simp only[Cd,M8,bg,zz3];refine .aq (by decide +kernel) fun K hK =>?_;simp only[H9,U,simprocAttr]
 try simp only[aX,aJ,U,simprocAttr]
 rw[cL ((l.length:Int)-1) (by omega) (by omega)];refine .done (hK _ ?_);clear hK K;refine J.block (J.loop (fun s:Nat×List (Nat×ah)=>ar [(0,.raw v),(1,.ref (enc l)),(3,.int .i64 ((l.length:Int)-1-s.1))] s.2) (fun s=>s.1≤l.length∧aj s.1 s.2) (fun s=>l.length-s.1) (0,os) ⟨zw8 _,h0⟩ ?_ ?_)
 ·refine az.cN ?_ (fun n=>rfl);simp[aO,aP]
 rintro ⟨k,osk⟩ ⟨hk,hIk⟩;simp only at hk hIk ⊢;have gk:=hI k osk hIk;refine J.seq (J.seq ?_);refine .bK (by decide +kernel) fun K hK =>?_;simp only[Ia,U,simprocAttr];refine .done (hK _ ?_);clear hK K;try simp only[au]
 refine J.bP ?_;simp only[ai,U,simprocAttr];refine ⟨fun h =>?_,fun h =>?_⟩
 ·have hlt:k<l.length:=by simp at h;omega
  have hix:((l.length:Int)-1-k)=((l.length-1-k:Nat):Int):=by omega
  rw[hix];refine J.skip ?_;try simp only[au,simprocAttr]
  refine J.seq (J.block (J.seq ?_));refine .bK (by decide +kernel) fun K hK =>?_;simp only[Ib,U,simprocAttr]
  try simp only[aJ,hE (l:=l) (i:=l.length-1-k) (by omega),Dm,U,simprocAttr]
  refine br.Pl (ow:=[]) (In:=aj (k+1)) (Ix:=Ix) (hY k osk _ hlt hIk (fun r os2 h=>h)) gk (hI _) hIx (by simp[I.b6,dL,I.bu]) qh (fun os2 h2 =>?_) (fun os2 h2 =>?_)
  ·try simp only[zy5,U,simprocAttr]
   refine .done (hK _ ?_);clear hK K;try simp only[au]
   refine J.bP ?_;simp only[ai,U,simprocAttr];refine ⟨fun h =>?_,fun h =>?_⟩
   ·cases h
   refine J.skip ?_;try simp only[au,bS,simprocAttr]
   refine .bK (by decide +kernel) fun K hK =>?_;simp only[Ic,U,simprocAttr];refine .done (hK _ ?_);clear hK K;try simp only[au]
   refine ⟨(k+1,os2),⟨by simp only;omega,h2⟩,by simp only;omega,?_⟩;simp only;rw[cL _ (by omega) (by omega)];have e:(((l.length-1-k:Nat):Int)-1)=((l.length:Int)-1-((k+1:Nat):Int)):=by omega
   rw[e];refine az.cN ?_ (fun n=>rfl);simp[aO,aP]
  ·try simp only[zy5,U,simprocAttr]
   refine .done (hK _ ?_);clear hK K;try simp only[au]
   refine J.bP ?_;simp only[ai,U,simprocAttr];refine ⟨fun h =>?_,fun h =>?_⟩
   ·refine J.ret ?_;simp only[au,bS];rw[eX];exact ⟨os2,[],tw (ow:=[]) (hIx os2 h2) qh,trivial,rfl,.inr h2⟩
   ·cases h
 ·have he:k=l.length:=by simp at h;omega
  subst he;refine J.exit ?_;try simp only[au,bS,simprocAttr]
  rw[mi];exact ⟨osk,[],tw (ow:=[]) gk qh,trivial,rfl,.inl hIk⟩
def jC(p:Nat→Bool)(n:Nat):List Nat:=(List.range n).filter p
theorem Pb(p:Nat→Bool)(n:Nat):jC p (n+1)=jC p n++(if p n then [n] else []):=by
 simp only[jC,List.range_succ,zu3,zx7,zw9]
theorem apH{p:Nat→Bool}{i n:Nat}(hp:p i=true)(hi:i<n):(jC p i).length<(jC p n).length∧(jC p n).getD (jC p i).length 0=i:=by
 induction n with
 |zero=>omega
 |succ n ih =>
  rw[Pb];by_cases e:i=n
  ·subst e;simp[hp]
  ·obtain ⟨h1,h2⟩:=ih (by omega);refine ⟨by rw[zz5];omega,?_⟩;rw[zz2,zx0 h1,←zz2];exact h2
theorem PX(l:List ao)(bs:List Bool)(hl:l.length≤60)(hb:bs.length=l.length) :
  vi Tryz.prog 146 [.ref (enc l),.ref (enc bs)] (jC (fun i=>bs.getD i false) l.length).length (fun k=>[.int .i64 (((jC (fun i=>bs.getD i false) l.length).getD k 0:Nat):Int)]):=by
 intro Y v aj Ix os hv hY hI hIx h0;have hG:=hI 0 os h0;refine kQ.bj Tryz.func146 Db U3 Xo (zz0 rfl) (zz0 rfl) hG.oI (fun hwf W0 D0 E1 =>?_);simp only[BK,MF,bg,zz3,Nat.reduceAdd];refine .aq (by decide +kernel) fun K hK =>?_;simp only[GX,U,simprocAttr]
 try simp only[aX,aJ,U,simprocAttr]
 refine .done (hK _ ?_);clear hK K;refine J.block (J.loop (fun s:Nat×List (Nat×ah)=>ar [(0,.raw v),(1,.ref (enc l)),(2,.ref (enc bs)),(6,.int .i64 l.length),(7,.int .i64 s.1)] s.2) (fun s=>s.1≤l.length∧aj (jC (fun i=>bs.getD i false) s.1).length s.2) (fun s=>l.length-s.1) (0,os) ⟨zw8 _,h0⟩ ?_ ?_)
 ·refine az.cN ?_ (fun n=>rfl);simp[aO,aP]
 rintro ⟨i,osk⟩ ⟨hi,hIk⟩;simp only at hi hIk ⊢;have gk:=hI _ osk hIk;refine .aq (by decide +kernel) fun K hK =>?_;simp only[GY,U,simprocAttr];refine .done (hK _ ?_);clear hK K;refine J.seq ?_;by_cases hlt:i<l.length
 ·have hc:=eR hlt;have hbi:∀ A,jl A 1 (i:Int) (enc bs)=some (.ref (.bool (bs.getD i false))):=fun A=>by
   rw[eh 1 (by omega) rfl,zz2,zy1 (by omega)];rfl
  simp only[hc];refine J.bP ?_;simp only[ai,U,simprocAttr];refine ⟨fun h =>?_,fun h =>?_⟩
  case refine_2=>cases h
  refine J.skip ?_;try simp only[au,simprocAttr]
  refine J.seq (J.block ?_);refine .aq (by decide +kernel) fun K hK =>?_;simp only[GZ,U,simprocAttr];refine .done (hK _ ?_);clear hK K;refine J.seq ?_;have hsu:=Pb (fun i=>bs.getD i false) i;cases hbv:bs.getD i false with
  |false =>
   rw[hbv] at hbi;refine .bK (by decide +kernel) fun K hK =>?_;simp only[xe,U,simprocAttr]
   try simp only[hbi,Lw,U,simprocAttr]
   refine .done (hK _ ?_);clear hK K;try simp only[au]
   refine J.bP ?_;simp only[ai,U,simprocAttr];refine ⟨fun h =>?_,fun h =>?_⟩
   ·cases h
   refine J.skip ?_;try simp only[au,bS,simprocAttr]
   refine .bK (by decide +kernel) fun K hK =>?_;simp only[xf,U,simprocAttr];refine .done (hK _ ?_);clear hK K;try simp only[au]
   refine ⟨(i+1,osk),⟨by simp only;omega,?_⟩,by simp only;omega,?_⟩
   ·simp only[hsu,hbv,zz8,if_false,zx5];exact hIk
   ·simp only;rw[dX (by omega)];refine az.cN ?_ (fun n=>rfl);simp[aO,aP]
  |true =>
   rw[hbv] at hbi;obtain ⟨g1,g2⟩:=apH (p:=fun i=>bs.getD i false) hbv hlt;have hsl:(jC (fun i=>bs.getD i false) (i+1)).length=(jC (fun i=>bs.getD i false) i).length+1:=by rw[hsu,hbv];simp
   have hy:=hY _ osk _ g1 hIk (fun r os2 h=>h);simp only at hy;rw[g2] at hy;refine .bK (by decide +kernel) fun K hK =>?_;simp only[xe,U,simprocAttr]
   try simp only[hbi,Lw,Dm,U,simprocAttr]
   refine br.Pl (ow:=[]) (In:=aj ((jC (fun i=>bs.getD i false) i).length+1)) (Ix:=Ix) hy gk (hI _) hIx rfl qh (fun os2 h2 =>?_) (fun os2 h2 =>?_)
   ·try simp only[zy5,U,simprocAttr]
    refine .done (hK _ ?_);clear hK K;try simp only[au]
    refine J.bP ?_;simp only[ai,U,simprocAttr];refine ⟨fun h =>?_,fun h =>?_⟩
    ·cases h
    refine J.skip ?_;try simp only[au,bS,simprocAttr]
    refine .bK (by decide +kernel) fun K hK =>?_;simp only[xf,U,simprocAttr];refine .done (hK _ ?_);clear hK K;try simp only[au]
    refine ⟨(i+1,os2),⟨by simp only;omega,?_⟩,by simp only;omega,?_⟩
    ·simp only[hsl];exact h2
    ·simp only;rw[dX (by omega)];refine az.cN ?_ (fun n=>rfl);simp[aO,aP]
   ·try simp only[zy5,U,simprocAttr]
    refine .done (hK _ ?_);clear hK K;try simp only[au]
    refine J.bP ?_;simp only[ai,U,simprocAttr];refine ⟨fun h =>?_,fun h =>?_⟩
    ·refine J.ret ?_;simp only[au,bS];rw[eX];exact ⟨os2,[],tw (ow:=[]) (hIx os2 h2) qh,trivial,rfl,.inr h2⟩
    ·cases h
 ·have hc:=eT hlt;simp only[hc];refine J.bP ?_;simp only[ai,U,simprocAttr];refine ⟨fun h =>?_,fun h =>?_⟩
  ·cases h
  have he:i=l.length:=by omega
  subst he;refine J.exit ?_;try simp only[au,bS,simprocAttr]
  rw[mi];exact ⟨osk,[],tw (ow:=[]) gk qh,trivial,rfl,.inl hIk⟩
theorem PW(l:List ao):aw Tryz.prog 145 [enc l] (.func 178 [.ref (enc l)]):=by
 refine aw.bj Tryz.func145 SY U2 Xn (zz0 rfl) (fun hwf W0 D0 E1 =>?_);simp only[BJ,ME,bg];have R:=u8 @p6 (u8 @aJ (u8 @dL @U))
 repeat' ((first |(with_reducible refine .guard (fun hb =>?_) (fun hb =>?_) <;>try simp only[hb])|refine J.aE (by decide +kernel) rfl fun K hK =>?_|(refine .ay [0,1,2] hK ?_;clear hK K)|(with_reducible refine .done (hK _ ?_);clear hK K)|refine J.of rfl ?_|(with_reducible refine ai.aB (fun h =>?_) (fun h =>?_) <;>try simp only[h])) <;>try simp only[aF,R,simprocAttr])
 all_goals clear R
 all_goals rfl
def iH(l:List ao)(known:Int)(ks:List Item)(bs:List Bool):List (Nat×ah) :=
 [(1000002,.box (enc l)),(1000003,.box (.int .i64 known)),(1000005,.box (.mref 1000009)),(1000006,.box (.view 1000012 [] 1 0 l.length)),(1000009,.cB (ks.map enc) (List.replicate ks.length (.bool true))),(1000012,.box (.agg (bs.map enc)))]
theorem uj(p:Nat→Bool)(n:Nat)(b:Bool):I.bW p (List.replicate n (.bool b))=true:=by
 induction n with
 |zero=>rfl
 |succ n ih=>simp[List.replicate_succ,I.bW,I.only,ih]
theorem aoC(ρ:Nat→Nat)(n:Nat)(b:Bool):I.cZ ρ (List.replicate n (.bool b))=List.replicate n (.bool b):=by
 induction n with
 |zero=>rfl
 |succ n ih=>simp only[List.replicate_succ,I.cZ,I.aQ,ih]
theorem apk(l:List ao)(known:Int)(ks:List Item)(bs:List Bool)(l':List ao)(known':Int)(ks':List Item)(bs':List Bool):fH (iH l known ks bs) (iH l' known' ks' bs'):=by
 refine ⟨fun n=>by simp only[iH,al,ak];(repeat' split) <;>rfl,fun n x h =>?_,fun n h =>?_⟩
 ·simp only[iH,ak] at h
  repeat' split at h
  all_goals first | (cases h;done) | (simp only[t7] at h;subst h;exact ⟨by simp[iH,al,ak,ah.only,bh,I.only,dn,uj],rfl⟩)
 ·simp only[iH,al,ak] at h
  repeat' split at h
  all_goals first | omega | (simp at h;done)
def uN(l:List ao)(known:Int)(k:Nat)(ks:List Item)(bs:List Bool):Prop :=
 bs=List.replicate (l.length-k) false++(eV known (l.drop (l.length-k))).1∧∀ a,a∈ks↔a∈(eV known (l.drop (l.length-k))).2
theorem zJ:(∀ (A:ae) n b m rest,dx A none n [] b (.mref m) rest (some (.raw (.map none)))=aC rest (A.aR n (.box (.mref m))))∧(∀ (A:ae) n b m p z lo k z2 rest,dx A none n [] b (.view m p z lo k) rest (some (.nils z2))=aC rest (A.aR n (.box (.view m p z lo k)))) ∧
  (∀ (A:ae) n b m p z lo k m' p' z' lo' k' rest,dx A none n [] b (.view m p z lo k) rest (some (.view m' p' z' lo' k'))=aC rest (A.aR n (.box (.view m p z lo k)))) :=
 ⟨fun _ _ _ _ _=>by rw[eF (s:=none) (v:=.mref _) (old:=.raw _) rfl rfl rfl,iw],fun _ _ _ _ _ _ _ _ _ _=>by rw[eF (s:=none) (v:=.view ..) (old:=.nils _) rfl rfl rfl,iw],fun _ _ _ m p z lo k m' p' z' lo' k' _=>by rw[eF (s:=none) (v:=.view m p z lo k) (old:=.view m' p' z' lo' k') rfl rfl rfl,iw]⟩
theorem rY(known:Int):∀ l:List ao,(eV known l).1.length=l.length
 | []=>rfl
 |x::l=>by simp only[eV,List.length_cons,rY known l]
theorem OT{l:List ao}{known:Int}{k:Nat}{ks:List Item}{bs:List Bool}(h:uN l known k ks bs)(hk:k≤l.length):bs.length=l.length:=by
 rw[h.1,zz5,zv3,rY,zy9];omega
def rD(l:List ao)(known:Int)(i:Nat)(ks:List Item):Bool:=decide ((ab l i).known≤known) && !decide ((ab l i).cm∈ks)
theorem apf{l:List ao}{known:Int}{k i:Nat}{ks:List Item}{bs:List Bool}(hk:k<l.length)(hi:i=l.length-1-k)(h:uN l known k ks bs) :
  uN l known (k+1) (if (rD l known i ks&&((ab l i).kind==0))=true then nt ks (ab l i).iu else ks) (bs.set i (rD l known i ks)):=by
 have hkd:((ab l i).kind==0)=decide ((ab l i).kind=0):=rfl;rw[hkd];obtain ⟨h1,h2⟩:=h;have e1:l.length-k=i+1:=by omega
 have e2:l.length-(k+1)=i:=by omega
 rw[e1] at h1 h2;have hil:i<l.length:=by omega
 have hd:l.drop i=ab l i::l.drop (i+1):=by rw[zv4 hil,gC hil]
 have hb:rD l known i ks=(decide ((ab l i).known≤known) && !(eV known (l.drop (i+1))).2.contains (ab l i).cm):=by
  simp only[rD]
  congr 2
  rw[Bool.eq_iff_iff,decide_eq_true_eq,List.contains_iff_mem];exact h2 _
 refine ⟨?_,fun a =>?_⟩
 ·rw[e2,hd,h1];simp only[eV,←hb];rw[List.replicate_succ',zz6,List.set_append_right _ _ (by simp)];simp
 ·rw[e2,hd];simp only[eV,←hb];split
  ·rw[aml,zw2,h2]
  ·exact h2 a
theorem Pw(l:List ao)(known:Int)(hl:l.length≤60):aw Tryz.prog 105 [enc l,enc known] (.func 146 [.ref (enc l),.ref (enc (gR l known))]):=by
 refine aw.bj Tryz.func105 Sn Ut WM (zz0 rfl) (fun hwf W0 D0 E1 =>?_);simp only[Ba,L6,bg,zz3];clear hwf;refine .aq (by decide +kernel) fun K hK =>?_;simp only[Fh,U,simprocAttr]
 try simp only[aJ,U,simprocAttr]
 refine .done (hK _ ?_);clear hK K;refine .aq (by decide +kernel) fun K hK =>?_;simp only[Fi,U,simprocAttr]
 try simp only[eM,zJ,U,simprocAttr]
 refine .done (hK _ ?_);clear hK K;refine .aq (by decide +kernel) fun K hK =>?_;simp only[Fj,U,simprocAttr]
 try simp only[eM,aX,aJ,U,simprocAttr]
 rw[Lf (by omega) (by simp[maxLen];omega)]
 try simp only[zJ,U,simprocAttr]
 refine .done (hK _ ?_);clear hK K;refine J.seq (J.seq ?_);refine .bK (by decide +kernel) fun K hK =>?_;simp only[Fk,U,simprocAttr]
 try simp only[aJ,U,simprocAttr]
 refine .lead _ (PW l) ?_
 try simp only[U,simprocAttr]
 refine .done (hK _ ?_);clear hK K;try simp only[au]
 refine J.block (J.lq (osb0:=iH l known [] (List.replicate l.length false)) (tsR:=[(2,.ptr 1000002 []),(3,.ptr 1000003 []),(5,.ptr 1000005 []),(6,.ptr 1000006 [])]) (ρ:=[(1999999,999999),(1000002,2),(1000003,3),(1000005,5),(1000006,6),(1000009,9),(1000012,12)])
  (fun k os=>∃ ks bs,os=iH l known ks bs∧uN l known k ks bs)
  (fun _ _=>False)
  rfl (zz0 rfl) (by simp only[U,simprocAttr]) (by simp[I.b6,I.bu,dL]) Df (Qo l hl) (fun _=>rfl) rfl rfl rfl (fun o=>⟨?_,?_⟩) ?_ ?_ ?_ ⟨[],_,rfl,?_⟩ ?_ ?_ ?_)
 ·intro n x hx;simp only[dP,iH,ak] at hx
  repeat' split at hx
  all_goals first | (cases hx;done) | (subst_vars;simp only[t7] at hx;subst hx;simp[dP,iH,al,bJ,ak,ah.aQ,I.aQ,I.cZ,j5,ah.only,I.only,I.bW,bh,ah.eZ,uj,aoC,we])
 ·intro a b ha hb;simp only[dP,iH,al,ak] at ha hb
  repeat' split at ha
  all_goals first | (simp at ha;done) | skip
  all_goals (repeat' split at hb)
  all_goals first | (simp at hb;done) | (subst_vars;simp[bJ])
 ·simp[ni,aP,I.aQ,bJ,I.only,iH,al,ak]
 ·rintro k os ⟨ks,bs,rfl,_⟩;exact apk ..
 ·rintro e os h;exact h.elim
 ·exact ⟨by simp[eV],fun a=>by simp[eV]⟩
 ·rintro k osb hk ⟨ks,bs,rfl,hst⟩ W1 D1 E1 tD o1 o2;have hbl:=OT hst (Nat.le_of_lt hk);obtain ⟨i,hi⟩:∃ i,i=l.length-1-k:=⟨_,rfl⟩
  have hil:i<bs.length:=by omega
  have hil2:i<l.length:=by omega
  have hstep:=apf hk hi hst;have hv:∀ fs,jn 1000012 [] 1 0 l.length 1 (i:Int) (some fs)=some (.ptr 1000012 [i]):=fun fs=>by
   have:=nT (m:=1000012) (sz:=1) (lo:=0) (l:=l.length) (i:=i) (fs:=fs) hil2
   rwa [zz3] at this
  have hat2:∀ b,jG i [] (some ((bs.set i b).map enc))=some (.bool b):=fun b=>by
   rw[sG (by simpa using hil)];simp[zz2,hil]
  have hset:=fun (A:ae) v u rest=>OZ (A:=A) (n:=1000012) hil v u rest;have hat:=sG hil;have hlk:=ama qT (ab l i).cm ks;simp only[rN,dP,iH,←hi];have R:=u8 @aJ @U
  repeat' ((first |(with_reducible refine .guard (fun hb =>?_) (fun hb =>?_) <;>try simp only[hb])|refine J.aE (by decide +kernel) rfl fun K hK =>?_|(refine .ay [0,1,2,3,4,5,6,7,8,14,15,16,39] hK ?_;clear hK K)|(with_reducible refine .done (hK _ ?_);clear hK K)|refine J.of rfl ?_|(with_reducible refine ai.aB (fun h =>?_) (fun h =>?_) <;>try simp only[h])) <;>try simp only[aF,R,simprocAttr])
  all_goals clear R
  refine ⟨by simp[],?_⟩;rcases h1:decide ((ab l i).known≤known) <;>rcases h2:decide ((ab l i).cm∈ks) <;>rcases h3:(ab l i).kind==0
  all_goals
   simp only[rD,h1,h2,h3,zu5,Bool.not_false,Bool.and_true,Bool.and_false,zz8,if_true,if_false] at hstep;have hup:=amw qT (ab l i).iu ks
   try simp only[U,simprocAttr]
   have R:=u8 @h1 (u8 @h2 (u8 @h3 (u8 @hv (u8 @hset (u8 @hat (u8 @hat2 (u8 @hlk (u8 @hup (u8 @cD (u8 @zJ (u8 @eM (u8 @cK (u8 @aX (u8 @aJ @U))))))))))))))
   repeat' ((first |(with_reducible refine .guard (fun hb =>?_) (fun hb =>?_) <;>try simp only[hb])|refine J.aE (by decide +kernel) rfl fun K hK =>?_|(refine .ay [0,1,2,3,4,5,6,7,8,14,15,16,39] hK ?_;clear hK K)|(with_reducible refine .done (hK _ ?_);clear hK K)|refine J.of rfl ?_|(with_reducible refine ai.aB (fun h =>?_) (fun h =>?_) <;>try simp only[h])) <;>try simp only[aF,R,simprocAttr])
   all_goals clear R
   generalize bs.set i _=ap3 at hstep ⊢
   try generalize nt ks _=ks2 at hstep ⊢
   refine ⟨iH l known _ _,?_,_,_,rfl,hstep⟩;intro n x hx;simp only[dP,iH,ak] at hx
   (repeat' split at hx) <;>first
    |(cases hx;done)
    |(subst_vars;simp only[t7] at hx;subst hx;simp[iH,dP,al,ar,ak,ah.only,I.only,bh,ah.eZ,dn,uj])
 ·rintro os ⟨ks,bs,rfl,hst⟩;have hbs:bs=gR l known:=by
   have:=hst.1;simpa[gR] using this
  have hbl:=OT hst (zz9 _)
  try simp only[iH,gP,j5,fM,zy0,zy5,au,bS,simprocAttr]
  have R:=u8 @p6 (u8 @aJ @U)
  repeat' ((first |(with_reducible refine .guard (fun hb =>?_) (fun hb =>?_) <;>try simp only[hb])|refine J.aE (by decide +kernel) rfl fun K hK =>?_|(refine .ay [0,1,2,3,4,5,6,7,8,14,15,16,39] hK ?_;clear hK K)|(with_reducible refine .done (hK _ ?_);clear hK K)|refine J.of rfl ?_|(with_reducible refine ai.aB (fun h =>?_) (fun h =>?_) <;>try simp only[h])) <;>try simp only[aF,R,simprocAttr])
  all_goals clear R
  have hfd:=fun A (ho:A.o 12=some (.box (.agg (bs.map enc))))=>aaK (A:=A) (m:=8) (n:=12) (sz:=1) ho rfl hbl.symm
  try simp only[gA,U,simprocAttr]
  rw[hfd _ rfl]
  try simp only[hbs,U,simprocAttr]
 ·rintro e os h;exact h.elim
def gM(l:List ao)(x:Int):Int:=(ab l x.toNat).day
def jL(l:List ao)(x:Int):Prop:=0≤x∧x<l.length
def mI(l:List ao):Prop:=∀ i,i<l.length→0≤(ab l i).day∧(ab l i).day≤100000
def dR(l:List ao)(x y:Int):Prop:=gM l x<gM l y∨(gM l x=gM l y∧x<y)
def dy(l:List ao)(s:List Int):Prop:=s.Pairwise (dR l)
theorem yj{l:List ao}{x y z:Int}(h:dR l x y)(k:dR l y z):dR l x z:=by
 simp only[dR] at *;omega
theorem tN{l:List ao}{x y:Int}(h:y<x):dR l x y↔gM l x<gM l y:=by
 simp only[dR];omega
theorem tM{l:List ao}{x y:Int}(h:y<x)(k:¬ gM l x<gM l y):dR l y x:=by
 simp only[dR];omega
theorem sc(l:List ao)(hd:mI l)(hl:l.length≤60)(x y:Int)(hx:jL l x)(hy:jL l y):aw Tryz.prog 138 [.int .i64 x,.int .i64 y,.ref (enc l)] (.int .i64 (gM l x-gM l y)):=by
 refine aw.bj Tryz.func138 SQ UU Xg (zz0 rfl) (fun hwf W0 D0 E1 =>?_);simp only[BC,Mx,bg,zz3,Nat.reduceAdd];clear hwf;obtain ⟨i,rfl⟩:∃ i:Nat,x=i:=⟨x.toNat,by have:=hx.1;omega⟩
 obtain ⟨k,rfl⟩:∃ k:Nat,y=k:=⟨y.toNat,by have:=hy.1;omega⟩
 have hi:i<l.length:=by have:=hx.2;omega
 have hk:k<l.length:=by have:=hy.2;omega
 have v1:=hE hi;have v2:=hE hk;have d1:=hd i hi;have d2:=hd k hk;have hw:IntKind.i64.wrap ((ab l i).day-(ab l k).day)=(ab l i).day-(ab l k).day:=cL _ (by omega) (by omega);have R:=u8 @v1 (u8 @v2 (u8 @hw (u8 @aJ @U)))
 repeat' ((first |(with_reducible refine .guard (fun hb =>?_) (fun hb =>?_) <;>try simp only[hb])|refine J.aE (by decide +kernel) rfl fun K hK =>?_|(refine .ay [0,1,2,5] hK ?_;clear hK K)|(with_reducible refine .done (hK _ ?_);clear hK K)|refine J.of rfl ?_|(with_reducible refine ai.aB (fun h =>?_) (fun h =>?_) <;>try simp only[h])) <;>try simp only[aF,R,simprocAttr])
 all_goals clear R
 simp only[gM,Int.toNat_natCast]
theorem apy{A C:List Int}{x y:Int}{i j:Nat}(hj:A.length=j)(hi:j+1=i):kK (A++y::x::C) i j=A++x::y::C:=by
 subst hj hi;have e1:(A++y::x::C).getD A.length 0=y:=by simp[zz2]
 have e2:(A++y::x::C).getD (A.length+1) 0=x:=by
  rw[zz2,zw0 (by omega)];simp
 simp only[kK,e1,e2];rw[List.set_append_right _ _ (by omega)];have:A.length+1-A.length=1:=by omega
 rw[this,List.set_append_right _ _ (by omega),Nat.sub_self];simp
theorem apA{A C:List Int}{x y:Int}{i j:Nat}(hi:A.length=i)(hj:i+1=j):kK (A++x::y::C) i j=A++y::x::C:=by
 have:=O7 (A:=A) (B:=[]) (C:=C) (x:=x) (y:=y) (i:=i) (j:=j) hi (by simp;omega);simpa using this
def eg(p t rest:List Int)(x:Int)(c:Nat):List Int:=p++(t.take c++x::t.drop c)++rest
theorem x6{p t rest:List Int}{x:Int}{c:Nat}(hc:c≤t.length):(eg p t rest x c).length=p.length+t.length+1+rest.length:=by
 simp only[eg,zz5,zy4,List.length_cons,zy9];omega
theorem alB{p t rest:List Int}{x:Int}{c a:Nat}(ha:p.length=a)(hc:c≤t.length):(eg p t rest x c).getD (a+c) 0=x:=by
 subst ha;have hl:(t.take c).length=c:=by rw[zy4];omega
 simp only[eg];rw[zz2,zz6,zw0 (by omega)];have:p.length+c-p.length=c:=by omega
 rw[this,zz6,zw0 (by omega),hl,Nat.sub_self];rfl
theorem alC{p t rest:List Int}{x:Int}{c a:Nat}(ha:p.length=a)(hc:c<t.length):(eg p t rest x (c+1)).getD (a+c) 0=t[c]:=by
 subst ha;simp only[eg];rw[zz2,zz6,zw0 (by omega)];have:p.length+c-p.length=c:=by omega
 rw[this,zz6,zx0 (by rw[zy4];omega),List.getElem?_take_of_lt (by omega),zy1 hc];rfl
theorem KJ{p t rest:List Int}{x:Int}{c a:Nat}(ha:p.length=a)(hc:c<t.length):kK (eg p t rest x (c+1)) (a+c+1) (a+c)=eg p t rest x c:=by
 have e1:eg p t rest x (c+1)=(p++t.take c)++t[c]::x::(t.drop (c+1)++rest):=by
  simp only[eg];rw[zz7 hc];simp only[zz6,zy0,zy5]
 have e2:eg p t rest x c=(p++t.take c)++x::t[c]::(t.drop (c+1)++rest):=by
  simp only[eg];rw[zv4 hc];simp only[zz6,zy0]
 rw[e1,e2];exact apy (by rw[zz5,zy4];omega) rfl
theorem zI{l:List ao}{t:List Int}{x:Int}{c:Nat}(hs:dy l t)(h1:∀ y∈t.take c,dR l y x)(h2:∀ y∈t.drop c,dR l x y):dy l (t.take c++x::t.drop c):=by
 have h:=hs;unfold dy at *;rw[←zy8 c t,List.pairwise_append] at h;rw[List.pairwise_append];refine ⟨h.1,?_,fun y hy z hz =>?_⟩
 ·rw[zv8];exact ⟨h2,h.2.1⟩
 ·rcases zw2.1 hz with rfl | hz
  ·exact h1 y hy
  ·exact h.2.2 y hy z hz
theorem apb{l:List ao}{t:List Int}{x:Int}{c:Nat}(hs:dy l t)(hc:c<t.length)(h:dR l t[c] x):∀ y∈t.take (c+1),dR l y x:=by
 intro y hy;rw[zz7 hc,zx1,List.mem_singleton] at hy;rcases hy with hy | rfl
 ·refine yj ?_ h;have h3:=hs;unfold dy at h3;rw[←zy8 c t,List.pairwise_append] at h3;exact h3.2.2 y hy _ (by rw[zv4 hc];exact List.mem_cons_self)
 ·exact h
def nj(l:List ao)(p s q:List Int):cR:=fun r os'=>r=.tuple []∧∃ s',s'.Perm s∧dy l s'∧os'=bN 1000000 (p++s'++q)
structure vh where
 t:List Int
 k:Nat
theorem Am(l:List ao)(hd:mI l)(hl:l.length≤60)(p s q:List Int)(a b n:Nat)(ha:p.length=a)(hb:a+s.length=b)(hn:b≤n)(hnl:n≤(p++s++q).length)(hN:n≤1000)(hs:s.Pairwise (· < ·))(hS:∀ x∈s,jL l x) :
  cG Tryz.prog 203 [.view 1000000 [] 1 0 n,enc (a:Int),enc (b:Int),.func 138 [.ref (enc l)]] (bN 1000000 (p++s++q)) (nj l p s q):=by
 refine cG.bj Tryz.func203 Dj Du DT (zz0 rfl) (zz0 rfl) mn (fun hwf W0 D0 E1 =>?_);simp only[vH,zb,bg,zz3,Nat.reduceAdd];clear hwf;have w1:=dX (i:=a) (by omega);refine .aq (by decide +kernel) fun K hK =>?_;simp only[xt,U,simprocAttr]
 try simp only[w1,simprocAttr]
 refine .done (hK _ ?_);clear hK K;refine J.block (J.loop (fun g:vh=>ar [(0,.view 1000000 [] 1 0 n),(1,.int .i64 a),(2,.int .i64 b),(3,.func 138 [.ref (enc l)]),(8,.int .i64 ((a+g.k:Nat):Int))] (bN 1000000 (p++g.t++s.drop g.k++q))) (fun g=>1≤g.k∧g.t.Perm (s.take g.k)∧dy l g.t∧a+g.k≤b+1) (fun g=>s.length-g.k) ⟨s.take 1,1⟩ ⟨zz9 _,.refl _,?_,by simp only;omega⟩ ?_ ?_)
 ·show dy l (s.take 1)
  cases s <;>simp[dy]
 ·have e:p++s.take 1++s.drop 1++q=p++s++q:=by rw[zz6 p,zy8]
  simp only[e];refine az.cN ?_ (fun n=>rfl);simp[aO,aP]
 rintro ⟨t,k⟩ ⟨g1,g2,g3,g4⟩;simp only at g1 g2 g3 g4 ⊢;refine J.seq (J.seq ?_);refine .bK (by decide +kernel) fun K hK =>?_;simp only[IV,U,simprocAttr];refine .done (hK _ ?_);clear hK K;try simp only[au]
 refine J.bP ?_;simp only[ai,U,simprocAttr];refine ⟨fun h =>?_,fun h =>?_⟩
 rotate_left
 ·have hk:s.length≤k:=by simp at h;omega
  refine J.exit ?_;try simp only[au,bS,simprocAttr]
  rw[mi];refine od rfl ?_ ⟨rfl,t,?_,g3,rfl⟩
  ·rw[zw3 hk,zx5]
  ·rwa [zw1 hk] at g2
 have hk:k<s.length:=by simp at h;omega
 have htl:t.length=k:=by rw[g2.length_eq,zy4];omega
 obtain ⟨x,hx⟩:∃ x,x=s[k]:=⟨_,rfl⟩
 have hxS:jL l x:=hS x (by rw[hx];exact zx8 _);have htS:∀ y∈t,jL l y∧y<x:=fun y hy=>by
  have hy2:=g2.mem_iff.1 hy;refine ⟨hS y (List.mem_of_mem_take hy2),?_⟩;obtain ⟨j,hj,rfl⟩:=List.getElem_of_mem hy2;rw[zy4] at hj;rw[List.getElem_take,hx];exact List.pairwise_iff_getElem.1 hs j k (by omega) hk (by omega)
 obtain ⟨rest,hrest⟩:∃ rest,rest=s.drop (k+1)++q:=⟨_,rfl⟩
 have e0:p++t++s.drop k++q=eg p t rest x k:=by
  rw[hrest,eg,zw1 (l:=t) (by omega),show t.drop k=[] from zw3 (by omega),zv4 hk,←hx];simp only[zz6,zy0,zy5]
 have hnr:n≤p.length+t.length+1+rest.length:=by
  rw[hrest];simp only[zz5,zy9] at hnl ⊢;omega
 rw[e0];refine J.skip ?_;try simp only[au,simprocAttr]
 refine J.seq (J.block ?_);refine .aq (by decide +kernel) fun K hK =>?_;simp only[IW,U,simprocAttr];refine .done (hK _ ?_);clear hK K;refine J.block (J.loop (fun c:Nat=>ar [(0,.view 1000000 [] 1 0 n),(1,.int .i64 a),(2,.int .i64 b),(3,.func 138 [.ref (enc l)]),(8,.int .i64 ((a+k:Nat):Int)),(9,.int .i64 ((a+c:Nat):Int))] (bN 1000000 (eg p t rest x c))) (fun c=>c≤k∧∀ y∈t.drop c,dR l x y) (fun c=>c) k ⟨zz9 _,?_⟩ ?_ ?_)
 ·rw[zw3 (by omega)];intro y hy;cases hy
 ·refine az.cN ?_ (fun n=>rfl);simp[aO,aP]
 rintro c ⟨hc,hgt⟩;have bl:∀ c,c≤k→(∀ y∈t.drop c,dR l x y)→(∀ y∈t.take c,dR l y x)→∃ s':vh,(1≤s'.k∧s'.t.Perm (s.take s'.k)∧dy l s'.t∧a+s'.k≤b+1)∧s.length-s'.k<s.length-k∧s'.k=k+1∧eg p t rest x c=p++s'.t++s.drop s'.k++q:=fun c hck h2 h1=>by
  refine ⟨⟨t.take c++x::t.drop c,k+1⟩,⟨by simp only;omega,?_,zI g3 h1 h2,by simp only;omega⟩,by simp only;omega,rfl,?_⟩
  ·simp only;rw[zz7 hk,←hx];refine List.perm_middle.trans ?_;rw[zy8];exact (g2.cons x).trans (List.perm_append_comm (l₁:=[x]))
  ·simp only[eg,hrest,zz6]
 have hexit:∀ ts,(∀ y∈t.take c,dR l y x)→Abs.bQ ts 0=.view 1000000 [] 1 0 n→Abs.bQ ts 1=.int .i64 a→Abs.bQ ts 2=.int .i64 b→Abs.bQ ts 3=.func 138 [.ref (enc l)]→Abs.bQ ts 8=.int .i64 ((a+(k+1):Nat):Int)→∃ s':vh,(1≤s'.k∧s'.t.Perm (s.take s'.k)∧dy l s'.t∧a+s'.k≤b+1)∧s.length-s'.k<s.length-k∧Abs.az (ar ts (bN 1000000 (eg p t rest x c))) (ar [(0,.view 1000000 [] 1 0 n),(1,.int .i64 a),(2,.int .i64 b),(3,.func 138 [.ref (enc l)]),(8,.int .i64 ((a+s'.k:Nat):Int))] (bN 1000000 (p++s'.t++s.drop s'.k++q))):=fun ts h1 t0 t1 t2 t3 t8=>by
  obtain ⟨s',k1,k2,k3,k4⟩:=bl c hc hgt h1;refine ⟨s',k1,k2,?_⟩;rw[k4,k3];refine az.cN ?_ (fun n=>rfl);simp only[aO,t0,t1,t2,t3,t8,and_self]
 have hw:=dX (i:=a+k) (by omega);have hws:(eg p t rest x c).length=p.length+t.length+1+rest.length:=x6 (by omega);simp only[bN] at hexit ⊢;cases c with
 |zero =>
  have hc0:decide ((a:Int)<((a+0:Nat):Int))=false:=by simp
  have R:=u8 @hc0 (u8 @hw (u8 @aJ @U))
  repeat' ((first |(with_reducible refine .guard (fun hb =>?_) (fun hb =>?_) <;>try simp only[hb])|refine J.aE (by decide +kernel) rfl fun K hK =>?_|(refine .ay [0,1,2,3,8,9,14,34] hK ?_;clear hK K)|(with_reducible refine .done (hK _ ?_);clear hK K)|refine J.of rfl ?_|(with_reducible refine ai.aB (fun h =>?_) (fun h =>?_) <;>try simp only[h])) <;>try simp only[aF,R,simprocAttr])
  all_goals clear R
  exact hexit _ (by simp) rfl rfl rfl rfl rfl
 |succ c =>
  have hct:c<t.length:=by omega
  have hc0:decide ((a:Int)<((a+(c+1):Nat):Int))=true:=by simp;omega
  have wd:IntKind.i64.wrap (((a+(c+1):Nat):Int)-1)=((a+c:Nat):Int):=by rw[cL _ (by omega) (by omega)];omega
  have gx:=alB (p:=p) (t:=t) (rest:=rest) (x:=x) (c:=c+1) ha (by omega);have gy:=alC (p:=p) (t:=t) (rest:=rest) (x:=x) (c:=c) ha hct;have hstep:=KJ (p:=p) (t:=t) (rest:=rest) (x:=x) (c:=c) ha hct;obtain ⟨hyS,hyx⟩:=htS t[c] (zx8 _);have hcmp:=sc l hd hl x t[c] hxS hyS;generalize hws0:eg p t rest x (c+1)=ws at *;have hi1:a+(c+1)<n:=by omega
  have hj1:a+c<n:=by omega
  obtain ⟨i1,hi1e⟩:∃ i1,i1=a+(c+1):=⟨_,rfl⟩
  obtain ⟨j1,hj1e⟩:∃ j1,j1=a+c:=⟨_,rfl⟩
  have hij:a+c+1=i1:=by omega
  rw[hij] at hstep;rw[←hi1e] at hi1 gx hc0 wd ⊢;rw[←hj1e] at hj1 gy wd hstep;have v1:=hJ (n:=n) (i:=i1) hi1;have v2:=hJ (n:=n) (i:=j1) hj1;have l1:=fJ (xs:=ws) (i:=i1) (by omega);have l2:=fJ (xs:=ws) (i:=j1) (by omega);have s1:=fun (A:ae) v u rest=>mw (A:=A) (n:=1000000) (xs:=ws) (i:=i1) (by omega) v u rest;obtain ⟨ws2,hws2⟩:∃ ws2,ws2=ws.set i1 (ws.getD j1 0):=⟨_,rfl⟩
  have hw2l:ws2.length=ws.length:=by rw[hws2];simp
  have s2:=fun (A:ae) v u rest=>mw (A:=A) (n:=1000000) (xs:=ws2) (i:=j1) (by omega) v u rest;have l3:=fJ (xs:=ws2) (i:=j1) (by omega);rw[gx] at l1;rw[gy] at l2;rw[gy] at hws2;have hst2:ws2.set j1 x=eg p t rest x c:=by rw[←hstep];simp only[kK,gx,gy,←hws2]
  cases hlt:decide (gM l x-gM l t[c]<0) with
  |true =>
   have R:=u8 @hc0 (u8 @hw (u8 @wd (u8 @v1 (u8 @v2 (u8 @l1 (u8 @l2 (u8 @l3 (u8 @s1 (u8 @s2 (u8 @hst2 (u8 @hlt (u8 @cK (u8 @dL (u8 @aJ @U))))))))))))))
   repeat' ((first |(with_reducible refine .guard (fun hb =>?_) (fun hb =>?_) <;>try simp only[hb])|refine J.aE (by decide +kernel) rfl fun K hK =>?_|refine .flat _ (hcmp) rfl ?_|(refine .ay [0,1,2,3,8,9,14,34] hK ?_;clear hK K)|(with_reducible refine .done (hK _ ?_);clear hK K)|refine J.of rfl ?_|(with_reducible refine ai.aB (fun h =>?_) (fun h =>?_) <;>try simp only[h])) <;>try simp only[aF,R,←hws2,zy0,simprocAttr])
   all_goals clear R
   refine ⟨c,⟨by omega,fun y hy =>?_⟩,by omega,?_⟩
   ·rw[zv4 hct] at hy;rcases zw2.1 hy with rfl | hy
    ·rw[tN hyx];simp at hlt;omega
    ·exact hgt y hy
   ·rw[hj1e];refine az.cN ?_ (fun n =>?_)
    ·simp[aO,aP]
    ·simp only[ak];split <;>rfl
  |false =>
   have R:=u8 @hc0 (u8 @hw (u8 @wd (u8 @v1 (u8 @v2 (u8 @l1 (u8 @l2 (u8 @hlt (u8 @cK (u8 @dL (u8 @aJ @U))))))))))
   repeat' ((first |(with_reducible refine .guard (fun hb =>?_) (fun hb =>?_) <;>try simp only[hb])|refine J.aE (by decide +kernel) rfl fun K hK =>?_|refine .flat _ (hcmp) rfl ?_|(refine .ay [0,1,2,3,8,9,14,34] hK ?_;clear hK K)|(with_reducible refine .done (hK _ ?_);clear hK K)|refine J.of rfl ?_|(with_reducible refine ai.aB (fun h =>?_) (fun h =>?_) <;>try simp only[h])) <;>try simp only[aF,R,zy0,simprocAttr])
   all_goals clear R
   exact hexit _ (apb g3 hct (tM hyx (by simp at hlt;omega))) rfl rfl rfl rfl rfl
def lb(key:Nat→Int)(a b:Nat):Prop:=key a<key b∨(key a=key b∧a<b)
theorem x5(key:Nat→Int)(i:Nat)(o:List Nat):(gF key i o).Perm (i::o):=by
 have h:(o.takeWhile fun k=>decide (key k≤key i))++(o.dropWhile fun k=>decide (key k≤key i))=o:=List.takeWhile_append_dropWhile;have:=(List.perm_middle (a:=i) (l₁:=o.takeWhile fun k=>decide (key k≤key i)) (l₂:=o.dropWhile fun k=>decide (key k≤key i)))
 rw[h] at this;exact this
theorem KI(key:Nat→Int)(i:Nat):∀ o:List Nat,o.Pairwise (lb key)→(∀ x∈o,x<i)→(gF key i o).Pairwise (lb key)
 | [],_,_=>by simp[gF]
 |a::o,hs,hi=>by
  obtain ⟨h1,h2⟩:=zv8.1 hs;by_cases ha:key a≤key i
  ·have e:gF key i (a::o)=a::gF key i o:=by simp[gF,ha]
   rw[e];refine zv8.2 ⟨fun b hb =>?_,KI key i o h2 fun x hx=>hi x (by simp[hx])⟩;rcases zw2.1 ((x5 key i o).mem_iff.1 hb) with rfl | hb
   ·have:=hi a (by simp);simp only[lb];omega
   ·exact h1 b hb
  ·have e:gF key i (a::o)=i::a::o:=by simp[gF,ha]
   rw[e];refine zv8.2 ⟨fun b hb =>?_,hs⟩;rcases zw2.1 hb with rfl | hb
   ·simp only[lb];omega
   ·have:=h1 b hb;simp only[lb] at *;omega
theorem rJ(key:Nat→Int):∀ (l o:List Nat),o.Pairwise (lb key)→l.Pairwise (· < ·)→(∀ x∈o,∀ y∈l,x<y)→(l.foldl (fun o i=>gF key i o) o).Perm (o++l)∧(l.foldl (fun o i=>gF key i o) o).Pairwise (lb key)
 | [],o,ho,_,_=>by simp[ho]
 |i::l,o,ho,hl,hx=>by
  obtain ⟨h1,h2⟩:=zv8.1 hl;have:=rJ key l (gF key i o) (KI key i o ho fun x h=>hx x h i (by simp)) h2 fun x h y hy=>by
   rcases zw2.1 ((x5 key i o).mem_iff.1 h) with rfl | h
   ·exact h1 y hy
   ·exact hx x h y (by simp[hy])
  refine ⟨this.1.trans ?_,this.2⟩;exact ((x5 key i o).append_right l).trans List.perm_middle.symm
def cz(l:List Nat):List Int:=l.map fun n:Nat=>(n:Int)
def lP(l:List ao)(day known:Int):List Int:=cz (j4 l day known)
def qg(l:List ao)(day known:Int):List Int:=cz (fV l day known)
theorem apr(l:List ao)(known:Int):(ij l known).Pairwise (· < ·):=List.Pairwise.filter _ List.pairwise_lt_range
theorem O2{l:List ao}{known:Int}{i:Nat}(h:i∈ij l known):i<l.length:=by
 simp only[ij,zv6,zv2] at h;exact h.1
theorem sS(l:List ao)(day known:Int):(j4 l day known).Pairwise (· < ·):=List.Pairwise.filter _ (apr l known)
theorem wb{l:List ao}{day known:Int}{i:Nat}(h:i∈j4 l day known):i<l.length:=O2 (zv6.1 h).1
theorem aab(l:List ao)(day known:Int):(lP l day known).Pairwise (· < ·):=by
 refine List.pairwise_map.2 ((sS l day known).imp fun {a b} h =>?_)
 show (a:Int)<(b:Int)
 omega
theorem aaa{l:List ao}{day known:Int} : ∀ x∈lP l day known,jL l x:=fun x hx=>by
 obtain ⟨i,hi,rfl⟩:=zw5.1 hx;have:=wb hi;exact ⟨by omega,by omega⟩
theorem sR(l:List ao)(day known:Int):(j4 l day known).length≤l.length:=by
 have h1:=zu2 (fun i=>decide ((ab l i).kind≠0)&&decide ((ab l i).day≤day)) (ij l known);have h2:=zu2 (fun i=>(gR l known).getD i false) (List.range l.length);rw[List.length_range] at h2;exact zu1 h1 h2
theorem anS{l:List ao}{day known:Int}{s:List Int}(hp:s.Perm (lP l day known))(hs:dy l s):s=qg l day known:=by
 have h0:=rJ (fun i=>(ab l i).day) (j4 l day known) [] (by simp) (sS l day known) (by simp);have h1:(qg l day known).Perm (lP l day known):=h0.1.map _;have h2:dy l (qg l day known):=by
  refine List.pairwise_map.2 (h0.2.imp fun {a b} h =>?_);simp only[lb] at h;simp only[dR,gM,Int.toNat_natCast];omega
 refine List.Perm.eq_of_pairwise (fun a b _ _ h k =>?_) hs h2 (hp.trans h1.symm);simp only[dR] at h k;omega
theorem LM{l:List ao}{day known:Int}{i:Nat}(h:i∈fV l day known):i∈j4 l day known:=by
 have h0:=rJ (fun i=>(ab l i).day) (j4 l day known) [] (by simp) (sS l day known) (by simp);exact h0.1.mem_iff.1 h
theorem yT(l:List ao)(day known:Int):(fV l day known).length=(j4 l day known).length:=by
 have h0:=rJ (fun i=>(ab l i).day) (j4 l day known) [] (by simp) (sS l day known) (by simp);exact h0.1.length_eq
theorem anx{x:ao}(h:iv x=true):0≤x.day∧x.day≤100000:=by
 simp only[iv,b9,zz4,decide_eq_true_eq] at h;omega
theorem O1(l:List ao)(known:Int):(gR l known).length=l.length:=rY known l
theorem Qy(el:List ao):aw Tryz.prog 203 [enc ([]:List Int),.int .i64 0,.int .i64 0,.func 138 [.ref (enc el)]] (.tuple []):=by
 refine aw.bj Tryz.func203 Dj Du DT (zz0 rfl) (fun hwf W0 D0 E1 =>?_);simp only[vH,zb,bg,zz3,Nat.reduceAdd];clear hwf;have hc:decide ((1:Int)<0)=false:=by decide
 have hw:IntKind.i64.wrap 1=1:=by decide
 refine .aq (by decide +kernel) fun K hK =>?_;simp only[xt,U,Nat.reduceEqDiff,reduceIte];refine .done (hK _ ?_);clear hK K;refine J.block (J.loop (fun _:Unit=>ar [(2,.int .i64 0),(8,.int .i64 1)] []) (fun _=>True) (fun _=>0) () trivial ?_ (fun _ _ =>?_))
 ·refine az.bL ?_ ?_ ?_ ?_ <;>simp[*,aO,bC,bx,aZ,aP,I.only]
 have R:=u8 @hc (u8 @gA (u8 @aX (u8 @aJ @U)))
 repeat' ((first |(with_reducible refine .guard (fun hb =>?_) (fun hb =>?_) <;>try simp only[hb])|refine J.aE (by decide +kernel) rfl fun K hK =>?_|(refine .ay [0,1,2,3,8,9,14,34] hK ?_;clear hK K)|(with_reducible refine .done (hK _ ?_);clear hK K)|refine J.of rfl ?_|(with_reducible refine ai.aB (fun h =>?_) (fun h =>?_) <;>try simp only[h])) <;>try simp only[aF,R,Nat.reduceEqDiff,reduceIte,Nat.reduceBEq])
 all_goals clear R
 rfl
theorem Qi(el:List ao):aw Tryz.prog 171 [enc ([]:List Int),.int .i64 0,.func 138 [.ref (enc el)]] (.tuple []):=by
 refine aw.bj Tryz.func171 De Ds DR (zz0 rfl) (fun hwf W0 D0 E1 =>?_);simp only[vF,y9,bg,zz3,Nat.reduceAdd];clear hwf;have hc:decide ((20:Int)≤0)=false:=by decide
 have hc2:decide ((20:Int)<0)=false:=by decide
 refine .aq (by decide +kernel) fun K hK =>?_;simp only[xi,U];refine .done (hK _ ?_);clear hK K;refine .aq (by decide +kernel) fun K hK =>?_;simp only[xj,U,Nat.reduceEqDiff,reduceIte];refine .done (hK _ ?_);clear hK K;refine J.seq (J.block (J.loop (fun _:Unit=>ar [(0,enc ([]:List Int)),(1,.int .i64 0),(2,.func 138 [.ref (enc el)]),(6,.int .i64 20),(7,.int .i64 0),(8,.int .i64 20)] []) (fun _=>True) (fun _=>0) () trivial ?_ (fun _ _ =>?_)))
 ·refine az.bL ?_ ?_ ?_ ?_ <;>simp[aO,bC,bx,aZ,aP,I.only,I.bW,bh]
 have R:=u8 @hc (u8 @gA (u8 @aX (u8 @aJ @U)))
 repeat' ((first |(with_reducible refine .guard (fun hb =>?_) (fun hb =>?_) <;>try simp only[hb])|refine J.aE (by decide +kernel) rfl fun K hK =>?_|refine .lead _ (Qy el) ?_|(refine .ay [0,1,2,6,7,8,9,13,30,35,54] hK ?_;clear hK K)|(with_reducible refine .done (hK _ ?_);clear hK K)|refine J.of rfl ?_|(with_reducible refine ai.aB (fun h =>?_) (fun h =>?_) <;>try simp only[h])) <;>try simp only[aF,R,Nat.reduceEqDiff,reduceIte,Nat.reduceBEq])
 all_goals clear R
 refine J.loop (fun _:Unit=>ar [(0,enc ([]:List Int)),(1,.int .i64 0),(2,.func 138 [.ref (enc el)]),(6,.int .i64 20)] []) (fun _=>True) (fun _=>0) () trivial ?_ (fun _ _ =>?_)
 ·refine az.bL ?_ ?_ ?_ ?_ <;>simp[aO,bC,bx,aZ,aP,I.only,I.bW,bh]
 have R:=u8 @hc2 (u8 @gA (u8 @aX (u8 @aJ @U)))
 repeat' ((first |(with_reducible refine .guard (fun hb =>?_) (fun hb =>?_) <;>try simp only[hb])|refine J.aE (by decide +kernel) rfl fun K hK =>?_|(refine .ay [0,1,2,6,7,8,9,13,30,35,54] hK ?_;clear hK K)|(with_reducible refine .done (hK _ ?_);clear hK K)|refine J.of rfl ?_|(with_reducible refine ai.aB (fun h =>?_) (fun h =>?_) <;>try simp only[h])) <;>try simp only[aF,R,Nat.reduceEqDiff,reduceIte,Nat.reduceBEq])
 all_goals clear R
 rfl
theorem PT(el:List ao):aw Tryz.prog 137 [enc ([]:List Int),.func 138 [.ref (enc el)]] (.tuple []):=by
 refine aw.bj Tryz.func137 Da Dp DO (zz0 rfl) (fun hwf W0 D0 E1 =>?_);simp only[vC,y6,bg,zz3];clear hwf;have hz:(([]:List Int).length:Int)=0:=rfl;have R:=u8 @hz (u8 @gA (u8 @aX (u8 @aJ @U)))
 repeat' ((first |(with_reducible refine .guard (fun hb =>?_) (fun hb =>?_) <;>try simp only[hb])|refine J.aE (by decide +kernel) rfl fun K hK =>?_|refine .lead _ (Qi el) ?_|(refine .ay [0,1] hK ?_;clear hK K)|(with_reducible refine .done (hK _ ?_);clear hK K)|refine J.of rfl ?_|(with_reducible refine ai.aB (fun h =>?_) (fun h =>?_) <;>try simp only[h])) <;>try simp only[R,Nat.reduceEqDiff,reduceIte])
 all_goals clear R
 rfl
def aoO(l:List cE):Prop:=∀ (i j:Nat) (hi:i<l.length) (hj:j<l.length),i<j→l[i].bX<l[j].bX
theorem ap6{m:cq}(h:eO m=true):aoO m.given:=by
 simp only[eO,zz4,zx9,zv2] at h;have h1:∀ i,i+1<m.given.length→(ct m i).bX<(ct m (i+1)).bX:=fun i hi=>by
  have:=h.2.2.2 (i+1) hi;simp only[fC,zz4] at this;simpa using this.2.2.1
 intro i j hi hj hij;obtain ⟨d,rfl⟩:∃ d,j=i+1+d:=⟨j-(i+1),by omega⟩
 induction d with
 |zero=>rw[j8 hi,j8 hj];exact h1 i hj
 |succ d ih =>
  have hj':i+1+d<m.given.length:=by omega
  have:=ih hj' (by omega);rw[j8 hi,j8 hj'] at this;rw[j8 hi,j8 hj];have h3:=h1 (i+1+d) hj;have e:i+1+(d+1)=i+1+d+1:=by omega
  rw[e];omega
theorem Lr{m:cq}(h:eO m=true):m.given.length≤40:=by
 simp only[eO,zz4,decide_eq_true_eq] at h;exact h.2.2.1
theorem Ls{m:cq}(h:eO m=true):∀ g∈m.given,fD g.mark=true:=fun g hg=>by
 simp only[eO,zz4,zx9,zv2] at h;obtain ⟨i,hi,rfl⟩:=List.getElem_of_mem hg;rw[j8 hi];exact ud (h.2.2.2 i hi)
theorem Qw(m:cq)(r:bG 6 Int)(g:cE)(hg:fD g.mark=true):aw Tryz.prog 201 (enc g::[.ref (enc m),.ref (enc r)]) (enc (decide (m.gD<kU m.fG g.mark r))):=by
 refine aw.bj Tryz.func201 Tz VF X0 (zz0 rfl) (fun hwf W0 D0 E1 =>?_);simp only[Co,Nk,bg,zz3,Nat.reduceAdd];refine .aq (by decide +kernel) fun K hK =>?_;simp only[IP,U,simprocAttr]
 try simp only[dO,U,simprocAttr]
 refine .done (hK _ ?_);clear hK K;refine .aq (by decide +kernel) fun K hK =>?_;simp only[IQ,U,simprocAttr]
 try simp only[da,ev,U,simprocAttr]
 refine .flat _ (Qx m.fG g.mark r hg) rfl ?_
 try simp only[da,U,simprocAttr]
 refine .done (hK _ ?_);clear hK K;refine J.ret ?_;simp only[U,simprocAttr]
def lp(m:cq)(r:bG 6 Int):List cE:=gf (fun g=>decide (m.gD<kU m.fG g.mark r)) m.given
def LY(d:Nat)(m:cq)(r:bG 6 Int):cR:=fun x os'=>(lp m r=[]∧x=enc ([]:List cE)∧os'=[])∨∃ k,x=.view d [] 7 0 (lp m r).length∧os'=iW d (lp m r) k
theorem Qe(m:cq)(r:bG 6 Int)(hm:∀ g∈m.given,fD g.mark=true)(hlen:m.given.length≤1000):cG Tryz.prog 168 [enc m,enc r] [] (LY 7 m r):=by
 refine cG.bj Tryz.func168 Tg Vl XG (zz0 rfl) (zz0 rfl) (fun m hm=>by simp[al,ak] at hm) (fun hwf W0 D0 E1 =>?_);simp only[B4,MY,bg,zz3];refine .aq (by decide +kernel) fun K hK =>?_;simp only[HU,U,simprocAttr]
 try simp only[dO,U,simprocAttr]
 refine .done (hK _ ?_);clear hK K;refine .aq (by decide +kernel) fun K hK =>?_;simp only[HV,U,simprocAttr]
 try simp only[da,ev,U,simprocAttr]
 refine .bV false [(7,7)] [] [enc m.given] (vS m.given) rfl (Ai m.given hlen) fX.nil ⟨.inl ⟨(j5 _ _).symm,bh _ _,dO _⟩,trivial⟩ ?_ ?_
 ·rintro x os' (⟨_,h | h,rfl⟩ | ⟨_,k,rfl,rfl⟩)
  ·subst h;exact ee.nil (fun _=>rfl) (fun h=>by cases h)
  ·subst h;exact ee.nil (fun _=>rfl) (fun h=>by cases h)
  ·exact ee.p8 (fun p=>mS p _) (fun h=>by cases h) rfl (fun h=>by cases h) rfl (by decide)
 ·have hd:I.eI [.ref (enc m),.ref (enc r)]=true:=by simp only[I.eI,I.done,dL,zw4]
  rintro x os' (⟨hn,h,rfl⟩ | ⟨hn,k,rfl,rfl⟩)
  ·have hp:lp m r=[]:=by simp[lp,gf,hn]
   have key:∀ x,(x=.nils 7∨x=.c0 7)→bl true (ar [] []) x=some (enc ([]:List cE)):=by rintro x (rfl | rfl) <;>rfl
   have hren:∀ x:I,(x=.nils 7∨x=.c0 7)→x.aQ (bJ [(7,7)])=x∧x.cu=true:=by rintro x (rfl | rfl) <;>exact ⟨by simp only[I.aQ],rfl⟩
   rw[(hren x h).1]
   try simp only[gP,zy5,List.all_cons,List.all_nil,I.cu,zw4,U,simprocAttr]
   have hfx:∀ A,bl true A x=some (enc ([]:List cE)):=fun A=>by rcases h with rfl | rfl <;>simp only[bl,gB,zx2] <;>rfl
   refine .gY [2,3] (enc ([]:List cE)) rfl (Qv 201 [.ref (enc m),.ref (enc r)] hd) ?_ ?_ ?_
   ·try simp only[hfx,gh,zx7,zw9,List.contains_cons,Nat.reduceBEq,Bool.or_true,Bool.true_or,BEq.rfl,dL,U,simprocAttr]
   ·simp[cJ,aZ]
   ·try simp only[fK,cJ,zx7,zw9,List.contains_cons,Nat.reduceBEq,Bool.or_true,Bool.true_or,BEq.rfl,zy2,zx2,U,simprocAttr]
    refine .done (hK _ ?_);clear hK K;refine J.ret ?_;simp only[eX];exact ⟨[],[enc ([]:List cE)],pQ,⟨⟨_,rfl,.inl ⟨rfl,rfl,rfl⟩⟩,trivial⟩,.inl ⟨hp,rfl,rfl⟩⟩
  ·try simp only[iW,gP,fM,zy0,zy5,List.all_cons,List.all_nil,I.cu,zw4,U,simprocAttr]
   refine .bV true [(1000000,7)] (iW 1000000 m.given k) [.view 1000000 [] 7 0 m.given.length,.func 201 [.ref (enc m),.ref (enc r)]] (DY 1000000 (lp m r)) rfl
    (Qu m.given 201 [.ref (enc m),.ref (enc r)] hd (fun g=>decide (m.gD<kU m.fG g.mark r)) (fun g hg=>Qw m r g (hm g hg)) hlen k) ⟨?_,?_⟩ ⟨.inl ⟨?_,?_,rfl⟩,.inr ?_,trivial⟩ ?_ ?_
   ·intro n x h;simp only[iW,ak] at h;split at h
    ·rename_i hn';subst hn';simp only[t7] at h;subst h;exact ⟨by simp only[gP,fM,U,simprocAttr],mS _ _,rfl⟩
    ·cases h
   ·intro a b ha hb _;rw[cH.1 ha,cH.1 hb]
   ·try simp only[gP,simprocAttr]
   ·exact cH.2 rfl
   ·try simp only[jN,iW,bJ,cJ,zx7,zw9,zy2,zx2,List.contains_cons,List.contains_nil,Nat.reduceBEq,Bool.or_false,BEq.rfl,dL,U,simprocAttr]
   ·rintro x os' ⟨k',rfl,rfl⟩;exact ee.one (fun p=>mS p _) (fun _=>amk _) (cH.2 rfl) (fun _=>rfl)
   ·rintro x os' ⟨k',rfl,rfl⟩
    try simp only[iW,gP,fM,zy0,zy5,U,simprocAttr]
    refine .done (hK _ ?_);clear hK K;refine J.ret ?_;simp only[eX];exact ⟨iW 7 (lp m r) k',[.view 7 [] 7 0 (lp m r).length],jK rfl (fun p=>mS p _),⟨⟨_,rfl,.inl ⟨rfl,rfl,rfl⟩⟩,trivial⟩,.inr ⟨k',rfl,rfl⟩⟩
def lg(l:List cE)(i:Nat):List Int:=(l.take i).map (·.bX)
theorem anY(l:List cE):lg l 0=[]:=by simp[lg]
theorem anX{l:List cE}{i:Nat}(h:i<l.length):lg l (i+1)=lg l i++[l[i].bX]:=by
 simp only[lg];rw[zz7 h,zx4];rfl
theorem LN{l:List cE}{i:Nat}(h:i≤l.length):(lg l i).length=i:=by simp[lg];omega
theorem anW(l:List cE):lg l l.length=l.map (·.bX):=by simp[lg]
theorem Qf(l:List cE)(hlen:l.length≤1000):aw Tryz.prog 169 [enc l] (enc (l.map (·.bX))):=by
 refine aw.bj Tryz.func169 Th Vm XH (zz0 rfl) (fun hwf W0 D0 E1 =>?_);simp only[B5,MZ,bg];refine .aq (by decide +kernel) fun K hK =>?_;simp only[HW,U,simprocAttr];refine .done (hK _ ?_);clear hK K;refine .aq (by decide +kernel) fun K hK =>?_;simp only[HX,U,simprocAttr];refine .done (hK _ ?_);clear hK K;refine J.seq ?_;refine J.seq (J.bK (by decide +kernel) fun K hK =>?_)
 try simp only[HY,aX,U,simprocAttr]
 refine .done (hK _ ?_);clear hK K;refine J.block (J.loop (fun i:Nat=>ar [(3,.own 3 (lg l i).length),(6,enc l),(7,.int .i64 l.length),(8,.int .i64 i)] [(3,.b5 3 1 ((lg l i).map enc))]) (fun i=>i≤l.length) (fun i=>l.length-i) 0 (zw8 _) ?_ (fun i hi =>?_))
 ·refine az.lD 3 3 3 1 1 ?_ ?_ ?_
  ·simp only[pq,Nat.reduceEqDiff,reduceIte]
  ·simp only[pq]
  ·simp only[anY,zx2,zv7];refine az.bL ?_ ?_ ?_ ?_ <;>simp[aO,bC,bx,aZ,al,aP,b8,I.only,I.bW,ah.only,bh]
 ·refine .aq (by decide +kernel) fun K hK =>?_;simp only[HZ,U,simprocAttr];refine .done (hK _ ?_);clear hK K;refine J.seq ?_;refine J.bP ?_;simp only[ai,U,simprocAttr];refine ⟨fun h =>?_,fun h =>?_⟩
  ·have hlt:i<l.length:=by simpa using h
   refine J.skip ?_;try simp only[au,simprocAttr]
   refine J.seq (J.block ?_);refine .aq (by decide +kernel) fun K hK =>?_;simp only[H0,U,simprocAttr]
   try simp only[eh 7 hlt rfl,da,U,simprocAttr]
   rw[eF (dO _) (by rw[gq];rfl) ((eL _).trans rfl)]
   try simp only[U,simprocAttr]
   refine .done (hK _ ?_);clear hK K;refine .bK (by decide +kernel) fun K hK =>?_;simp only[H2,U,simprocAttr]
   try simp only[da,U,simprocAttr]
   rw[jE 3 1 8 3 rfl rfl (by simp) (by simp[maxLen,LN hi];omega) (by simp[LN hi];omega)]
   try simp only[U,simprocAttr]
   refine .done (hK _ ?_);clear hK K;try simp only[au,bS]
   refine .bK (by decide +kernel) fun K hK =>?_;simp only[H3,U,simprocAttr];refine .done (hK _ ?_);clear hK K;try simp only[au]
   refine ⟨i+1,by omega,by omega,?_⟩;rw[cL _ (by omega) (by omega),anX hlt];refine az.bL ?_ ?_ ?_ ?_ <;>simp[aO,bC,bx,aZ,al,aP,b8,I.only,I.bW,ah.only,dn,gm,bh,ga]
  ·have hge:i=l.length:=by simp at h;omega
   subst hge;refine J.exit ?_;try simp only[au,bS,simprocAttr]
   refine .aq (by decide +kernel) fun K hK =>?_;simp only[H4,U,simprocAttr];refine .done (hK _ ?_);clear hK K;refine J.ret ?_
   try simp only[anW,U,simprocAttr]
def eb(rs:List (bG 6 Int))(j:Nat):bG 6 Int:=rs.getD j Po
theorem x8{A:ae}{rs:List (bG 6 Int)}{i:Nat}(h:i<rs.length):jl A 6 (i:Int) (enc rs)=some (.ref (enc (eb rs i))):=by
 rw[eh 6 h rfl];simp[eb,zz2,h]
def nE(m:cq)(rs:List (bG 6 Int))(g:cE)(j:Nat):Bool:=decide (kU m.fG g.mark (eb rs j)≤m.gD)
def jr(m:cq)(rs:List (bG 6 Int))(n:Nat):List cE:=m.given.filter fun g=>(List.range n).all (nE m rs g)
theorem ans(m:cq)(rs:List (bG 6 Int)):jr m rs 0=m.given:=by simp[jr]
theorem Ll(m:cq)(rs:List (bG 6 Int))(n:Nat):jr m rs (n+1)=lp ⟨m.fG,m.gD,jr m rs n⟩ (eb rs n):=by
 simp only[jr,lp,gf,List.filter_filter];refine List.filter_congr fun g _ =>?_;rw[List.range_succ,List.all_append];simp only[List.all_cons,List.all_nil,Bool.and_true,nE];by_cases h:kU m.fG g.mark (eb rs n)≤m.gD
 ·have h2:¬ m.gD<kU m.fG g.mark (eb rs n):=by omega
  simp[h,h2]
 ·have h2:m.gD<kU m.fG g.mark (eb rs n):=by omega
  simp[h,h2]
theorem anr{m:cq}{rs:List (bG 6 Int)}{n:Nat}{g:cE}(h:g∈jr m rs n):g∈m.given:=(zv6.1 h).1
theorem Lk(m:cq)(rs:List (bG 6 Int))(n:Nat):(jr m rs n).length≤m.given.length:=zu2 _ _
def rG(rs:List (bG 6 Int)):Bool:=(List.range rs.length).all fun i=>kF (eb rs i)
def gv(m:cq)(rs:List (bG 6 Int)):List Int×Int:=if eO m then (if rs.length≤60 then (if rG rs then ((jr m rs rs.length).map (·.bX),0) else ([],12)) else ([],2)) else ([],13)
theorem Sd(w:bG 5 Int)(n:Int)(l:List cE):eP [enc (a5 0 0 0 0 0),.int .i64 0,.nils 7] [(0,enc w),(1,.int .i64 n),(2,enc l)]=some [enc w,.int .i64 n,enc l]:=by
 have h1:((enc w:I).cu=true∧(enc w:I).size=(enc (a5 0 0 0 0 0)).size):=⟨dO _,by rw[iD,iD]⟩
 have h2:((enc l:I).cu=true∧(enc l:I).size=(I.nils 7).size):=⟨dO _,by rw[iD];rfl⟩
 rw[zC (z:=enc (a5 0 0 0 0 0)) rfl h1.1 h1.2,zC (v:=.int .i64 n) (z:=.int .i64 0) rfl rfl rfl,zC (z:=.nils 7) rfl h2.1 h2.2];rfl
theorem PF(m:cq)(rs:List (bG 6 Int)):aw Tryz.prog 128 [enc m,enc rs] (.tuple [enc (gv m rs).1,enc (gv m rs).2]):=by
 refine aw.bj Tryz.func128 SI UM W8 (zz0 rfl) (fun hwf W0 D0 E1 =>?_);simp only[Bu,Mp,bg,zz3];refine .aq (by decide +kernel) fun K hK =>?_;simp only[F7,U,simprocAttr]
 try simp only[dO,U,simprocAttr]
 refine .done (hK _ ?_);clear hK K;refine J.seq ?_;refine .aq (by decide +kernel) fun K hK =>?_;simp only[F8,U,simprocAttr]
 try simp only[da,ev,U,simprocAttr]
 refine .flat _ (qE m) rfl ?_;generalize hm:eO m=bm;cases bm
 ·try simp only[U,simprocAttr]
  refine .done (hK _ ?_);clear hK K;refine .aq (by decide +kernel) fun K hK =>?_;simp only[wR,U,simprocAttr];refine .done (hK _ ?_);clear hK K;refine J.bP ?_;simp only[ai,U,simprocAttr];refine ⟨fun h =>?_,fun h =>?_⟩
  ·refine .aq (by decide +kernel) fun K hK =>?_;simp only[F9,U,simprocAttr];refine .done (hK _ ?_);clear hK K;refine J.ret ?_;simp only[au,U,simprocAttr];simp[gv,hm,qa]
  ·cases h
 try simp only[U,simprocAttr]
 refine .done (hK _ ?_);clear hK K;refine .aq (by decide +kernel) fun K hK =>?_;simp only[wR,U,simprocAttr];refine .done (hK _ ?_);clear hK K;refine J.bP ?_;simp only[ai,U,simprocAttr];refine ⟨fun h =>?_,fun h =>?_⟩
 ·cases h
 refine J.skip ?_;try simp only[au,simprocAttr]
 refine J.seq ?_;refine .aq (by decide +kernel) fun K hK =>?_;simp only[Ga,U,simprocAttr]
 try simp only[aX,U,simprocAttr]
 refine .done (hK _ ?_);clear hK K;refine J.bP ?_;simp only[ai,U,simprocAttr];refine ⟨fun h =>?_,fun h =>?_⟩
 ·refine .aq (by decide +kernel) fun K hK =>?_;simp only[Gb,U,simprocAttr];refine .done (hK _ ?_);clear hK K;refine J.ret ?_;simp only[au,U,simprocAttr];have:¬ rs.length≤60:=by simp at h;omega
  simp[gv,hm,this,qa]
 have hrl:rs.length≤60:=by simp at h;omega
 refine J.skip ?_;try simp only[au,simprocAttr]
 have hlen:m.given.length≤1000:=by have:=Lr hm;omega
 -- from the clone on
 have key:∀ c:cT,c=⟨Tryz.prog,W0,D0,Tryz.f128.ntmps,dG E1,E1,iR,none⟩→J c (.seq (.seq (.bT none wS) (.block 0 (.loop (.seq (.bT none wT) (.seq (.cond (.t 25) .skip (.exit 0)) (.seq (.block 1 (.seq (.bT none wU) (.seq (.seq (.bT none wN) (.seq (.bT none tc) (.cond (.t 31) (.seq (.bT none wO) .ret) .skip))) (.bT none wP)))) (.bT none td))))))) (.seq (.bT none wQ) .ret))
   (jR [.tmp 4,.tmp 5] (.tuple [enc (gv m rs).1,enc (gv m rs).2])) (ar [(1,enc rs),(2,.ptr 2 []),(7,enc m.given)] [(2,.box (enc m))]):=by
  rintro c rfl;refine J.seq ?_;refine .aq (by decide +kernel) fun K hK =>?_;simp only[wS,U,simprocAttr]
  try simp only[aX,U,simprocAttr]
  refine .done (hK _ ?_);clear hK K;refine J.block (J.loop (fun i:Nat=>ar [(1,enc rs),(2,.ptr 2 []),(7,enc (jr m rs i)),(22,enc rs),(23,.int .i64 rs.length),(24,.int .i64 i)] [(2,.box (enc m))]) (fun i=>i≤rs.length∧∀ j,j<i→kF (eb rs j)=true) (fun i=>rs.length-i) 0 ⟨by omega,fun j h=>by omega⟩ ?_ (fun i hi =>?_))
  ·rw[ans];refine az.bL ?_ ?_ ?_ ?_ <;>simp[aO,bC,bx,aZ,al,aP,b8,I.only,ah.only,bh]
  refine .aq (by decide +kernel) fun K hK =>?_;simp only[wT,U,simprocAttr];refine .done (hK _ ?_);clear hK K;refine J.seq ?_;refine J.bP ?_;simp only[ai,U,simprocAttr];refine ⟨fun h =>?_,fun h =>?_⟩
  case refine_2.refine_2 =>
   have hge:i=rs.length:=by simp at h;omega
   subst hge;have hok:rG rs=true:=lF hi.2;refine J.exit ?_;try simp only[au,bS,simprocAttr]
   refine .aq (by decide +kernel) fun K hK =>?_;simp only[wQ,U,simprocAttr]
   try simp only[ev,U,simprocAttr]
   refine .lead _ (Qf (jr m rs rs.length) (zu1 (Lk _ _ _) hlen)) ?_
   try simp only[U,simprocAttr]
   refine .done (hK _ ?_);clear hK K;refine J.ret ?_;simp only[U,simprocAttr]
   try simp only[ev,U,simprocAttr]
   simp[gv,hm,hrl,hok]
  have hlt:i<rs.length:=by simp at h;omega
  refine J.skip ?_;try simp only[au,simprocAttr]
  refine J.seq (J.block ?_);refine .aq (by decide +kernel) fun K hK =>?_;simp only[wU,U,simprocAttr]
  try simp only[da,x8 hlt,aah,apn,U,simprocAttr]
  refine .done (hK _ ?_);clear hK K;refine J.seq ?_;refine .aq (by decide +kernel) fun K hK =>?_;simp only[wN,U,simprocAttr]
  try simp only[da,ev,U,simprocAttr]
  refine .flat _ (Af (eb rs i)) rfl ?_;generalize hr:kF (eb rs i)=aB;cases aB
  ·try simp only[U,simprocAttr]
   refine .done (hK _ ?_);clear hK K;refine .aq (by decide +kernel) fun K hK =>?_;simp only[tc,U,simprocAttr];refine .done (hK _ ?_);clear hK K;refine J.bP ?_;simp only[ai,U,simprocAttr];refine ⟨fun h =>?_,fun h =>?_⟩
   ·refine .aq (by decide +kernel) fun K hK =>?_;simp only[wO,U,simprocAttr];refine .done (hK _ ?_);clear hK K;refine J.ret ?_;simp only[bS,au,U,simprocAttr];have hok:rG rs=false:=kp i hlt hr;simp[gv,hm,hrl,hok,qa]
   ·cases h
  try simp only[U,simprocAttr]
  refine .done (hK _ ?_);clear hK K;refine .aq (by decide +kernel) fun K hK =>?_;simp only[tc,U,simprocAttr];refine .done (hK _ ?_);clear hK K;refine J.bP ?_;simp only[ai,U,simprocAttr];refine ⟨fun h =>?_,fun h =>?_⟩
  ·cases h
  refine J.skip ?_;try simp only[au,simprocAttr]
  have hof:∀ j,j<i+1→kF (eb rs j)=true:=fun j hj=>by
   rcases Nat.lt_or_ge j i with h1 | h1
   ·exact hi.2 j h1
   ·have:j=i:=by omega
    subst this;exact hr
  refine .bK (by decide +kernel) fun K hK =>?_;simp only[wP,U,simprocAttr]
  try simp only[da,ev,Sd,aag,aaf,U,simprocAttr]
  refine .bV false [(7,40)] [] [enc (⟨m.fG,m.gD,jr m rs i⟩:cq),enc (eb rs i)] (LY 7 ⟨m.fG,m.gD,jr m rs i⟩ (eb rs i)) rfl (Qe ⟨m.fG,m.gD,jr m rs i⟩ (eb rs i) (fun g hg=>Ls hm g (anr hg)) (zu1 (Lk m rs i) hlen)) fX.nil ⟨.inl ⟨(j5 _ _).symm,bh _ _,dO _⟩,.inl ⟨(j5 _ _).symm,bh _ _,dO _⟩,trivial⟩ ?_ ?_
  ·rintro x os' (⟨_,rfl,rfl⟩ | ⟨k,rfl,rfl⟩)
   ·exact ee.nil (fun _=>rfl) (fun h=>by cases h)
   ·exact ee.p8 (fun p=>mS p _) (fun h=>by cases h) rfl (fun h=>by cases h) rfl (by decide)
  ·rintro x os' (⟨hp,rfl,rfl⟩ | ⟨k,rfl,rfl⟩)
   ·try simp only[j5,gP,zy5,U,simprocAttr]
    refine .done (hK _ ?_);clear hK K;try simp only[au,bS]
    refine .bK (by decide +kernel) fun K hK =>?_;simp only[td,U,simprocAttr];refine .done (hK _ ?_);clear hK K;try simp only[au]
    refine ⟨i+1,⟨by omega,hof⟩,by omega,?_⟩;rw[cL _ (by omega) (by omega),Ll,hp];refine az.bL ?_ ?_ ?_ ?_ <;>simp[aO,bC,bx,aZ,al,aP,b8,I.only,ah.only,bh]
   ·try simp only[iW,gP,fM,zy0,zy5,U,simprocAttr]
    refine .done (hK _ ?_);clear hK K;try simp only[au,bS]
    refine .bK (by decide +kernel) fun K hK =>?_;simp only[td,U,simprocAttr];refine .done (hK _ ?_);clear hK K;try simp only[au]
    refine ⟨i+1,⟨by omega,hof⟩,by omega,?_⟩;rw[cL _ (by omega) (by omega),Ll];refine az.oH (y:=enc (lp ⟨m.fG,m.gD,jr m rs i⟩ (eb rs i))) [40] 7 rfl ?_ ?_ ?_ ?_ ?_ ?_
    ·try simp only[gh,zx7,zw9,List.contains_cons,List.contains_nil,Nat.reduceBEq,Bool.or_false,BEq.rfl,qY (α:=cE) (sz:=7) rfl,zS,U,simprocAttr]
    ·simp[cJ,aZ,ah.only,bh]
    ·simp[aO,fK,aP,I.only,bh]
    ·simp[bC,cJ,b8]
    ·simp[bx,al,b8,I.only,bh]
    ·simp[aZ,ah.only,bh]
 refine .aq (by decide +kernel) fun K hK =>?_;simp only[Gc,U,simprocAttr]
 try simp only[da,ev,U,simprocAttr]
 refine .bV false [(7,21)] [] [enc m.given] (vS m.given) rfl (Ai m.given hlen) fX.nil ⟨.inl ⟨(j5 _ _).symm,bh _ _,dO _⟩,trivial⟩ ?_ ?_
 ·rintro x os' (⟨_,h | h,rfl⟩ | ⟨_,k,rfl,rfl⟩)
  ·subst h;exact ee.nil (fun _=>rfl) (fun h=>by cases h)
  ·subst h;exact ee.nil (fun _=>rfl) (fun h=>by cases h)
  ·exact ee.p8 (fun p=>mS p _) (fun h=>by cases h) rfl (fun h=>by cases h) rfl (by decide)
 ·rintro x os' (⟨hn,h,rfl⟩ | ⟨hn,k,rfl,rfl⟩)
  ·have hren:∀ x:I,(x=.nils 7∨x=.c0 7)→x.aQ (bJ [(7,21)])=x:=by rintro x (rfl | rfl) <;>simp only[I.aQ]
   rw[hren x h]
   try simp only[gP,zy5,U,simprocAttr]
   refine .done (hK _ ?_);clear hK K;refine J.sub (az.oH (y:=enc m.given) [] 7 rfl ?_ ?_ ?_ ?_ ?_ ?_) (key _ rfl)
   ·rw[hn];rcases h with rfl | rfl <;>simp only[gB,zx2] <;>rfl
   ·simp[cJ,aZ,ah.only,bh]
   ·simp[aO,fK,aP,I.only,bh]
   ·simp[bC,cJ,b8]
   ·simp[bx,al,b8,I.only,bh]
   ·simp[aZ,ah.only,bh]
  ·try simp only[iW,gP,fM,zy0,zy5,U,simprocAttr]
   refine .done (hK _ ?_);clear hK K;refine J.sub (az.oH (y:=enc m.given) [21] 7 rfl ?_ ?_ ?_ ?_ ?_ ?_) (key _ rfl)
   ·try simp only[gh,zx7,zw9,List.contains_cons,List.contains_nil,Nat.reduceBEq,Bool.or_false,BEq.rfl,qY (α:=cE) (sz:=7) rfl,zS,U,simprocAttr]
   ·simp[cJ,aZ,ah.only,bh]
   ·simp[aO,fK,aP,I.only,bh]
   ·simp[bC,cJ,b8]
   ·simp[bx,al,b8,I.only,bh]
   ·simp[aZ,ah.only,bh]
theorem Eu(n:Nat)(ts:List (Nat×I)):∀ t,Abs.bQ (fK [n] ts) t=if (Abs.bQ ts t).only (fun j => ![n].contains j)=true then Abs.bQ ts t else .dg:=by
 intro t;simp only[fK]
 induction ts with
 |nil=>simp[Abs.bQ]
 |cons q ts ih =>
  obtain ⟨k,v⟩:=q;simp only[zy2,Abs.bQ];split
  ·rfl
  ·exact ih
theorem Ev(ns:List Nat)(ts:List (Nat×I)):∀ t,Abs.bQ (fK ns ts) t=if (Abs.bQ ts t).only (fun j => !ns.contains j)=true then Abs.bQ ts t else .dg:=by
 intro t;simp only[fK]
 induction ts with
 |nil=>simp[Abs.bQ]
 |cons q ts ih =>
  obtain ⟨k,v⟩:=q;simp only[zy2,Abs.bQ];split
  ·rfl
  ·exact ih
theorem qC{p q:Nat→Bool}(h:∀ n,p n=true→q n=true){y:ah}(hy:y.only p=true):y.only q=true:=by
 cases y with
 |box x=>exact js h _ hy
 |b5 T sz es=>exact iT h _ hy
 |dT o=>rfl
 |c5 T xs=>rfl
 |cB ks vs=>simp only[ah.only,zz4] at hy ⊢;exact ⟨iT h _ hy.1,iT h _ hy.2⟩
 |it ks vs l c=>simp only[ah.only,zz4] at hy ⊢;exact ⟨iT h _ hy.1,iT h _ hy.2⟩
theorem ug{n k:Nat} : ∀ {ts:List (Nat×I)},(∀ q∈ts,mZ n k q.2)→∀ t,mZ n k (Abs.bQ ts t)
 | [],_,_=>.inr rfl
 |(a,v)::ts,h,t=>by
  simp only[Abs.bQ];split
  ·exact h (a,v) (by simp)
  ·exact ug (fun q hq=>h q (by simp[hq])) t
theorem ui{p:Nat→Bool}{n k:Nat}(hp:p=fun j => ![n].contains j)(f:ah→ah)(hf:∀ y:ah,y.only p=true→f y=y):∀ {os:List (Nat×ah)},aZ p (cJ [n] os)→aZ p (cJ [n] (os.map fun q=>(q.1,f q.2)))
 | [],_=>trivial
 |(m,y)::os,h=>by
  simp only[zy2,cJ,zx7] at h ⊢;split
  ·rename_i hm;rw[if_pos hm] at h;refine ⟨?_,ui (k:=k) hp f hf h.2⟩;rw[hf y h.1];exact h.1
  ·rename_i hm;rw[if_neg hm] at h;exact ui (k:=k) hp f hf h
theorem sY{ys q:List Int}{k:Nat}(hk:ys.length=k):j6 1 0 k (some ((ys++q).map enc))=some (enc ys):=by
 have h:(((ys++q).map (enc (α:=Int))).drop 0).take k=ys.map enc:=by
  rw[List.drop_zero,zx4,zx3 (by simp[hk]),zw1 (by simp[hk])]
 simp only[j6,h];rw[if_pos (jZ ys),gB];rfl
theorem zQ{n k:Nat} : ∀ y:ah,y.only (fun j => ![n].contains j)=true→iI (fq n k) y=y:=fun y hy=>by
 cases y <;>try rfl
 simp only[ah.only] at hy;simp only[iI,qA (js (fun j hj=>by simpa using hj) _ hy)]
theorem O6{n:Nat} : ∀ y:ah,y.only (fun j => ![n].contains j)=true→iI (fW n) y=y:=fun y hy=>by
 cases y <;>try rfl
 simp only[ah.only] at hy;simp only[iI,zP (js (fun j hj=>by simpa using hj) _ hy)]
theorem zN{ts ts':List (Nat×I)}(h:∀ q∈ts',Abs.bQ ts q.1=q.2):aO ts ts':=by
 induction ts' with
 |nil=>trivial
 |cons q ts' ih=>exact ⟨h q (by simp),ih fun q hq=>h q (by simp[hq])⟩
theorem J.fN{W0:World}{D0:aV}{nn:Nat}{ow:Nat→Prop}{E1:a6}{Y:Value→List I→List (Nat×ah)→cR→Prop}{kI:Option Nat}{y:aN}{Q:Exit→ae→Prop}{ts:List (Nat×I)}{os:List (Nat×ah)}{a b d n:Nat}{xs:List Int}
  (hd:Abs.bQ ts d=.own n xs.length) (hn:ak os n=some (.c5 3 xs)) (hlt:n<1000000) (hl:xs.length≤60) (ht:∀ t,mZ n xs.length (Abs.bQ ts t)) (ho:aZ (fun j => ![n].contains j) (cJ [n] os))
  (ts':List (Nat×I)) (h1:∀ q∈ts',q.1≠a∧q.1≠b∧Abs.bQ ts q.1=q.2∧q.2.only (fun j=>j != n)=true)
  (hda:d≠a) (hdb:d≠b)
  (h:J ⟨Tryz.prog,W0,D0,nn,ow,E1,Y,kI⟩ y Q (ar ((d,enc (di xs))::ts') (cJ [n] os))) :
  J ⟨Tryz.prog,W0,D0,nn,ow,E1,Y,kI⟩ (.seq (.bT none [⟨some a,.mv (.t d),none⟩,⟨some b,.call 107 [.t a],none⟩]) y) Q (ar ts os):=by
 have hdrop:∀ m,ak (cJ [n] os) m=if m=n then none else ak os m:=fun m=>by
  have:=l6 [n] os m;simpa using this
 have ho':∀ m y,ak os m=some y→m≠n→y.only (fun j=>j != n)=true:=fun m y hy hm=>by
  have:=uh ho m y (by rw[hdrop,if_neg hm];exact hy);exact qC (fun j hj=>by simpa using hj) this
 by_cases hx:xs=[]
 ·subst hx;refine J.sub (az.Pa hn (az.refl _)) ?_;refine J.seq (J.bT (cl:=[]) (by rfl) fun K hK =>?_);have hd':Abs.bQ (ts.map fun q=>(q.1,fW n q.2)) d=.nils 1:=by
   rw[nU _ rfl,hd];simp[fW]
  simp only[U,simprocAttr,hd'];refine .flat _ (zY _ (.inr rfl)) rfl ?_
  try simp only[U,simprocAttr]
  refine .done (hK _ ?_);clear hK K;refine J.sub ((az.gY [n] d (x:=.nils 1) (y:=enc ([]:List Int)) ?_ (by rfl) ?_).trans (az.cN ?_ fun m =>?_)) h
  ·simp only[Abs.bQ,hda,hdb,if_false];exact hd'
  ·exact ui (k:=0) rfl (iI (fW n)) O6 ho
  ·refine ⟨by simp[Abs.bQ,di],zN fun q hq =>?_⟩;obtain ⟨k1,k2,k3,k4⟩:=h1 q hq;have hqd:q.1≠d:=fun e=>by
    rw[e,hd] at k3;rw[←k3] at k4;simp[I.only] at k4
   have h5:Abs.bQ (ts.map fun p=>(p.1,fW n p.2)) q.1=q.2:=by
    rw[nU _ rfl,k3,zP k4]
   simp only[Abs.bQ,Eu,k1,k2,hqd,if_false,h5];rw[if_pos (js (fun j hj=>by simpa using hj) _ k4)]
  ·rw[hdrop,l6,rz];by_cases hm:m=n
   ·simp[hm]
   ·cases h6:ak os m with
    |none=>simp[hm]
    |some y =>
     have h7:iI (fW n) y=y:=O6 _ (qC (fun j hj=>by simpa using hj) (ho' _ _ h6 hm));simp[hm,h7]
 ·refine J.zU hn hx hlt ht (fun m y hy hm=>.inr (ho' m y hy hm)) fun q =>?_;refine J.seq (J.bT (cl:=[]) (by rfl) fun K hK =>?_);have hd':Abs.bQ (ts.map fun p=>(p.1,fq n xs.length p.2)) d=.view n [] 1 0 xs.length:=by
   rw[nU _ rfl,hd];simp[fq]
  simp only[U,simprocAttr,hd'];refine .bV false [(1000000,n)] (bN 1000000 (xs++List.replicate q 0)) [.view 1000000 [] 1 0 xs.length] _ rfl (uZ xs _ (by omega)) ?_ ?_ ?_ ?_
  ·refine ⟨fun m y hy =>?_,fun m m' h h' _=>by rw[cH.1 h,cH.1 h']⟩;simp only[bN,ak] at hy;split at hy
   ·rename_i hm;cases hy;subst hm;exact ⟨by simp only[bJ,if_true,ak,ah.aQ,I.aQ,fM],gj _ _,rfl⟩
   ·cases hy
  ·exact ⟨.inl ⟨by simp[I.aQ,bJ],cH.2 rfl,rfl⟩,trivial⟩
  ·rintro eb os2 ⟨rfl,rfl⟩;refine ⟨fun m y hy =>?_,fun m m' h h' _=>by rw[cH.1 h,cH.1 h'],fun m hm=>by rw[cH.1 hm];exact cH.2 rfl,fun m a b=>by rw[cH.1 a] at b;simp[bN,al,ak] at b,rfl,fun _=>rfl⟩;simp only[bN,ak] at hy;split at hy
   ·cases hy;exact ⟨gj _ _,rfl,fun h=>by cases h⟩
   ·cases hy
  ·rintro eb os2 ⟨rfl,rfl⟩
   try simp only[bN,dN,zy2,zx2,ah.aQ,I.aQ,fM,bJ,reduceIte,zy0,zy5,I.cZ,U,simprocAttr]
   refine .done (hK _ ?_);clear hK K;refine J.sub ((az.gY [n] d (x:=.view n [] 1 0 xs.length) (y:=enc (di xs)) ?_ ?_ ?_).trans (az.cN ?_ fun m =>?_)) h
   ·simp only[Abs.bQ,hda,hdb,if_false];exact hd'
   ·have:ak (gh [n] ((n,ah.box (I.agg ((di xs++List.replicate q 0).map enc)))::(n,ah.box (I.agg ((xs++List.replicate q 0).map enc)))::os.map fun p=>(p.1,iI (fq n xs.length) p.2))) n=some (.box (.agg ((di xs++List.replicate q 0).map enc))):=by
     rw[l7];simp[ak]
    try simp only[this,U,simprocAttr]
    exact sY (by simp[di])
   ·have:=ui (k:=0) rfl (iI (fq n xs.length)) zQ ho;simpa[cJ] using this
   ·refine ⟨by simp[Abs.bQ],zN fun q hq =>?_⟩;obtain ⟨k1,k2,k3,k4⟩:=h1 q hq;have hqd:q.1≠d:=fun e=>by
     rw[e,hd] at k3;rw[←k3] at k4;simp[I.only] at k4
    have h5:Abs.bQ (ts.map fun p=>(p.1,fq n xs.length p.2)) q.1=q.2:=by
     rw[nU _ rfl,k3,qA k4]
    simp only[Abs.bQ,Eu,k1,k2,hqd,if_false,h5];rw[if_pos (js (fun j hj=>by simpa using hj) _ k4)]
   ·rw[hdrop,l6];by_cases hm:m=n
    ·simp[hm]
    ·simp only[ak,if_neg hm,rz];cases h6:ak os m with
     |none=>simp[hm]
     |some y =>
      have h7:iI (fq n xs.length) y=y:=zQ _ (qC (fun j hj=>by simpa using hj) (ho' _ _ h6 hm));simp[hm,h7]
def fE(l:List ao)(o:List Nat)(i:Nat):List aH×List Nat:=(o.take i).foldl (jB fQ l) ([],[])
theorem LS{l:List ao}{o:List Nat}{i:Nat}(h:i<o.length):fE l o (i+1)=jB fQ l (fE l o i) (o.getD i 0):=by
 have e:o.getD i 0=o[i]:=by rw[zz2,zy1 h];rfl
 simp only[fE];rw[zz7 h,List.foldl_append,e];rfl
theorem LR(l:List ao)(o:List Nat):fE l o o.length=jv fQ l o:=by simp only[fE,zv1];rfl
theorem RF{bs bs':List aH}{x:ao}{n:Nat}(hs:∀ b∈bs,b.bH.length≤n)(h:dz fQ bs x=some bs'):bs'.length≤bs.length+1∧∀ b∈bs',b.bH.length≤n+1:=by
 simp only[dz] at h;split at h
 ·split at h
  ·simp only[t7] at h;subst h;refine ⟨by simp[fQ],fun b hb =>?_⟩;simp only[fQ,zx1,List.mem_singleton] at hb;rcases hb with hb | rfl
   ·exact Nat.le_succ_of_le (hs b hb)
   ·simp[fu]
  ·cases h
 ·split at h
  ·cases h
  ·rename_i b0 hb0;simp only[zz1] at h;obtain ⟨b',hb',rfl⟩:=h;refine ⟨by simp[nd],fun b hb =>?_⟩;simp only[nd,zw5] at hb;obtain ⟨c,hc,rfl⟩:=hb;split
   ·have h0:=hs b0 (Km hb0).1;simp only[fP] at hb'
    repeat' split at hb'
    all_goals first
     |(cases hb';done)
     |(simp only[t7] at hb';subst hb';simp only[zz5,List.length_singleton];omega)
     |(simp only[t7] at hb';subst hb';simp only;omega)
   ·exact Nat.le_succ_of_le (hs c hc)
theorem uo(l:List ao)(o:List Nat):∀ i,i≤o.length→((fE l o i).1.map (·.no)).Nodup∧(fE l o i).1.length≤i∧(∀ b∈(fE l o i).1,b.bH.length≤i)∧(fE l o i).2.length≤i
 |0,_=>⟨by simp[fE],by simp[fE],by simp[fE],by simp[fE]⟩
 |i+1,h=>by
  obtain ⟨h1,h2,h3,h4⟩:=uo l o i (by omega);rw[LS (by omega)];simp only[jB];split
  ·rename_i bs hb;have:=RF h3 hb;exact ⟨AN sw h1 hb,by simp only;omega,this.2,by simp only;omega⟩
  ·exact ⟨h1,by simp only;omega,fun b hb=>Nat.le_succ_of_le (h3 b hb),by simp;omega⟩
theorem K4(B:Nat)(b:aH):∀ (bs:List aH) (i:Nat),fe B i (bs++[b])=fe B i bs++fe B (i+bs.length) [b]
 | [],i=>rfl
 |a::bs,i=>by
  simp only[zy0,fe,K4 B b bs (i+1),List.length_cons];rw[show i+1+bs.length=i+(bs.length+1) by omega]
theorem aof(B n:Nat):ez B (n+1)=ez B n++[.ptr (B+2+2*n) []]:=by
 simp only[ez,List.range_succ,zx4,zy2,zx2]
theorem re{bs:List aH}{n:Nat}(h:¬ (n=43∨n=41∨(2002≤n∧n<2002+2*bs.length))):ak (ec bs) n=none:=by
 have:=xZ (bs:=bs) (n:=n);rw[decide_eq_false h] at this;simpa[al] using this
theorem alq{bs:List aH}{n:Nat}(h:n=43∨n=41∨(2002≤n∧n<2002+2*bs.length)):∃ y,ak (ec bs) n=some y:=by
 have:=xZ (bs:=bs) (n:=n);rw[decide_eq_true h] at this;exact zw7.1 this
theorem yi{bs bs':List aH}{z y:ah}(h:bs.length≤bs'.length)(n:Nat):ak (ec bs'++((900,z)::(ec bs++[(3,y)]))) n=ak ((900,z)::(ec bs'++[(3,y)])) n:=by
 simp only[kE,ak];by_cases h1:n=43∨n=41∨(2002≤n∧n<2002+2*bs'.length)
 ·obtain ⟨u,hu⟩:=alq h1;have:n≠900:=by omega
  simp only[hu,this,if_false]
 ·have h2:ak (ec bs) n=none:=re (by omega);simp only[re h1,h2]
theorem amc{bs:List aH}{z z' y:ah}(n:Nat):ak ((900,z')::(ec bs++((900,z)::(ec bs++[(3,y)])))) n=ak ((900,z')::(ec bs++[(3,y)])) n:=by
 have h:=yi (bs:=bs) (bs':=bs) (z:=z) (y:=y) (zz9 _) n;by_cases hn:n=900
 ·simp only[ak,hn,if_true]
 ·simp only[ak,if_neg hn] at h ⊢;rw[h]
theorem amb{bs:List aH}{b:aH}{z y:ah}(hk:bs.length≤60)(hb:b.bH=[])(n:Nat) :
  ak ((2002+2*bs.length,.box (eC b (.own (2003+2*bs.length) 0)))::(2003+2*bs.length,.b5 66 6 [])::(nK bs b++((900,z)::(ec bs++[(3,y)])))) n=ak ((900,z)::(ec (bs++[b])++[(3,y)])) n:=by
 have hC:ak (ec (bs++[b])) n=if n=43 then some (.box (.agg [.mref 41])) else if n=41 then some (.cB (dw (bs++[b])) (ez 2000 bs.length++[.ptr (2002+2*bs.length) []])) else
   match ak (fe 2000 0 bs) n with
   |some u=>some u
   |none=>if n=2002+2*bs.length then some (.box (eC b (.own (2003+2*bs.length) 0))) else if n=2003+2*bs.length then some (.b5 66 6 []) else none:=by
  simp only[ec,ak,K4,kE,fe,hb,zx2,zv7,zz5,List.length_singleton,aof,zz3];rfl
 have hL:ak (ec bs) n=if n=43 then some (.box (.agg [.mref 41])) else if n=41 then some (.cB (dw bs) (ez 2000 bs.length)) else ak (fe 2000 0 bs) n:=rfl
 have hlow:n<2002→ak (fe 2000 0 bs) n=none:=fun h=>tI 2000 bs 0 n (by omega);have hhigh:2002+2*bs.length≤n→ak (fe 2000 0 bs) n=none:=fun h=>tG 2000 bs 0 n (by omega);simp only[ak,kE,nK,zy0,hC,hL];by_cases c1:n=2002+2*bs.length
 ·have d1:¬ n=900:=by omega
  have d2:¬ n=43:=by omega
  have d3:¬ n=41:=by omega
  rw[if_pos c1,if_neg d1,if_neg d2,if_neg d3,hhigh (by omega)];simp only[c1,if_true]
 by_cases c2:n=2003+2*bs.length
 ·have d1:¬ n=900:=by omega
  have d2:¬ n=43:=by omega
  have d3:¬ n=41:=by omega
  rw[if_neg c1,if_pos c2,if_neg d1,if_neg d2,if_neg d3,hhigh (by omega)];simp only[c2,if_true];rw[if_neg (by omega)]
 rw[if_neg c1,if_neg c2];by_cases c3:n=41
 ·have d1:¬ n=900:=by omega
  have d2:¬ n=43:=by omega
  rw[if_pos c3,if_neg d1,if_neg d2,if_pos c3]
 rw[if_neg c3,if_neg c1];by_cases gT:n=43
 ·have d1:¬ n=900:=by omega
  simp only[gT,if_true];simp
 rw[if_neg gT,if_neg gT];by_cases jc:n=900
 ·have:=hlow (by omega);subst jc;simp[this]
 ·cases hq:ak (fe 2000 0 bs) n with
  |some u=>simp only[jc,c3,if_false]
  |none=>simp only[jc,c3,c1,c2,if_false]
theorem yN{p:Nat→Bool}{ns:List Nat} : ∀ {os:List (Nat×ah)},aZ p os→aZ p (cJ ns os)
 | [],_=>trivial
 |(m,y)::os,h=>by
  simp only[cJ,zx7];split
  ·exact ⟨h.1,yN h.2⟩
  ·exact yN h.2
theorem Lz{p:Nat→Bool} : ∀ {os os':List (Nat×ah)},aZ p os→aZ p os'→aZ p (os++os')
 | [],_,_,h=>h
 |_::_,_,h,k=>⟨h.1,Lz h.2 k⟩
theorem K5{p:Nat→Bool}{B:Nat}(hp:∀ j,B≤j→p j=true):∀ (bs:List aH) (i:Nat),aZ p (fe B i bs)
 | [],_=>trivial
 |b::bs,i=>⟨by simp[ah.only,eC,I.only,I.bW,hp _ (show B≤B+3+2*i by omega)],dn _ _,K5 hp bs (i+1)⟩
theorem alp{p:Nat→Bool}(hp:∀ j,2000≤j→p j=true)(h41:p 41=true)(bs:List aH):aZ p (ec bs) :=
 ⟨by simp[ah.only,I.only,I.bW,h41],by simp only[ah.only,zz4];exact ⟨dn _ _,yP _ fun i _=>hp _ (by omega)⟩,K5 hp bs 0⟩
def eQ(bs:List aH):I:=.ref (.agg [.c6 (dw bs) (bs.map fun b=>.ref (enc (⟨b⟩:eK)))])
theorem La{f:I→Option I} : ∀ {xs ys:List I},xs.length=ys.length→(∀ (i:Nat) (x y:I),xs[i]?=some x→ys[i]?=some y→f x=some y)→fT f xs=some ys
 | [],[],_,_=>rfl
 |x::xs,y::ys,hl,h=>by
  have h1:=h 0 x y rfl rfl;have h2:=La (f:=f) (xs:=xs) (ys:=ys) (by simpa using hl) fun i a b ha hb=>h (i+1) a b ha hb;simp only[fT,h1,h2]
theorem aaL{A:ae}{bs:List aH}(hA:∀ m y,ak (ec bs) m=some y→A.o m=some y):bl true A (.ptr 43 [])=some (eQ bs):=by
 have h43:A.o 43=some (.box (.agg [.mref 41])):=hA _ _ rfl;have h41:A.o 41=some (.cB (dw bs) (ez 2000 bs.length)):=hA _ _ rfl;have hl:∀ k,k<bs.length→2002+2*k≠43∧2002+2*k≠41∧2003+2*k≠43∧2003+2*k≠41:=fun k hk=>by omega
 have hm:fT (dD A 7) (ez 2000 bs.length)=some (bs.map fun b=>.ref (enc (⟨b⟩:eK))):=by
  refine La (by simp[ez]) fun i x y hx hy =>?_;have hi:i<bs.length:=by
   have:=(zy6.1 hx).1;simpa[ez] using this
  rw[LZ hi] at hx;simp only[zw6,zy1 hi,zy7,t7] at hx hy;subst hx hy;obtain ⟨q1,q2,q3,q4⟩:=hl i hi;have h1:A.o (2000+2+2*i)=some (.box (eC bs[i] (.own (2000+3+2*i) (bs[i]).bH.length))):=hA _ _ (by
   simp only[ec,ak];rw[if_neg (by omega),if_neg (by omega)];have:=tH 2000 bs 0 i hi
   rwa [zz3] at this)
  have h2:A.o (2000+3+2*i)=some (.b5 66 6 ((bs[i]).bH.map enc)):=hA _ _ (by
   simp only[ec,ak];rw[if_neg (by omega),if_neg (by omega)];have:=tJ 2000 bs 0 i hi
   rwa [zz3] at this)
  have h3:=mM (m:=3) h2;have h4:cC A (.ptr (2000+2+2*i) [])=some (eC bs[i] (.own (2000+3+2*i) (bs[i]).bH.length)):=by
   simp only[cC,h1];exact nv _
  rw[dD];simp only[I.bu,zz8,if_false,h4];rw[h3];rfl
 have h5:dD A 8 (.mref 41)=some (.c6 (dw bs) (bs.map fun b=>.ref (enc (⟨b⟩:eK)))):=by
  rw[dD];simp only[I.bu,zz8,if_false,h41];rw[if_pos (show I.b6 (dw bs)=true from jZ _),hm];rfl
 have h6:dD A 9 (.agg [.mref 41])=some (.agg [.c6 (dw bs) (bs.map fun b=>.ref (enc (⟨b⟩:eK)))]):=by
  rw[dD];simp only[I.bu,I.b6,Bool.and_true,zz8,if_false,fT,h5,zy7]
 simp only[bl,cC,h43,if_true,nv,I.bu,I.b6,Bool.and_true,zz8,if_false,h6];rfl
def rL(l:List ao)(day known:Int):I:=.tuple [eQ (jv fQ l (fV l day known)).1,enc (di (cz (jv fQ l (fV l day known)).2))]
def Q7(l:List ao)(ord:List Int):ae:=ar [(3,.ptr 3 []),(9,.nils 1),(11,.ptr 43 []),(12,kV),(45,enc ord),(46,.int .i64 ord.length),(47,.int .i64 0)] [(43,.box (.agg [.mref 41])),(41,.cB [] []),(3,.box (enc l))]
def AB(l:List ao)(o:List Nat)(i:Nat):ae:=ar [(3,.ptr 3 []),(9,.own 900 (cz (fE l o i).2).length),(11,.ptr 43 []),(12,kV),(45,enc (cz o)),(46,.int .i64 (cz o).length),(47,.int .i64 i)] ((900,.c5 3 (cz (fE l o i).2))::(ec (fE l o i).1++[(3,.box (enc l))]))
theorem alG{xs:List Int}{i:Nat}(h:i<xs.length)(A:ae):jl A 1 (i:Int) (enc xs)=some (.ref (.int .i64 (xs.getD i 0))):=by
 rw[eh 1 (by omega) rfl,zz2,zy1 h];rfl
noncomputable abbrev DU (W0:World) (D0:aV) (E1:a6):cT := { P:=Tryz.prog,fr:=W0,D0:=D0,n:=Tryz.f88.ntmps,own:=dG E1,dB:=E1,Y:=iR,kI:=none }
def Pk:aN:=((aN.bT none tl).seq ((aN.cond (aM.t 48) aN.skip (aN.exit 2)).seq ((aN.block 3 ((aN.bT none xE).seq ((aN.bT DW tm).seq (aN.cond (aM.t 64) (aN.bT none J8) aN.skip)))).seq (aN.bT none J9))))
def apR:aN:=(aN.bT none Ka).seq ((aN.bT none Kb).seq aN.ret)
theorem Au(l:List ao)(day known:Int)(hok:dF l=true){W0:World}{D0:aV}{E1:a6} : J (DU W0 D0 E1) (.block 2 (.loop Pk)) (au (fun B=>J (DU W0 D0 E1) apR (jR [.tmp 6,.tmp 7] (rL l day known)) B) (jR [.tmp 6,.tmp 7] (rL l day known))) (Q7 l (qg l day known)):=by
 have hl:=n9 hok;have hmem:∀ i∈fV l day known,i<l.length∧(ab l i).kind≠0:=fun i hi=>by
  have h1:=LM hi;refine ⟨wb h1,?_⟩;have:=(zv6.1 h1).2;simp only[zz4,decide_eq_true_eq] at this;exact this.1
 have hol:(fV l day known).length≤60:=by rw[yT];exact zu1 (sR l day known) hl
 have hall:=LR l (fV l day known);simp only[rL,qg,←hall];clear hall;generalize fV l day known=o at hmem hol ⊢;have htl:(cz o).length=o.length:=by simp[cz]
 refine J.block (J.loop (fun i:Nat=>AB l o i) (fun i=>i≤o.length) (fun i=>o.length-i) 0 (zw8 _) ?_ (fun i hi =>?_))
 ·refine az.AF 9 900 3 1 rfl rfl ?_;refine az.cN ?_ (fun n =>?_)
  ·simp[aO,aP,fE,cz]
  ·simp only[fE,cz,List.take_zero,List.foldl_nil,zx2,ec,fe,ez,dw,zv7,List.range_zero,zy0,zy5]
 obtain ⟨hnd,hbl,hsl,hvl⟩:=uo l o i hi;simp only[AB,Pk];have n3:ak ((900,.c5 3 (cz (fE l o i).2))::(ec (fE l o i).1++[(3,.box (enc l))])) 3=some (.box (enc l)):=by
  simp only[ak,kE];rw[re (by omega)];rfl
 by_cases hlt:i<o.length
 ·have hc:decide ((i:Int)<((cz o).length:Int))=true:=by rw[htl];exact eR hlt
  have hw:=dX (i:=i) (by omega);have hst:=LS (l:=l) hlt;generalize fE l o i=s at *;obtain ⟨bs,vd⟩:=s;simp only at hnd hbl hsl hvl n3 hst ⊢;obtain ⟨j,hj⟩:∃ j,j=o.getD i 0:=⟨_,rfl⟩
  have hjm:j∈o:=by
   rw[hj,zz2,zy1 hlt];exact zx8 hlt
  obtain ⟨hjl,hjk⟩:=hmem j hjm;rw[←hj] at hst;have he:=hE hjl;have hi2:∀ A,jl A 1 (i:Int) (enc (cz o))=some (.ref (.int .i64 (j:Int))):=fun A=>by
   rw[alG (by omega),hj]
   congr 3
   simp[cz,zz2,zy1 hlt]
  obtain ⟨f,hf1,hf2,hf3⟩:=vY (bs:=bs) (uf hok hjl) hjk hnd (fun b hb=>by have:=hsl b hb;omega);have hmo:∀ A,gN A kV=some (nB,nC):=fun A=>rfl;refine .aq (by decide +kernel) fun K hK =>?_;simp only[tl,U,simprocAttr];simp only[hc];refine .done (hK _ ?_);clear hK K;refine J.seq ?_;refine J.bP ?_;simp only[ai,U,simprocAttr];refine ⟨fun h =>?_,fun h =>?_⟩
  case refine_2=>cases h
  refine J.skip ?_;try simp only[au,simprocAttr]
  refine J.seq (J.block ?_);refine .aq (by decide +kernel) fun K hK =>?_;simp only[xE,U,simprocAttr]
  try simp only[hi2,U,simprocAttr]
  refine .done (hK _ ?_);clear hK K;refine J.seq (J.qm (gs:=tm) [172,173,174,175,176,177] [] [0,1,2,3,4,5,6,7,8,9,10,11,12,13] (by decide +kernel) (eA.of trivial) fun K hK =>?_)
  try simp only[lj,tm,List.getD_cons_zero,List.getD_cons_succ,n3,he,hmo,hf1,cD,eM,aJ,U,simprocAttr]
  have hlo:∀ bs',bs.length≤bs'.length→ak (ec bs'++((900,.c5 3 (cz vd))::(ec bs++[(3,.box (enc l))]))) 900=some (.c5 3 (cz vd)):=fun bs' h=>by
   rw[yi h];rfl
  have htv:(cz vd).length=vd.length:=by simp[cz]
  have hap:=fun (A:ae) d rest=>vq (A:=A) (d:=d) (e:=3) (bytes:=8) (n:=900) (l:=(cz vd).length) (xs:=cz vd) (y:=(j:Int)) (rest:=rest) rfl (by simp[cz,maxLen];omega) (by simp[cz];omega);refine cj.vY (by omega) hf2 hf3 rfl (fun hb =>?_) (fun bs' hb hk =>?_) (fun hb =>?_)
  ·have hs2:fE l o (i+1)=(bs,vd++[j]):=by rw[hst];simp only[jB,hb]
   have h900:=hlo bs (zz9 _)
   try simp only[U,simprocAttr]
   have R:=u8 @h900 (u8 @hap (u8 @cD (u8 @aX (u8 @aJ @U))))
   repeat' ((first |(with_reducible refine .guard (fun hb =>?_) (fun hb =>?_) <;>try simp only[hb])|refine J.aE (by decide +kernel) rfl fun K hK =>?_|(refine .ay [0,1,2,3,4,6,7,8,9,10,11,12,14,17,18,33,45,46,47,48,64] hK ?_;clear hK K)|(with_reducible refine .done (hK _ ?_);clear hK K)|refine J.of rfl ?_|(with_reducible refine ai.aB (fun h =>?_) (fun h =>?_) <;>try simp only[h])) <;>try simp only[aF,R,simprocAttr])
   all_goals clear R
   refine ⟨i+1,by omega,by omega,?_⟩;rw[hs2,hw];have e:cz (vd++[j])=cz vd++[(j:Int)]:=by simp[cz]
   simp only[e];refine az.cN ?_ (fun n=>amc n);simp[aO,aP]
  ·have hs2:fE l o (i+1)=(bs',vd):=by rw[hst];simp only[jB,hb]
   try simp only[U,simprocAttr]
   have R:=u8 @cD (u8 @aX (u8 @aJ @U))
   repeat' ((first |(with_reducible refine .guard (fun hb =>?_) (fun hb =>?_) <;>try simp only[hb])|refine J.aE (by decide +kernel) rfl fun K hK =>?_|(refine .ay [0,1,2,3,4,6,7,8,9,10,11,12,14,17,18,33,45,46,47,48,64] hK ?_;clear hK K)|(with_reducible refine .done (hK _ ?_);clear hK K)|refine J.of rfl ?_|(with_reducible refine ai.aB (fun h =>?_) (fun h =>?_) <;>try simp only[h])) <;>try simp only[aF,R,simprocAttr])
   all_goals clear R
   refine ⟨i+1,by omega,by omega,?_⟩;rw[hs2,hw];refine az.cN ?_ (fun n=>yi (Nat.le_of_eq (vt hk hb).symm) n);simp[aO,aP]
  ·have hs2:fE l o (i+1)=(bs++[fu (ab l j)],vd):=by rw[hst];simp only[jB,hb]
   try simp only[U,simprocAttr]
   have R:=u8 @cD (u8 @aX (u8 @aJ @U))
   repeat' ((first |(with_reducible refine .guard (fun hb =>?_) (fun hb =>?_) <;>try simp only[hb])|refine J.aE (by decide +kernel) rfl fun K hK =>?_|(refine .ay [0,1,2,3,4,6,7,8,9,10,11,12,14,17,18,33,45,46,47,48,64] hK ?_;clear hK K)|(with_reducible refine .done (hK _ ?_);clear hK K)|refine J.of rfl ?_|(with_reducible refine ai.aB (fun h =>?_) (fun h =>?_) <;>try simp only[h])) <;>try simp only[aF,R,simprocAttr])
   all_goals clear R
   refine ⟨i+1,by omega,by omega,?_⟩;rw[hs2,hw];refine az.Rk (2002+2*bs.length) (2003+2*bs.length) 66 6 6 [0,8] (eC (fu (ab l j)) (.nils 6)) ?_ rfl ?_ ?_ (by omega)
   ·have:¬ 2002+2*bs.length=41:=by omega
    simp[nK,ak,this]
   ·have h1:¬ 2003+2*bs.length=41:=by omega
    have h2:¬ 2003+2*bs.length=2002+2*bs.length:=by omega
    have h3:¬ 2003+2*bs.length=900:=by omega
    have h4:¬ 2003+2*bs.length=3:=by omega
    have h5:ak (ec bs) (2003+2*bs.length)=none:=re (by omega);simp only[nK,zy0,ak,kE,h1,h2,h3,h4,h5,if_false]
   ·refine az.cN ?_ (fun n=>amb (by omega) rfl n);simp[aO,aP]
 ·have hio:i=o.length:=by omega
  subst hio;have hc:decide ((o.length:Int)<((cz o).length:Int))=false:=by simp[htl]
  refine .aq (by decide +kernel) fun K hK =>?_;simp only[tl,U,simprocAttr]
  try simp only[hc,simprocAttr]
  refine .done (hK _ ?_);clear hK K;refine J.seq ?_;refine J.bP ?_;simp only[ai,U,simprocAttr];refine ⟨fun h =>?_,fun h =>?_⟩
  case refine_1=>cases h
  refine J.exit ?_;try simp only[au,bS,simprocAttr]
  generalize fE l o o.length=s at *;obtain ⟨bs,vd⟩:=s;simp only at hnd hbl hsl hvl ⊢;have htv:(cz vd).length=vd.length:=by simp[cz]
  have hw2:∀ t,mZ 900 (cz vd).length (Abs.bQ [(48,I.bool false),(3,.ptr 3 []),(9,.own 900 (cz vd).length),(11,.ptr 43 []),(12,kV),(45,enc (cz o)),(46,.int .i64 ((cz o).length:Int)),(47,.int .i64 (o.length:Int))] t):=ug (by simp[mZ,I.only,bh,kV,I.bW]);refine J.fN (a:=70) (b:=71) (d:=9) (n:=900) (xs:=cz vd) rfl rfl (by decide) (by omega) hw2 ?_ [(11,.ptr 43 [])] ?_ (by decide) (by decide) ?_
  ·refine yN ⟨rfl,Lz (alp (fun j hj=>by simp;omega) (by decide) bs) ⟨bh _ _,trivial⟩⟩
  ·simp[Abs.bQ,I.only]
  ·have hfin:=fun (ts:List (Nat×I))=>aaL (A:=ar ts (cJ [900] ((900,.c5 3 (cz vd))::(ec bs++[(3,.box (enc l))])))) (bs:=bs) (fun m y hy=>by
    have:m≠900:=fun e=>by
     rw[e,re (by omega)] at hy;cases hy
    simp only[ar,l6];simp[ak,this,kE,hy])
   have R:=u8 @hfin (u8 @aX (u8 @aJ @U))
   repeat' ((first |(with_reducible refine .guard (fun hb =>?_) (fun hb =>?_) <;>try simp only[hb])|refine J.aE (by decide +kernel) rfl fun K hK =>?_|(refine .ay [0,1,2,3,4,6,7,8,9,10,11,12,14,17,18,33,45,46,47,48,64] hK ?_;clear hK K)|(with_reducible refine .done (hK _ ?_);clear hK K)|refine J.of rfl ?_|(with_reducible refine ai.aB (fun h =>?_) (fun h =>?_) <;>try simp only[h])) <;>try simp only[aF,R,simprocAttr])
   all_goals clear R
theorem ao9{xs ys:List Int}(h:xs.Perm ys):di xs=di ys:=by
 unfold di;have hx:=List.pairwise_mergeSort (le:=fun x y:Int=>decide (x≤y)) (by intro a b c;simp;omega) (by intro a b;simp;omega) xs;have hy:=List.pairwise_mergeSort (le:=fun x y:Int=>decide (x≤y)) (by intro a b c;simp;omega) (by intro a b;simp;omega) ys;refine List.Perm.eq_of_pairwise (fun a b _ _ h k =>?_) hx hy ((List.mergeSort_perm _ _).trans (h.trans (List.mergeSort_perm _ _).symm));simp only[decide_eq_true_eq] at h k;omega
theorem amE{A:ae}{d:Option Nat}{n:Nat}{rest:List aG}{ks vs:List I}{cur:Option Nat} : qd A d n rest (some (.it ks vs [] cur))=aC rest (A.aS d (.tuple [.bool false])):=by
 simp only[qd,if_true]
theorem br.jO{P:Program}{Y:Value→List I→List (Nat×ah)→cR→Prop}{K:ae→Prop}{A:ae}{d:Option Nat}{n:Nat}{rest:List aG}{ks vs:List I}{left:List Nat}{cur:Option Nat}(hl:left≠[])
  (h:∀ i,i∈left→∃ kk x,ks[i]?=some kk∧vs[i]?=some x∧br P Y false K (aC rest ((A.aR n (.it ks vs (left.filter (· != i)) (some i))).aS d (.tuple [.bool true,kk,x])))) :
  br P Y false K (qd A d n rest (some (.it ks vs left cur))):=by
 simp only[qd,if_neg hl];refine .any rfl fun i hi =>?_;obtain ⟨kk,x,h1,h2,h3⟩:=h i hi;simp only[h1,h2];exact h3
def jt(bs:List aH)(p:aH→Bool)(ay:List Nat):List Int:=((ay.map fun i=>bs.getD i default).filter p).map (·.no)
theorem an6(bs:List aH)(p:aH→Bool)(ay:List Nat)(i:Nat):jt bs p (ay++[i])=jt bs p ay++if p (bs.getD i default) then [(bs.getD i default).no] else []:=by
 simp only[jt,zx4,zu3,zy2,zx2,zx7,zw9]
 congr 1
 split <;>rfl
theorem LQ(bs:List aH)(p:aH→Bool)(ay:List Nat):(jt bs p ay).length≤ay.length:=by
 simp only[jt,zy3];exact zu1 (zu2 _ _) (by simp)
theorem an5{bs:List aH}{p:aH→Bool}{ay:List Nat}(h:ay.Perm (List.range bs.length)):(jt bs p ay).Perm ((bs.filter p).map (·.no)):=by
 have e:(List.range bs.length).map (fun i=>bs.getD i default)=bs:=by
  refine List.ext_getElem (by simp) fun i h1 h2 =>?_;simp[zz2,h2]
 simp only[jt];refine List.Perm.map _ ?_;have:=(h.map fun i=>bs.getD i default).filter p
 rwa [e] at this
theorem anN(p:Nat→Bool)(bs:List aH):I.bW p (bs.map fun b=>.ref (enc (⟨b⟩:eK)))=true:=by
 induction bs with
 |nil=>rfl
 |cons b bs ih=>simp only[zy2,I.bW,I.only,bh,ih,zw4]
def AA(bs:List aH)(p:aH→Bool)(f:FuncId)(caps:List I)(s:List Nat×List Nat×Option Nat):ae :=
 ar [(1,.func f caps),(5,.own 905 (jt bs p s.1).length),(12,.dE 12)] [(12,.it (dw bs) (bs.map fun b=>.ref (enc (⟨b⟩:eK))) s.2.1 s.2.2),(905,.c5 3 (jt bs p s.1))]
theorem sh(bs:List aH)(hn:bs.length≤60)(f:FuncId)(caps:List I)(hcaps:I.eI caps=true)(p:aH→Bool)(hf:∀ b∈bs,aw Tryz.prog f (.ref (enc (⟨b⟩:eK))::caps) (enc (p b))) :
  aw Tryz.prog 72 [eQ bs,.func f caps] (enc (di ((bs.filter p).map (·.no)))):=by
 refine aw.bj Tryz.func72 TY V4 Yp (zz0 rfl) (fun hwf W0 D0 E1 =>?_);simp only[CN,NM,bg,zz3];clear hwf;have hcl:I.b6 caps=true:=kv caps hcaps;have hfc:∀ aD A,b7 aD A caps=some caps:=fun aD A=>j7 aD A caps hcaps;have hon:∀ q,I.bW q caps=true:=fun q=>ke q caps hcl;refine .aq (by decide +kernel) fun K hK =>?_;simp only[JT,U,simprocAttr];refine .done (hK _ ?_);clear hK K;refine .aq (by decide +kernel) fun K hK =>?_;simp only[JU,U,simprocAttr];refine .done (hK _ ?_);clear hK K;refine J.seq (J.seq ?_);refine .bK (by decide +kernel) fun K hK =>?_;simp only[JV,U,simprocAttr]
 try simp only[eQ,cD,eM,aJ,U,simprocAttr]
 refine .done (hK _ ?_);clear hK K;try simp only[au]
 refine J.block (J.loop (AA bs p f caps) (fun s=>(s.1++s.2.1).Perm (List.range bs.length)) (fun s=>s.2.1.length) ([],List.range bs.length,none) (by simp) ?_ ?_)
 ·refine az.AF 5 905 3 1 rfl rfl ?_;refine az.cN ?_ (fun n =>?_)
  ·simp[aO,aP,jt]
  ·simp only[jt,zx2,zw9,b8,tK,dw,zy3]
   (repeat' split) <;>simp_all
 rintro ⟨ay,left,cur⟩ hC;simp only at hC;have hlen:ay.length+left.length=bs.length:=by simpa using hC.length_eq
 have hpl:=LQ bs p ay;simp only[AA];by_cases hl:left=[]
 ·subst hl;refine .aq (by decide +kernel) fun K hK =>?_;simp only[xD,U,simprocAttr]
  try simp only[eM,amE,U,simprocAttr]
  refine .done (hK _ ?_);clear hK K;refine J.seq ?_;refine J.bP ?_;simp only[ai,U,simprocAttr];refine ⟨fun h =>?_,fun h =>?_⟩
  case refine_1=>cases h
  refine J.exit ?_;try simp only[au,bS,simprocAttr]
  have hdn:(jt bs p ay).Perm ((bs.filter p).map (·.no)):=an5 (by simpa using hC);rw[←ao9 hdn];generalize jt bs p ay=xs at hpl;refine J.fN (a:=25) (b:=26) (d:=5) (n:=905) (xs:=xs) rfl rfl (by decide) (by omega) (ug (by simp[mZ,I.only,I.bW,hon])) (by simp only[cJ,dw,zx7,zw9,List.contains_cons];simp[aZ,ah.only,dn,anN,-List.map_map]) [] (by simp) (by decide) (by decide) ?_;have R:=u8 @aJ @U
  repeat' ((first |(with_reducible refine .guard (fun hb =>?_) (fun hb =>?_) <;>try simp only[hb])|refine J.aE (by decide +kernel) rfl fun K hK =>?_|(refine .ay [0,1,4,5,6,7,12,14,20] hK ?_;clear hK K)|(with_reducible refine .done (hK _ ?_);clear hK K)|refine J.of rfl ?_|(with_reducible refine ai.aB (fun h =>?_) (fun h =>?_) <;>try simp only[h])) <;>try simp only[aF,R,simprocAttr])
  all_goals clear R
 ·refine .aq (by decide +kernel) fun K hK =>?_;simp only[xD,U,simprocAttr]
  try simp only[eM,U,simprocAttr]
  refine br.jO hl fun i hi =>?_;have hib:i<bs.length:=zv2.1 (hC.mem_iff.1 (by simp[hi]));refine ⟨enc (bs[i]).no,.ref (enc (⟨bs[i]⟩:eK)),by simp[dw,hib],by simp[hib],?_⟩;have hx:bs.getD i default=bs[i]:=by simp[zz2,hib]
  try simp only[U,simprocAttr]
  refine .done (hK _ ?_);clear hK K;refine J.seq ?_;refine J.bP ?_;simp only[ai,U,simprocAttr];refine ⟨fun h =>?_,fun h =>?_⟩
  case refine_2=>cases h
  refine J.skip ?_;try simp only[au,simprocAttr]
  refine J.block ?_;have hent:pJ (dw bs) (bs.map fun b=>.ref (enc (⟨b⟩:eK))) (some i)=some (.tuple [.int .i64 (bs[i]).no,.ref (enc (⟨bs[i]⟩:eK))]):=by
   simp[pJ,dw,hib,ga]
  have hsn:=an6 bs p ay i;have hps:=LQ bs p (ay++[i]);have hpl2:(left.filter (· != i)).length<left.length:=by
   rcases Nat.lt_or_ge (left.filter (· != i)).length left.length with h | h
   ·exact h
   ·have:=List.filter_eq_self.1 (List.Sublist.eq_of_length_le List.filter_sublist h) i hi;simp at this
  have hnd:left.Nodup:=(List.nodup_append.1 (hC.nodup_iff.2 List.nodup_range)).2.1;have hC2:((ay++[i])++left.filter (· != i)).Perm (List.range bs.length):=by
   have h1:left.Perm (i::left.filter (· != i)):=by
    have h2:(left.filter (· == i)).length=1:=by
     have:=List.nodup_iff_count.1 hnd i;have h3:=List.count_pos_iff.2 hi;have h4:left.count i=(left.filter (· == i)).length:=by rw[List.count,List.countP_eq_length_filter]
     omega
    have h5:left.filter (· == i)=[i]:=by
     obtain ⟨a,ha⟩:=List.length_eq_one_iff.1 h2;have:a∈left.filter (· == i):=by rw[ha];simp
     have:=(zv6.1 this).2;simp at this;rw[ha,this]
    have h6:=(List.filter_append_perm (· == i) left).symm;rw[h5] at h6;exact h6
   refine List.Perm.trans ?_ hC;rw[zz6];exact (h1.symm).append_left ay
  refine .aq (by decide +kernel) fun K hK =>?_;simp only[JW,U,simprocAttr]
  try simp only[hent,eM,aJ,U,simprocAttr]
  refine .done (hK _ ?_);clear hK K;refine .aq (by decide +kernel) fun K hK =>?_;simp only[JX,U,simprocAttr]
  try simp only[zy0,zy5,hfc,gA,U,simprocAttr]
  refine .flat _ (hf _ (zx8 hib)) rfl ?_
  try simp only[U,simprocAttr]
  refine .done (hK _ ?_);clear hK K;have hap:=fun (A:ae) d rest=>vq (A:=A) (d:=d) (e:=3) (bytes:=8) (n:=905) (l:=(jt bs p ay).length) (xs:=jt bs p ay) (y:=(bs[i]).no) (rest:=rest) rfl (by simp[maxLen];omega) (by omega);rw[hx] at hsn;rcases hpb:p bs[i]
  ·rw[hpb,if_neg (by decide),zx5] at hsn;have R:=u8 @hpb (u8 @aJ @U)
   repeat' ((first |(with_reducible refine .guard (fun hb =>?_) (fun hb =>?_) <;>try simp only[hb])|refine J.aE (by decide +kernel) rfl fun K hK =>?_|(refine .ay [0,1,4,5,6,7,12,14,20] hK ?_;clear hK K)|(with_reducible refine .done (hK _ ?_);clear hK K)|refine J.of rfl ?_|(with_reducible refine ai.aB (fun h =>?_) (fun h =>?_) <;>try simp only[h])) <;>try simp only[aF,R,simprocAttr])
   all_goals clear R
   refine ⟨(ay++[i],left.filter (· != i),some i),hC2,hpl2,?_⟩;simp only[hsn];refine az.cN ?_ (fun n =>?_)
   ·simp[aO,aP]
   ·simp only[b8,tK];(repeat' split) <;>simp_all
  ·rw[hpb,if_pos rfl] at hsn;have R:=u8 @hpb (u8 @hap (u8 @aJ @U))
   repeat' ((first |(with_reducible refine .guard (fun hb =>?_) (fun hb =>?_) <;>try simp only[hb])|refine J.aE (by decide +kernel) rfl fun K hK =>?_|(refine .ay [0,1,4,5,6,7,12,14,20] hK ?_;clear hK K)|(with_reducible refine .done (hK _ ?_);clear hK K)|refine J.of rfl ?_|(with_reducible refine ai.aB (fun h =>?_) (fun h =>?_) <;>try simp only[h])) <;>try simp only[aF,R,simprocAttr])
   all_goals clear R
   refine ⟨(ay++[i],left.filter (· != i),some i),hC2,hpl2,?_⟩;simp only[hsn];refine az.cN ?_ (fun n =>?_)
   ·simp[aO,aP]
   ·simp only[b8,tK];(repeat' split) <;>simp_all
theorem AQ{aD:Bool}{A0:ae}{os:List (Nat×ah)} : ∀ xs:List I,(∀ x∈xs,x.only (al os)=true∧x.cu=true)→jF aD A0 [] os xs xs
 | [],_=>trivial
 |x::xs,h=>⟨.inl ⟨(mh (ρ:=bJ []) (fun _=>rfl) x).symm,(h x (by simp)).1,(h x (by simp)).2⟩,AQ xs fun y hy=>h y (by simp[hy])⟩
theorem aoU(ts:List (Nat×I))(k:Nat)(a b:List Int):ar ts (bN k a++bN k b)=ar ts (bN k a):=by
 simp only[ar];congr 1;funext n;simp only[bN,zy0,zy5,ak];split <;>rfl
theorem br.lv{K:ae→Prop}{f:FuncId}{avs:List I}{a1 a2:Option (List I)}{dst:Option Nat}{rest:List aG}{ts:List (Nat×I)}{ws:List Int}{post:cR}(hc:cG Tryz.prog f avs (bN 1000000 ws) post)(hav:∀ x∈avs,x.only (al (bN 1000000 ws))=true∧x.cu=true)
  (h:∀ r os',post r os'→∃ ws',os'=bN 1000000 ws'∧r=.tuple []∧br Tryz.prog iR false K (aC rest ((ar ts (bN 1000000 ws')).aS dst (.tuple [])))):br Tryz.prog iR false K (.call f avs a1 a2 dst rest (ar ts (bN 1000000 ws))):=by
 refine .bV false [] (bN 1000000 ws) avs post rfl hc ⟨fun m y hy =>?_,fun m m' _ _ h=>h⟩ (AQ avs hav) ?_ ?_
 ·rw[ah.mh (ρ:=bJ []) (fun n=>rfl)];refine ⟨hy,?_⟩;simp only[bN,ak] at hy;split at hy
  ·cases hy;exact ⟨gj _ _,rfl⟩
  ·cases hy
 ·intro r os' hp;obtain ⟨ws',rfl,rfl,_⟩:=h r os' hp;refine ⟨fun m y hy =>?_,fun m m' _ _ h=>h,fun m hm=>by rw[cH.1 hm];exact cH.2 rfl,fun m a b=>by rw[cH.1 a] at b;simp[bN,al,ak] at b,rfl,fun h=>by cases h⟩;simp only[bN,ak] at hy;split at hy
  ·cases hy;exact ⟨gj _ _,rfl,fun h=>by cases h⟩
  ·cases hy
 ·intro r os' hp;obtain ⟨ws',rfl,rfl,hw⟩:=h r os' hp;rw[uD,aoU];exact hw
theorem kR(ws:List Int)(n:Nat)(f:FuncId)(caps:List I)(hcl:I.b6 caps=true)(L:List Int):∀ x∈.view 1000000 [] 1 0 n::(L.map enc++[.func f caps]),x.only (al (bN 1000000 ws))=true∧x.cu=true:=by
 intro x hx;simp only[zw2,zx1,zw5,List.not_mem_nil,or_false] at hx;rcases hx with rfl | ⟨y,_,rfl⟩ | rfl
 ·exact ⟨cH.2 rfl,rfl⟩
 ·exact ⟨bh _ _,dO _⟩
 ·exact ⟨kd _ _ (by simpa[I.bu] using hcl),rfl⟩
structure Q3 where
 p:List Int
 u:List Int
 v:List Int
 q:List Int
theorem QF(p u v q:List Int)(a m b n:Nat)(f:FuncId)(caps:List I)(hcl:I.b6 caps=true)(ha:p.length=a)(hm:a+u.length=m)(hb:m+v.length=b)(hu:0<u.length)(hv:0<v.length)(hn:b≤n)(hN:n≤1000) :
  cG Tryz.prog 213 [.view 1000000 [] 1 0 n,enc (a:Int),enc (m:Int),enc (b:Int),.func f caps] (bN 1000000 (p++u++v++q)) (zm (p++v++u++q)):=by
 refine cG.bj Tryz.func213 TE VK X5 (zz0 rfl) (zz0 rfl) mn (fun hwf W0 D0 E1 =>?_);simp only[Ct,Nr,bg,zz3,Nat.reduceAdd];clear hwf;have w1:=iZ (x:=m) (y:=a) (by omega) (by omega);have w2:=iZ (x:=b) (y:=m) (by omega) (by omega);refine .aq (by decide +kernel) fun K hK =>?_;simp only[Jo,U,simprocAttr]
 try simp only[w1,simprocAttr]
 refine .done (hK _ ?_);clear hK K;refine .aq (by decide +kernel) fun K hK =>?_;simp only[Jp,U,simprocAttr]
 try simp only[w2,simprocAttr]
 refine .done (hK _ ?_);clear hK K;refine J.seq (J.block (J.loop (fun s:Q3=>ar [(0,.view 1000000 [] 1 0 n),(2,.int .i64 m),(4,.func f caps),(10,.int .i64 s.u.length),(11,.int .i64 s.v.length)] (bN 1000000 (s.p++s.u++s.v++s.q))) (fun s=>0<s.u.length∧0<s.v.length∧s.p.length+s.u.length=m∧m+s.v.length≤b∧s.p++s.v++s.u++s.q=p++v++u++q) (fun s=>s.u.length+s.v.length) ⟨p,u,v,q⟩ ⟨hu,hv,by simp only;omega,by simp only;omega,rfl⟩ ?_ ?_))
 ·have e1:m-a=u.length:=by omega
  have e2:b-m=v.length:=by omega
  simp only[e1,e2];refine az.cN ?_ (fun n=>rfl);simp[aO,aP]
 rintro ⟨p1,u1,v1,q1⟩ ⟨g1,g2,g3,g4,g5⟩;simp only at g1 g2 g3 g4 g5 ⊢;refine J.seq (J.seq ?_);refine .bK (by decide +kernel) fun K hK =>?_;simp only[Jq,U,simprocAttr];refine .done (hK _ ?_);clear hK K;try simp only[au]
 refine J.bP ?_;simp only[ai,U,simprocAttr];refine ⟨fun h =>?_,fun h =>?_⟩
 ·have hne:u1.length≠v1.length:=fun e=>by rw[e] at h;simp at h
  refine J.skip ?_;try simp only[au,simprocAttr]
  refine J.block (J.seq ?_);refine .bK (by decide +kernel) fun K hK =>?_;simp only[Jr,U,simprocAttr];refine .done (hK _ ?_);clear hK K;try simp only[au]
  refine J.bP ?_;simp only[ai,U,simprocAttr];refine ⟨fun h =>?_,fun h =>?_⟩
  ·have hgt:v1.length<u1.length:=by simp at h;omega
   have w3:=iZ (x:=m) (y:=u1.length) (by omega) (by omega);have w4:=iZ (x:=u1.length) (y:=v1.length) (by omega) (by omega);have hs:u1=u1.take v1.length++u1.drop v1.length:=(zy8 _ _).symm;have ht:(u1.take v1.length).length=v1.length:=by rw[zy4];omega
   have hd:(u1.drop v1.length).length=u1.length-v1.length:=by rw[zy9]
   have hc:=ve p1 (u1.take v1.length) (u1.drop v1.length) v1 q1 (m-u1.length) m n v1.length (.func f caps) (by omega) (by omega) (by omega) (by omega) (by omega) hN;rw[zz6 p1,←hs] at hc;refine .aq (by decide +kernel) fun K hK =>?_;simp only[Js,U,simprocAttr]
   try simp only[w3,simprocAttr]
   refine br.lv hc (kR _ n f caps hcl [_,_,_]) ?_;rintro r os' ⟨rfl,rfl⟩;refine ⟨_,rfl,rfl,?_⟩
   try simp only[U,simprocAttr]
   refine .done (hK _ ?_);clear hK K;refine .bK (by decide +kernel) fun K hK =>?_;simp only[Jt,U,simprocAttr]
   try simp only[w4,simprocAttr]
   refine .done (hK _ ?_);clear hK K;try simp only[au,bS]
   refine ⟨⟨p1++v1,u1.drop v1.length,u1.take v1.length,q1⟩,⟨by simp only;omega,by simp only;omega,by simp only[zz5];omega,by simp only;omega,?_⟩,by simp only;omega,?_⟩
   ·simp only;rw[←g5]
    conv=>rhs;rw[hs]
    simp only[zz6]
   ·simp only[hd,ht];refine az.cN ?_ (fun n=>rfl);simp[aO,aP]
  ·have hlt:u1.length<v1.length:=by simp at h;omega
   have w3:=iZ (x:=m) (y:=u1.length) (by omega) (by omega);have w4:=iZ (x:=v1.length) (y:=u1.length) (by omega) (by omega);have w5:=kM m v1.length (by omega);have w6:=iZ (x:=m+v1.length) (y:=u1.length) (by omega) (by omega);have hs:v1=v1.take (v1.length-u1.length)++v1.drop (v1.length-u1.length):=(zy8 _ _).symm;have ht:(v1.take (v1.length-u1.length)).length=v1.length-u1.length:=by rw[zy4];omega
   have hd:(v1.drop (v1.length-u1.length)).length=u1.length:=by rw[zy9];omega
   have hc:=ve p1 u1 (v1.take (v1.length-u1.length)) (v1.drop (v1.length-u1.length)) q1 (m-u1.length) (m+v1.length-u1.length) n u1.length (.func f caps) (by omega) (by omega) (by omega) (by omega) (by omega) hN;rw[zz6 (p1++u1),←hs] at hc;refine .aq (by decide +kernel) fun K hK =>?_;simp only[Ju,U,simprocAttr]
   try simp only[w3,w5,w6,simprocAttr]
   refine br.lv hc (kR _ n f caps hcl [_,_,_]) ?_;rintro r os' ⟨rfl,rfl⟩;refine ⟨_,rfl,rfl,?_⟩
   try simp only[U,simprocAttr]
   refine .done (hK _ ?_);clear hK K;refine .bK (by decide +kernel) fun K hK =>?_;simp only[Jv,U,simprocAttr]
   try simp only[w4,simprocAttr]
   refine .done (hK _ ?_);clear hK K;try simp only[au,bS]
   refine ⟨⟨p1,v1.drop (v1.length-u1.length),v1.take (v1.length-u1.length),u1++q1⟩,⟨by simp only;omega,by simp only;omega,by simp only;omega,by simp only;omega,?_⟩,by simp only;omega,?_⟩
   ·simp only;rw[←g5]
    conv=>rhs;rw[hs]
    simp only[zz6]
   ·simp only[hd,ht];rw[←zz6 _ u1 q1];refine az.cN ?_ (fun n=>rfl);simp[aO,aP]
 ·have he:u1.length=v1.length:=by simp at h;omega
  refine J.exit ?_;try simp only[au,bS,simprocAttr]
  have w3:=iZ (x:=m) (y:=u1.length) (by omega) (by omega);have hc:=ve p1 u1 [] v1 q1 (m-u1.length) m n u1.length (.func f caps) (by omega) (by omega) (by simp;omega) rfl (by omega) hN;simp only[zx5] at hc;refine .bK (by decide +kernel) fun K hK =>?_;simp only[Jw,U,simprocAttr]
  try simp only[w3,simprocAttr]
  refine br.lv hc (kR _ n f caps hcl [_,_,_]) ?_;rintro r os' ⟨rfl,rfl⟩;refine ⟨_,rfl,rfl,?_⟩
  try simp only[U,simprocAttr]
  refine .done (hK _ ?_);clear hK K;rw[mi];exact od rfl g5 ⟨rfl,rfl⟩
theorem uM{el:List ao}{s:List Int}(h:dy el s){i j:Nat}(hij:i<j)(hj:j<s.length):dR el (s.getD i 0) (s.getD j 0):=by
 rw[zz2,zz2,zy1 (by omega),zy1 hj];exact List.pairwise_iff_getElem.1 h i j (by omega) hj hij
theorem qx{el:List ao}{s:List Int}(h:dy el s){i j:Nat}(hij:i≤j)(hj:j<s.length){x:Int}(hx:dR el (s.getD j 0) x):dR el (s.getD i 0) x:=by
 rcases Nat.lt_or_ge i j with h1 | h1
 ·exact yj (uM h h1 hj) hx
 ·have:i=j:=by omega
  rw[this];exact hx
theorem qw{el:List ao}{s:List Int}(h:dy el s){i j:Nat}(hij:i≤j)(hj:j<s.length){x:Int}(hx:dR el x (s.getD i 0)):dR el x (s.getD j 0):=by
 rcases Nat.lt_or_ge i j with h1 | h1
 ·exact yj hx (uM h h1 hj)
 ·have:i=j:=by omega
  rw[←this];exact hx
theorem tP{s:List Int}{k:Nat}{x:Int}(h:x∈s.take k):∃ i,i<k∧i<s.length∧s.getD i 0=x:=by
 obtain ⟨i,hi,rfl⟩:=List.getElem_of_mem h;rw[zy4] at hi;exact ⟨i,by omega,by omega,by rw[zz2,zy1 (by omega),List.getElem_take];rfl⟩
theorem pZ{s:List Int}{k:Nat}{x:Int}(h:x∈s.drop k):∃ i,k≤i∧i<s.length∧s.getD i 0=x:=by
 obtain ⟨i,hi,rfl⟩:=List.getElem_of_mem h;rw[zy9] at hi;exact ⟨k+i,by omega,by omega,by rw[zz2,zy1 (by omega),List.getElem_drop];rfl⟩
def r8(el:List ao)(l r:List Int)(k i:Nat):Prop:=∀ x∈l.take i++r.take (k-i),∀ y∈l.drop i++r.drop (k-i),dR el x y
theorem YK{el:List ao}{l r:List Int}{k i lo hi:Nat}(hl:dy el l)(hr:dy el r)(h1:lo≤i)(h2:i≤hi)(hlo:lo=0∨lo+r.length=k)(hhi:hi=l.length∨hi=k)(hil:hi≤l.length)(hik:hi≤k)(hlr:k≤lo+r.length)
  (g1:∀ j,lo≤j→j<i→dR el (l.getD j 0) (r.getD (k-1-j) 0)) (g2:∀ j,i≤j→j<hi→dR el (r.getD (k-1-j) 0) (l.getD j 0)):r8 el l r k i:=by
 intro x hx y hy;rcases zx1.1 hx with hx | hx
 ·obtain ⟨a,ha1,ha2,rfl⟩:=tP hx;rcases zx1.1 hy with hy | hy
  ·obtain ⟨b,hb1,hb2,rfl⟩:=pZ hy;exact uM hl (by omega) hb2
  ·obtain ⟨b,hb1,hb2,rfl⟩:=pZ hy;by_cases hli:lo<i
   ·have:=g1 (i-1) (by omega) (by omega);have e:k-1-(i-1)=k-i:=by omega
    rw[e] at this;refine qx hl (j:=i-1) (by omega) (by omega) ?_;exact qw hr (i:=k-i) (by omega) hb2 this
   ·omega
 ·obtain ⟨a,ha1,ha2,rfl⟩:=tP hx;rcases zx1.1 hy with hy | hy
  ·obtain ⟨b,hb1,hb2,rfl⟩:=pZ hy;by_cases hih:i<hi
   ·have:=g2 i (zz9 _) hih;refine qx hr (j:=k-1-i) (by omega) (by omega) ?_;exact qw hl (i:=i) (by omega) hb2 this
   ·omega
  ·obtain ⟨b,hb1,hb2,rfl⟩:=pZ hy;exact uM hr (by omega) hb2
theorem apa{el:List ao}{l r s1 s2:List Int}{k i:Nat}(hc:r8 el l r k i)(h1:s1.Perm (l.take i++r.take (k-i)))(h2:s2.Perm (l.drop i++r.drop (k-i)))(k1:dy el s1)(k2:dy el s2):(s1++s2).Perm (l++r)∧dy el (s1++s2):=by
 refine ⟨(h1.append h2).trans ?_,List.pairwise_append.2 ⟨k1,k2,fun x hx y hy=>hc x (h1.mem_iff.1 hx) y (h2.mem_iff.1 hy)⟩⟩;have e:l.take i++r.take (k-i)++(l.drop i++r.drop (k-i))=l.take i++(r.take (k-i)++l.drop i)++r.drop (k-i):=by simp only[zz6]
 rw[e];refine (((List.perm_append_comm (l₁:=r.take (k-i)) (l₂:=l.drop i)).append_left _).append_right _).trans ?_;have e2:l.take i++(l.drop i++r.take (k-i))++r.drop (k-i)=(l.take i++l.drop i)++(r.take (k-i)++r.drop (k-i)):=by simp only[zz6]
 rw[e2,zy8,zy8]
theorem OR{el:List ao}{s:List Int}(h:dy el s)(k:Nat):dy el (s.take k):=h.sublist (List.take_sublist _ _)
theorem OQ{el:List ao}{s:List Int}(h:dy el s)(k:Nat):dy el (s.drop k):=h.sublist (List.drop_sublist _ _)
theorem xO{p l r q:List Int}{a i:Nat}(ha:p.length=a)(hi:i<l.length):(p++l++r++q).getD (a+i) 0=l.getD i 0:=by
 subst ha;rw[zz2,zz2,zz6,zz6,zw0 (by omega),Nat.add_sub_cancel_left,zx0 hi]
theorem xP{p l r q:List Int}{m i:Nat}(hm:p.length+l.length=m)(hi:i<r.length):(p++l++r++q).getD (m+i) 0=r.getD i 0:=by
 subst hm;rw[zz2,zz2,zz6 (p++l),zw0 (by rw[zz5];omega),zz5,Nat.add_sub_cancel_left,zx0 hi]
theorem nX(x:Nat):Int.fdiv (x:Int) (2^min (Int.toNat 1) IntKind.u64.bits)=((x / 2:Nat):Int):=by
 have:min (Int.toNat 1) IntKind.u64.bits=1:=rfl;rw[this]
 show Int.fdiv (x:Int) 2=_
 rw[Int.fdiv_eq_ediv_of_nonneg _ (by decide)];rfl
theorem mU{x:Nat}(h:x<9223372036854775807):IntKind.u64.wrap (x:Int)=(x:Int):=by
 simp only[IntKind.wrap,IntKind.bits,IntKind.signed];simp;omega
theorem nW:((0:Int)≤1)=True:=by simp
theorem J.apL{c:cT}{Q:Exit→ae→Prop}{A:ae}{x:aN}{σ:Type}(T:σ→ae)(C:σ→Prop)(h1:J c x (au (fun B=>∃ s,C s∧Abs.az B (T s)) fun _ _=>False) A)(h2:∀ s B,C s→Abs.az B (T s)→Q .normal B):J c x Q A :=
 h1.mono fun e B hq=>by
  cases e <;>simp only[au] at hq <;>first
   |(obtain ⟨s,k1,k2⟩:=hq;exact h2 s B k1 k2)
   |exact hq.elim
theorem apz{p r q:List Int}{x:Int}{a j:Nat}(ha:p.length=a)(hj:j<r.length):kK (eg p r q x j) (a+j) (a+j+1)=eg p r q x (j+1):=by
 have e1:eg p r q x (j+1)=(p++r.take j)++r[j]::x::(r.drop (j+1)++q):=by
  simp only[eg];rw[zz7 hj];simp only[zz6,zy0,zy5]
 have e2:eg p r q x j=(p++r.take j)++x::r[j]::(r.drop (j+1)++q):=by
  simp only[eg];rw[zv4 hj];simp only[zz6,zy0]
 rw[e1,e2];exact apA (by rw[zz5,zy4];omega) rfl
theorem alA(p r q:List Int)(x:Int):eg p r q x 0=p++[x]++r++q:=by simp[eg]
theorem alD(p r q:List Int)(x:Int):eg p r q x r.length=p++r++[x]++q:=by simp[eg]
theorem Qz(el:List ao)(hd:mI el)(hel:el.length≤60)(p l r q:List Int)(a m b n:Nat)(hl0:0<l.length)(hr0:0<r.length)(ha:p.length=a)(hm:a+l.length=m)(hb:m+r.length=b)(hn:b≤n)(hnl:n≤(p++l++r++q).length)(hn1:n≤1000)(hsl:dy el l)(hsr:dy el r)(hlr:∀ x∈l,∀ y∈r,x<y)(hin:∀ x∈l++r,jL el x)(hl1:l.length=1) :
  cG Tryz.prog 204 [.view 1000000 [] 1 0 n,enc (a:Int),enc (m:Int),enc (b:Int),.func 138 [.ref (enc el)]] (bN 1000000 (p++l++r++q)) (nj el p (l++r) q):=by
 have hlen:(p++l++r++q).length=p.length+l.length+r.length+q.length:=by simp only[zz5]
 have nI:=fun i (hi:i<l.length)=>xO (p:=p) (l:=l) (r:=r) (q:=q) (i:=i) ha hi;have gr:=fun i (hi:i<r.length)=>xP (p:=p) (l:=l) (r:=r) (q:=q) (m:=m) (i:=i) (by omega) hi;have ml:=fun i (hi:i<l.length)=>(show l.getD i 0∈l by rw[zz2,zy1 hi];exact zx8 _)
 have mr:=fun i (hi:i<r.length)=>(show r.getD i 0∈r by rw[zz2,zy1 hi];exact zx8 _)
 refine cG.bj Tryz.func204 vK vN vW (zz0 rfl) (zz0 rfl) mn (fun hwf W0 D0 E1 =>?_);simp only[sK,uu,bg,zz3,Nat.reduceAdd];clear hwf;have fr:=iZ (x:=m) (y:=a) (by omega) (by omega);refine J.seq (J.seq ?_);obtain ⟨x,rfl⟩:=List.length_eq_one_iff.1 hl1;obtain ⟨ws,hws⟩:∃ ws,ws=p++[x]++r++q:=⟨_,rfl⟩
 rw[←hws] at hnl hlen gr nI ⊢;have gx:ws.getD a 0=x:=by have:=nI 0 hl0;simpa using this
 have hxr:=hlr x (by simp);have hxS:=hin x (by simp);have hrS:=fun y (hy:y∈r)=>hin y (by simp[hy]);have h1:((m-a:Nat):Int)=1:=by omega
 refine .bK (by decide +kernel) fun K hK =>?_;simp only[tf,U,Nat.reduceEqDiff,reduceIte]
 try simp only[fr,h1,Int.reduceBEq]
 refine .done (hK _ ?_);clear hK K;try simp only[au]
 refine J.bP ?_
 try simp only[ai,U,Nat.reduceEqDiff,reduceIte]
 refine ⟨fun _ =>?_,fun h =>?_⟩
 rotate_left
 ·simp at h
 refine .aq (by decide +kernel) fun K hK =>?_;simp only[IX,U,Nat.reduceEqDiff,reduceIte];refine .done (hK _ ?_);clear hK K;refine .aq (by decide +kernel) fun K hK =>?_;simp only[I1,U,Nat.reduceEqDiff,reduceIte];refine .done (hK _ ?_);clear hK K;refine J.seq (J.block (J.loop (fun s:Nat×Nat=>ar [(0,.view 1000000 [] 1 0 n),(1,.int .i64 a),(2,.int .i64 m),(3,.int .i64 b),(4,.func 138 [.ref (enc el)]),(10,.int .i64 ((m+s.1:Nat):Int)),(11,.int .i64 ((m+s.2:Nat):Int))] (bN 1000000 ws))
  (fun s=>s.1≤s.2∧s.2≤r.length∧(∀ j,j<s.1→dR el (r.getD j 0) x)∧∀ j,s.2≤j→j<r.length→dR el x (r.getD j 0)) (fun s=>s.2-s.1) (0,r.length) ⟨zw8 _,zz9 _,fun j hj=>by omega,fun j h1 h2=>by simp only at h1;omega⟩ ?_ ?_))
 ·have e1:m+0=m:=rfl;simp only[e1,hb];refine az.cN ?_ (fun n=>rfl);simp[aO,aP]
 rintro ⟨i,j⟩ ⟨g1,g2,g3,g4⟩;simp only at g1 g2 g3 g4 ⊢;by_cases hij:i<j
 ·have hc:decide (((m+i:Nat):Int)<((m+j:Nat):Int))=true:=by simp;omega
  have w1:=kM (m+i) (m+j) (by omega);have w2:=mU (x:=m+i+(m+j)) (by omega);obtain ⟨c,hcd⟩:∃ c,c=(i+j) / 2:=⟨_,rfl⟩
  have hci:i≤c∧c<j:=by omega
  have w3:(m+i+(m+j)) / 2=m+c:=by omega
  have w4:=mU (x:=m+c) (by omega);have w5:=r5 (n:=m+c) (by omega);have w6:=dX (i:=m+c) (by omega);have v1:=hJ (n:=n) (i:=m+c) (by omega);have v2:=hJ (n:=n) (i:=a) (by omega);have l1:=fJ (xs:=ws) (i:=m+c) (by omega);have l2:=fJ (xs:=ws) (i:=a) (by omega);rw[gr c (by omega)] at l1;rw[gx] at l2;have hrc:=mr c (by omega);have hcmp:=sc el hd hel (r.getD c 0) x (hrS _ hrc) hxS;have hlt:=tN (l:=el) (hxr _ hrc);simp only[bN];cases hdc:decide (gM el (r.getD c 0)-gM el x<0) with
  |true =>
   have hd1:dR el (r.getD c 0) x:=hlt.2 (by have:=of_decide_eq_true hdc;omega);have R:=u8 @hc (u8 @w1 (u8 @w2 (u8 @w3 (u8 @w4 (u8 @w5 (u8 @w6 (u8 @nX (u8 @nW (u8 @v1 (u8 @v2 (u8 @l1 (u8 @l2 (u8 @hdc (u8 @cK (u8 @dL (u8 @aJ @U))))))))))))))))
   repeat' ((first |(with_reducible refine .guard (fun hb =>?_) (fun hb =>?_) <;>try simp only[hb])|refine J.aE (by decide +kernel) rfl fun K hK =>?_|refine .flat _ (hcmp) rfl ?_|(refine .ay [0,1,2,3,4,10,11,12,13,14,15,16,17,18,19,20,21,22,23,24,28,33,50,58,80,85,103,110,140,151,171,185,199,213] hK ?_;clear hK K)|(with_reducible refine .done (hK _ ?_);clear hK K)|refine J.of rfl ?_|(with_reducible refine ai.aB (fun h =>?_) (fun h =>?_) <;>try simp only[h])) <;>try simp only[aF,R,zy0,Nat.reduceEqDiff,reduceIte,Nat.reduceBEq])
   all_goals clear R
   refine ⟨(c+1,j),⟨by simp only;omega,g2,fun k hk =>?_,g4⟩,by simp only;omega,?_⟩
   ·simp only at hk;exact qx hsr (j:=c) (by omega) (by omega) hd1
   ·refine az.cN ?_ (fun n=>rfl);simp[aO,aP];omega
  |false =>
   have hd1:dR el x (r.getD c 0):=tM (hxr _ hrc) (by have:=of_decide_eq_false hdc;omega);have R:=u8 @hc (u8 @w1 (u8 @w2 (u8 @w3 (u8 @w4 (u8 @w5 (u8 @w6 (u8 @nX (u8 @nW (u8 @v1 (u8 @v2 (u8 @l1 (u8 @l2 (u8 @hdc (u8 @cK (u8 @dL (u8 @aJ @U))))))))))))))))
   repeat' ((first |(with_reducible refine .guard (fun hb =>?_) (fun hb =>?_) <;>try simp only[hb])|refine J.aE (by decide +kernel) rfl fun K hK =>?_|refine .flat _ (hcmp) rfl ?_|(refine .ay [0,1,2,3,4,10,11,12,13,14,15,16,17,18,19,20,21,22,23,24,28,33,50,58,80,85,103,110,140,151,171,185,199,213] hK ?_;clear hK K)|(with_reducible refine .done (hK _ ?_);clear hK K)|refine J.of rfl ?_|(with_reducible refine ai.aB (fun h =>?_) (fun h =>?_) <;>try simp only[h])) <;>try simp only[aF,R,zy0,Nat.reduceEqDiff,reduceIte,Nat.reduceBEq])
   all_goals clear R
   refine ⟨(i,c),⟨by simp only;omega,by simp only;omega,g3,fun k hk hk2 =>?_⟩,by simp only;omega,?_⟩
   ·simp only at hk;exact qw hsr (i:=c) (by omega) hk2 hd1
   ·refine az.cN ?_ (fun n=>rfl);simp[aO,aP]
 ·have hc:decide (((m+i:Nat):Int)<((m+j:Nat):Int))=false:=by simp;omega
  have he:j=i:=by omega
  subst he;refine J.seq (J.seq ?_);refine .bK (by decide +kernel) fun K hK =>?_;simp only[I6,U,Nat.reduceEqDiff,reduceIte]
  try simp only[hc]
  refine .done (hK _ ?_);clear hK K;try simp only[au]
  refine J.bP ?_;simp only[ai,U,Nat.reduceEqDiff,reduceIte];refine ⟨fun h =>?_,fun h =>?_⟩
  ·cases h
  refine J.exit ?_;try simp only[au,bS,reduceIte]
  refine J.seq (J.seq ?_);refine .bK (by decide +kernel) fun K hK =>?_;simp only[Ja,U,Nat.reduceEqDiff,reduceIte];refine .done (hK _ ?_);clear hK K;try simp only[au]
  have hi0:=alA p r q x;rw[hws,←hi0];refine J.block (J.loop (fun k:Nat=>ar [(0,.view 1000000 [] 1 0 n),(10,.int .i64 ((m+j:Nat):Int)),(13,.int .i64 ((a+k:Nat):Int))] (bN 1000000 (eg p r q x k))) (fun k=>k≤j) (fun k=>j-k) 0 (zw8 _) ?_ (fun k hk =>?_))
  ·refine az.cN ?_ (fun n=>rfl);simp[aO,aP]
  have ww:IntKind.i64.wrap (((m+j:Nat):Int)-1)=((a+j:Nat):Int):=by rw[cL _ (by omega) (by omega)];simp at hm;omega
  have hil:(eg p r q x k).length=p.length+r.length+1+q.length:=x6 (by omega);by_cases hkj:k<j
  ·have hc2:decide (((a+k:Nat):Int)<((a+j:Nat):Int))=true:=by simp;omega
   have hstep:=apz (p:=p) (r:=r) (q:=q) (x:=x) (j:=k) ha (by omega);generalize eg p r q x k=ws at hil hstep ⊢;obtain ⟨i1,hi1e⟩:∃ i1,i1=a+k:=⟨_,rfl⟩
   obtain ⟨j1,hj1e⟩:∃ j1,j1=a+k+1:=⟨_,rfl⟩
   rw[←hj1e,←hi1e] at hstep;have wk:IntKind.i64.wrap ((i1:Int)+1)=(j1:Int):=by rw[cL _ (by omega) (by omega)];omega
   rw[←hi1e] at hc2 ⊢;have hi1:i1<n:=by simp at hm;omega
   have hj1:j1<n:=by simp at hm;omega
   simp only[bN];have v1:=hJ (n:=n) (i:=i1) hi1;have v2:=hJ (n:=n) (i:=j1) hj1;have l1:=fJ (xs:=ws) (i:=i1) (by omega);have l2:=fJ (xs:=ws) (i:=j1) (by omega);have s1:=fun (A:ae) v u rest=>mw (A:=A) (n:=1000000) (xs:=ws) (i:=i1) (by omega) v u rest;obtain ⟨ws2,hws2⟩:∃ ws2,ws2=ws.set i1 (ws.getD j1 0):=⟨_,rfl⟩
   have hw2l:ws2.length=ws.length:=by rw[hws2];simp
   have s2:=fun (A:ae) v u rest=>mw (A:=A) (n:=1000000) (xs:=ws2) (i:=j1) (by omega) v u rest;have l3:=fJ (xs:=ws2) (i:=j1) (by omega);have R:=u8 @ww (u8 @hc2 (u8 @wk (u8 @v1 (u8 @v2 (u8 @l1 (u8 @l2 (u8 @l3 (u8 @s1 (u8 @s2 (u8 @cK (u8 @aJ @U)))))))))))
   repeat' ((first |(with_reducible refine .guard (fun hb =>?_) (fun hb =>?_) <;>try simp only[hb])|refine J.aE (by decide +kernel) rfl fun K hK =>?_|(refine .ay [0,1,2,3,4,10,11,12,13,14,15,16,17,18,19,20,21,22,23,24,28,33,50,58,80,85,103,110,140,151,171,185,199,213] hK ?_;clear hK K)|(with_reducible refine .done (hK _ ?_);clear hK K)|refine J.of rfl ?_|(with_reducible refine ai.aB (fun h =>?_) (fun h =>?_) <;>try simp only[h])) <;>try simp only[aF,R,←hws2,Nat.reduceEqDiff,reduceIte,Nat.reduceBEq])
   all_goals clear R
   refine ⟨k+1,by omega,by omega,?_⟩;rw[←hstep];simp only[kK,←hws2];have e:a+(k+1)=j1:=by omega
   rw[e];refine az.cN ?_ (fun n =>?_)
   ·simp[aO,aP]
   ·simp only[ak];split <;>rfl
  ·have hc2:decide (((a+k:Nat):Int)<((a+j:Nat):Int))=false:=by simp;omega
   have hk2:k=j:=by omega
   subst hk2;have R:=u8 @ww (u8 @hc2 (u8 @aJ (u8 @eX @U)))
   repeat' ((first |(with_reducible refine .guard (fun hb =>?_) (fun hb =>?_) <;>try simp only[hb])|refine J.aE (by decide +kernel) rfl fun K hK =>?_|(refine .ay [0,1,2,3,4,10,11,12,13,14,15,16,17,18,19,20,21,22,23,24,28,33,50,58,80,85,103,110,140,151,171,185,199,213] hK ?_;clear hK K)|(with_reducible refine .done (hK _ ?_);clear hK K)|refine J.of rfl ?_|(with_reducible refine ai.aB (fun h =>?_) (fun h =>?_) <;>try simp only[h])) <;>try simp only[aF,R,Nat.reduceEqDiff,reduceIte,Nat.reduceBEq])
   all_goals clear R
   refine od rfl rfl ⟨rfl,r.take k++x::r.drop k,?_,?_,?_⟩
   ·refine List.perm_middle.trans ?_;rw[zy8];exact .refl _
   ·refine zI hsr (fun y hy =>?_) (fun y hy =>?_)
    ·obtain ⟨i,h1,h2,rfl⟩:=tP hy;exact g3 i h1
    ·obtain ⟨i,h1,h2,rfl⟩:=pZ hy;exact g4 i h1 h2
   ·rfl
theorem QA(el:List ao)(hd:mI el)(hel:el.length≤60)(p l r q:List Int)(a m b n:Nat)(hl0:0<l.length)(hr0:0<r.length)(ha:p.length=a)(hm:a+l.length=m)(hb:m+r.length=b)(hn:b≤n)(hnl:n≤(p++l++r++q).length)(hn1:n≤1000)(hsl:dy el l)(hsr:dy el r)(hlr:∀ x∈l,∀ y∈r,x<y)(hin:∀ x∈l++r,jL el x)(hl1:¬ l.length=1)(hr1:r.length=1) :
  cG Tryz.prog 204 [.view 1000000 [] 1 0 n,enc (a:Int),enc (m:Int),enc (b:Int),.func 138 [.ref (enc el)]] (bN 1000000 (p++l++r++q)) (nj el p (l++r) q):=by
 have hlen:(p++l++r++q).length=p.length+l.length+r.length+q.length:=by simp only[zz5]
 have nI:=fun i (hi:i<l.length)=>xO (p:=p) (l:=l) (r:=r) (q:=q) (i:=i) ha hi;have gr:=fun i (hi:i<r.length)=>xP (p:=p) (l:=l) (r:=r) (q:=q) (m:=m) (i:=i) (by omega) hi;have ml:=fun i (hi:i<l.length)=>(show l.getD i 0∈l by rw[zz2,zy1 hi];exact zx8 _)
 have mr:=fun i (hi:i<r.length)=>(show r.getD i 0∈r by rw[zz2,zy1 hi];exact zx8 _)
 refine cG.bj Tryz.func204 vK vN vW (zz0 rfl) (zz0 rfl) mn (fun hwf W0 D0 E1 =>?_);simp only[sK,uu,bg,zz3,Nat.reduceAdd];clear hwf;have fr:=iZ (x:=m) (y:=a) (by omega) (by omega);refine J.seq (J.seq ?_);have h1:(((m-a:Nat):Int)==1)=false:=by simp;omega
 obtain ⟨ws,hws⟩:∃ ws,ws=p++l++r++q:=⟨_,rfl⟩
 rw[←hws] at hnl hlen gr nI ⊢;have w0b:=iZ (x:=b) (y:=m) (by omega) (by omega);refine .bK (by decide +kernel) fun K hK =>?_;simp only[tf,U,Nat.reduceEqDiff,reduceIte]
 try simp only[fr,h1]
 refine .done (hK _ ?_);clear hK K;try simp only[au]
 refine J.bP ?_
 try simp only[ai,U,Nat.reduceEqDiff,reduceIte]
 refine ⟨fun h =>?_,fun _ =>?_⟩
 ·simp at h
 refine J.skip ?_;try simp only[au]
 refine J.seq (J.seq ?_);obtain ⟨x,rfl⟩:=List.length_eq_one_iff.1 hr1;have gx:ws.getD m 0=x:=by have:=gr 0 hr0;simpa using this
 have hlx:∀ y∈l,y<x:=fun y hy=>hlr y hy x (by simp);have hxS:=hin x (by simp);have hlS:=fun y (hy:y∈l)=>hin y (by simp[hy]);have h2:((b-m:Nat):Int)=1:=by omega
 refine .bK (by decide +kernel) fun K hK =>?_;simp only[xu,U,Nat.reduceEqDiff,reduceIte]
 try simp only[w0b,h2,Int.reduceBEq]
 refine .done (hK _ ?_);clear hK K;try simp only[au]
 refine J.bP ?_
 try simp only[ai,U,Nat.reduceEqDiff,reduceIte]
 refine ⟨fun _ =>?_,fun h =>?_⟩
 rotate_left
 ·simp at h
 refine .aq (by decide +kernel) fun K hK =>?_;simp only[IY,U,Nat.reduceEqDiff,reduceIte];refine .done (hK _ ?_);clear hK K;refine .aq (by decide +kernel) fun K hK =>?_;simp only[IZ,U,Nat.reduceEqDiff,reduceIte];refine .done (hK _ ?_);clear hK K;refine J.seq (J.block (J.loop (fun s:Nat×Nat=>ar [(0,.view 1000000 [] 1 0 n),(1,.int .i64 a),(2,.int .i64 m),(3,.int .i64 b),(4,.func 138 [.ref (enc el)]),(14,.int .i64 ((a+s.1:Nat):Int)),(15,.int .i64 ((a+s.2:Nat):Int))] (bN 1000000 ws))
  (fun s=>s.1≤s.2∧s.2≤l.length∧(∀ j,j<s.1→dR el (l.getD j 0) x)∧∀ j,s.2≤j→j<l.length→dR el x (l.getD j 0)) (fun s=>s.2-s.1) (0,l.length) ⟨zw8 _,zz9 _,fun j hj=>by omega,fun j h1 h2=>by simp only at h1;omega⟩ ?_ ?_))
 ·have e1:a+0=a:=rfl;simp only[e1,hm];refine az.cN ?_ (fun n=>rfl);simp[aO,aP]
 rintro ⟨i,j⟩ ⟨g1,g2,g3,g4⟩;simp only at g1 g2 g3 g4 ⊢;by_cases hij:i<j
 ·have hc:decide (((a+i:Nat):Int)<((a+j:Nat):Int))=true:=by simp;omega
  have w1:=kM (a+i) (a+j) (by omega);have w2:=mU (x:=a+i+(a+j)) (by omega);obtain ⟨c,hcd⟩:∃ c,c=(i+j) / 2:=⟨_,rfl⟩
  have hci:i≤c∧c<j:=by omega
  have w3:(a+i+(a+j)) / 2=a+c:=by omega
  have w4:=mU (x:=a+c) (by omega);have w5:=r5 (n:=a+c) (by omega);have w6:=dX (i:=a+c) (by omega);have v1:=hJ (n:=n) (i:=a+c) (by omega);have v2:=hJ (n:=n) (i:=m) (by omega);have l1:=fJ (xs:=ws) (i:=a+c) (by omega);have l2:=fJ (xs:=ws) (i:=m) (by omega);rw[nI c (by omega)] at l1;rw[gx] at l2;have hrc:=ml c (by omega);have hcmp:=sc el hd hel x (l.getD c 0) hxS (hlS _ hrc);have hlt:=tN (l:=el) (hlx _ hrc);simp only[bN];cases hdc:decide (gM el x-gM el (l.getD c 0)<0) with
  |true =>
   have hd1:dR el x (l.getD c 0):=hlt.2 (by have:=of_decide_eq_true hdc;omega);have R:=u8 @hc (u8 @w1 (u8 @w2 (u8 @w3 (u8 @w4 (u8 @w5 (u8 @w6 (u8 @nX (u8 @nW (u8 @v1 (u8 @v2 (u8 @l1 (u8 @l2 (u8 @hdc (u8 @cK (u8 @dL (u8 @aJ @U))))))))))))))))
   repeat' ((first |(with_reducible refine .guard (fun hb =>?_) (fun hb =>?_) <;>try simp only[hb])|refine J.aE (by decide +kernel) rfl fun K hK =>?_|refine .flat _ (hcmp) rfl ?_|(refine .ay [0,1,2,3,4,10,11,12,13,14,15,16,17,18,19,20,21,22,23,24,28,33,50,58,80,85,103,110,140,151,171,185,199,213] hK ?_;clear hK K)|(with_reducible refine .done (hK _ ?_);clear hK K)|refine J.of rfl ?_|(with_reducible refine ai.aB (fun h =>?_) (fun h =>?_) <;>try simp only[h])) <;>try simp only[aF,R,zy0,Nat.reduceEqDiff,reduceIte,Nat.reduceBEq])
   all_goals clear R
   refine ⟨(i,c),⟨by simp only;omega,by simp only;omega,g3,fun k hk hk2 =>?_⟩,by simp only;omega,?_⟩
   ·simp only at hk;exact qw hsl (i:=c) (by omega) hk2 hd1
   ·refine az.cN ?_ (fun n=>rfl);simp[aO,aP]
  |false =>
   have hd1:dR el (l.getD c 0) x:=tM (hlx _ hrc) (by have:=of_decide_eq_false hdc;omega);have R:=u8 @hc (u8 @w1 (u8 @w2 (u8 @w3 (u8 @w4 (u8 @w5 (u8 @w6 (u8 @nX (u8 @nW (u8 @v1 (u8 @v2 (u8 @l1 (u8 @l2 (u8 @hdc (u8 @cK (u8 @dL (u8 @aJ @U))))))))))))))))
   repeat' ((first |(with_reducible refine .guard (fun hb =>?_) (fun hb =>?_) <;>try simp only[hb])|refine J.aE (by decide +kernel) rfl fun K hK =>?_|refine .flat _ (hcmp) rfl ?_|(refine .ay [0,1,2,3,4,10,11,12,13,14,15,16,17,18,19,20,21,22,23,24,28,33,50,58,80,85,103,110,140,151,171,185,199,213] hK ?_;clear hK K)|(with_reducible refine .done (hK _ ?_);clear hK K)|refine J.of rfl ?_|(with_reducible refine ai.aB (fun h =>?_) (fun h =>?_) <;>try simp only[h])) <;>try simp only[aF,R,zy0,Nat.reduceEqDiff,reduceIte,Nat.reduceBEq])
   all_goals clear R
   refine ⟨(c+1,j),⟨by simp only;omega,g2,fun k hk =>?_,g4⟩,by simp only;omega,?_⟩
   ·simp only at hk;exact qx hsl (j:=c) (by omega) (by omega) hd1
   ·refine az.cN ?_ (fun n=>rfl);simp[aO,aP];omega
 ·have hc:decide (((a+i:Nat):Int)<((a+j:Nat):Int))=false:=by simp;omega
  have he:j=i:=by omega
  subst he;refine J.seq (J.seq ?_);refine .bK (by decide +kernel) fun K hK =>?_;simp only[I0,U,Nat.reduceEqDiff,reduceIte]
  try simp only[hc]
  refine .done (hK _ ?_);clear hK K;try simp only[au]
  refine J.bP ?_;simp only[ai,U,Nat.reduceEqDiff,reduceIte];refine ⟨fun h =>?_,fun h =>?_⟩
  ·cases h
  refine J.exit ?_;try simp only[au,bS,reduceIte]
  refine J.seq (J.seq ?_);refine .bK (by decide +kernel) fun K hK =>?_;simp only[I2,U,Nat.reduceEqDiff,reduceIte];refine .done (hK _ ?_);clear hK K;try simp only[au]
  have hi0:=alD p l q x;rw[hws,←hi0];refine J.block (J.loop (fun k:Nat=>ar [(0,.view 1000000 [] 1 0 n),(14,.int .i64 ((a+j:Nat):Int)),(17,.int .i64 ((a+k:Nat):Int))] (bN 1000000 (eg p l q x k))) (fun k=>j≤k∧k≤l.length) (fun k=>k-j) l.length ⟨g2,zz9 _⟩ ?_ (fun k hk =>?_))
  ·rw[hm];refine az.cN ?_ (fun n=>rfl);simp[aO,aP]
  have hil:(eg p l q x k).length=p.length+l.length+1+q.length:=x6 (by omega);by_cases hkj:j<k
  ·have hc2:decide (((a+j:Nat):Int)<((a+k:Nat):Int))=true:=by simp;omega
   obtain ⟨k',rfl⟩:∃ k',k=k'+1:=⟨k-1,by omega⟩
   have hstep:=KJ (p:=p) (t:=l) (rest:=q) (x:=x) (c:=k') ha (by omega);generalize eg p l q x (k'+1)=ws at hil hstep ⊢;obtain ⟨i1,hi1e⟩:∃ i1,i1=a+(k'+1):=⟨_,rfl⟩
   obtain ⟨j1,hj1e⟩:∃ j1,j1=a+k':=⟨_,rfl⟩
   have hij:a+k'+1=i1:=by omega
   rw[hij,←hj1e] at hstep;have wk:IntKind.i64.wrap ((i1:Int)-1)=(j1:Int):=by rw[cL _ (by omega) (by omega)];omega
   rw[←hi1e] at hc2 ⊢;have hi1:i1<n:=by omega
   have hj1:j1<n:=by omega
   simp only[bN];have v1:=hJ (n:=n) (i:=i1) hi1;have v2:=hJ (n:=n) (i:=j1) hj1;have l1:=fJ (xs:=ws) (i:=i1) (by omega);have l2:=fJ (xs:=ws) (i:=j1) (by omega);have s1:=fun (A:ae) v u rest=>mw (A:=A) (n:=1000000) (xs:=ws) (i:=i1) (by omega) v u rest;obtain ⟨ws2,hws2⟩:∃ ws2,ws2=ws.set i1 (ws.getD j1 0):=⟨_,rfl⟩
   have hw2l:ws2.length=ws.length:=by rw[hws2];simp
   have s2:=fun (A:ae) v u rest=>mw (A:=A) (n:=1000000) (xs:=ws2) (i:=j1) (by omega) v u rest;have l3:=fJ (xs:=ws2) (i:=j1) (by omega);have R:=u8 @hc2 (u8 @wk (u8 @v1 (u8 @v2 (u8 @l1 (u8 @l2 (u8 @l3 (u8 @s1 (u8 @s2 (u8 @cK (u8 @aJ @U))))))))))
   repeat' ((first |(with_reducible refine .guard (fun hb =>?_) (fun hb =>?_) <;>try simp only[hb])|refine J.aE (by decide +kernel) rfl fun K hK =>?_|(refine .ay [0,1,2,3,4,10,11,12,13,14,15,16,17,18,19,20,21,22,23,24,28,33,50,58,80,85,103,110,140,151,171,185,199,213] hK ?_;clear hK K)|(with_reducible refine .done (hK _ ?_);clear hK K)|refine J.of rfl ?_|(with_reducible refine ai.aB (fun h =>?_) (fun h =>?_) <;>try simp only[h])) <;>try simp only[aF,R,←hws2,Nat.reduceEqDiff,reduceIte,Nat.reduceBEq])
   all_goals clear R
   refine ⟨k',by omega,by omega,?_⟩;rw[←hstep];simp only[kK,←hws2,←hj1e];refine az.cN ?_ (fun n =>?_)
   ·simp[aO,aP]
   ·simp only[ak];split <;>rfl
  ·have hc2:decide (((a+j:Nat):Int)<((a+k:Nat):Int))=false:=by simp;omega
   have hk2:k=j:=by omega
   subst hk2;have R:=u8 @hc2 (u8 @aJ (u8 @eX @U))
   repeat' ((first |(with_reducible refine .guard (fun hb =>?_) (fun hb =>?_) <;>try simp only[hb])|refine J.aE (by decide +kernel) rfl fun K hK =>?_|(refine .ay [0,1,2,3,4,10,11,12,13,14,15,16,17,18,19,20,21,22,23,24,28,33,50,58,80,85,103,110,140,151,171,185,199,213] hK ?_;clear hK K)|(with_reducible refine .done (hK _ ?_);clear hK K)|refine J.of rfl ?_|(with_reducible refine ai.aB (fun h =>?_) (fun h =>?_) <;>try simp only[h])) <;>try simp only[aF,R,Nat.reduceEqDiff,reduceIte,Nat.reduceBEq])
   all_goals clear R
   refine od rfl rfl ⟨rfl,l.take k++x::l.drop k,?_,?_,?_⟩
   ·refine List.perm_middle.trans ?_;rw[zy8];exact List.perm_append_comm (l₁:=[x])
   ·refine zI hsl (fun y hy =>?_) (fun y hy =>?_)
    ·obtain ⟨i,h1,h2,rfl⟩:=tP hy;exact g3 i h1
    ·obtain ⟨i,h1,h2,rfl⟩:=pZ hy;exact g4 i h1 h2
   ·rfl
theorem QB(el:List ao)(hd:mI el)(hel:el.length≤60)(N:Nat)(ih:∀ (p l r q:List Int) (a m b n:Nat),l.length+r.length≤N→0<l.length→0<r.length→p.length=a→a+l.length=m→m+r.length=b→b≤n→n≤(p++l++r++q).length→n≤1000→dy el l→dy el r→(∀ x∈l,∀ y∈r,x<y)→(∀ x∈l++r,jL el x) →
  cG Tryz.prog 204 [.view 1000000 [] 1 0 n,enc (a:Int),enc (m:Int),enc (b:Int),.func 138 [.ref (enc el)]] (bN 1000000 (p++l++r++q)) (nj el p (l++r) q)) (p l r q:List Int) (a m b n:Nat) (hl0:0<l.length) (hr0:0<r.length) (ha:p.length=a) (hm:a+l.length=m) (hb:m+r.length=b) (hn:b≤n) (hnl:n≤(p++l++r++q).length) (hn1:n≤1000) (hsl:dy el l) (hsr:dy el r) (hlr:∀ x∈l,∀ y∈r,x<y) (hin:∀ x∈l++r,jL el x) (hN:l.length+r.length≤N+1) (hl1:¬ l.length=1) (hr1:¬ r.length=1) :
  cG Tryz.prog 204 [.view 1000000 [] 1 0 n,enc (a:Int),enc (m:Int),enc (b:Int),.func 138 [.ref (enc el)]] (bN 1000000 (p++l++r++q)) (nj el p (l++r) q):=by
 have hlen:(p++l++r++q).length=p.length+l.length+r.length+q.length:=by simp only[zz5]
 have nI:=fun i (hi:i<l.length)=>xO (p:=p) (l:=l) (r:=r) (q:=q) (i:=i) ha hi;have gr:=fun i (hi:i<r.length)=>xP (p:=p) (l:=l) (r:=r) (q:=q) (m:=m) (i:=i) (by omega) hi;have ml:=fun i (hi:i<l.length)=>(show l.getD i 0∈l by rw[zz2,zy1 hi];exact zx8 _)
 have mr:=fun i (hi:i<r.length)=>(show r.getD i 0∈r by rw[zz2,zy1 hi];exact zx8 _)
 refine cG.bj Tryz.func204 vK vN vW (zz0 rfl) (zz0 rfl) mn (fun hwf W0 D0 E1 =>?_);simp only[sK,uu,bg,zz3,Nat.reduceAdd];clear hwf;have fr:=iZ (x:=m) (y:=a) (by omega) (by omega);refine J.seq (J.seq ?_);have h1:(((m-a:Nat):Int)==1)=false:=by simp;omega
 obtain ⟨ws,hws⟩:∃ ws,ws=p++l++r++q:=⟨_,rfl⟩
 rw[←hws] at hnl hlen gr nI ⊢;have w0b:=iZ (x:=b) (y:=m) (by omega) (by omega);refine .bK (by decide +kernel) fun K hK =>?_;simp only[tf,U,Nat.reduceEqDiff,reduceIte]
 try simp only[fr,h1]
 refine .done (hK _ ?_);clear hK K;try simp only[au]
 refine J.bP ?_
 try simp only[ai,U,Nat.reduceEqDiff,reduceIte]
 refine ⟨fun h =>?_,fun _ =>?_⟩
 ·simp at h
 refine J.skip ?_;try simp only[au]
 refine J.seq (J.seq ?_);have h2:(((b-m:Nat):Int)==1)=false:=by simp;omega
 refine .bK (by decide +kernel) fun K hK =>?_;simp only[xu,U,Nat.reduceEqDiff,reduceIte]
 try simp only[w0b,h2]
 refine .done (hK _ ?_);clear hK K;try simp only[au]
 refine J.bP ?_
 try simp only[ai,U,Nat.reduceEqDiff,reduceIte]
 refine ⟨fun h =>?_,fun _ =>?_⟩
 ·simp at h
 refine J.skip ?_;try simp only[au]
 obtain ⟨k,hk⟩:∃ k,k=(l.length+r.length) / 2:=⟨_,rfl⟩
 have w1:=kM a b (by omega);have w2:=mU (x:=a+b) (by omega);have w3:(a+b) / 2=a+k:=by omega
 have w4:=mU (x:=a+k) (by omega);have w5:=r5 (n:=a+k) (by omega);have w6:=kM (a+k) m (by omega);refine .aq (by decide +kernel) fun K hK =>?_;simp only[I3,U,Nat.reduceEqDiff,reduceIte]
 try simp only[w1,w2,w3,w5,nX,nW,U,Nat.reduceEqDiff,reduceIte]
 refine .done (hK _ ?_);clear hK K;refine .aq (by decide +kernel) fun K hK =>?_;simp only[I4,U,Nat.reduceEqDiff,reduceIte]
 try simp only[w6]
 refine .done (hK _ ?_);clear hK K;refine .aq (by decide +kernel) fun K hK =>?_;simp only[I5,U];refine .done (hK _ ?_);clear hK K;obtain ⟨lo,hi,q1,q2,q3,q4,q5,q6,q7⟩:∃ lo hi,(if a+k<m then lo+r.length=k∧hi=k else lo=0∧hi=l.length)∧lo≤hi∧hi≤l.length∧hi≤k∧k≤lo+r.length∧(lo=0∨lo+r.length=k)∧(hi=l.length∨hi=k):=by
  by_cases h:a+k<m
  ·exact ⟨k-r.length,k,by rw[if_pos h];omega,by omega,by omega,by omega,by omega,by omega,by omega⟩
  ·exact ⟨0,l.length,by rw[if_neg h];omega,by omega,by omega,by omega,by omega,by omega,by omega⟩
 refine J.seq (J.oq (ar [(0,.view 1000000 [] 1 0 n),(1,.int .i64 a),(2,.int .i64 m),(3,.int .i64 b),(4,.func 138 [.ref (enc el)]),(18,.int .i64 ((a+k:Nat):Int)),(19,.int .i64 ((a+k+m:Nat):Int)),(20,.int .i64 ((a+lo:Nat):Int)),(21,.int .i64 ((a+hi:Nat):Int))] (bN 1000000 ws)) ?_ fun B hB=>J.sub hB ?_)
 ·by_cases h:a+k<m
  ·rw[if_pos h] at q1;have hc:decide (((a+k:Nat):Int)<(m:Int))=true:=by simp;omega
   have w7:=iZ (x:=a+k+m) (y:=b) (by omega) (by omega);have e1:a+k+m-b=a+lo:=by omega
   have R:=u8 @hc (u8 @w7 (u8 @e1 (u8 @aJ @U)))
   repeat' ((first |(with_reducible refine .guard (fun hb =>?_) (fun hb =>?_) <;>try simp only[hb])|refine J.aE (by decide +kernel) rfl fun K hK =>?_|(refine .ay [0,1,2,3,4,10,11,12,13,14,15,16,17,18,19,20,21,22,23,24,28,33,50,58,80,85,103,110,140,151,171,185,199,213] hK ?_;clear hK K)|(with_reducible refine .done (hK _ ?_);clear hK K)|refine J.of rfl ?_|(with_reducible refine ai.aB (fun h =>?_) (fun h =>?_) <;>try simp only[h])) <;>try simp only[aF,R,Nat.reduceEqDiff,reduceIte,Nat.reduceBEq])
   all_goals clear R
   rw[q1.2];refine az.cN ?_ (fun n=>rfl);simp[aO,aP]
  ·rw[if_neg h] at q1;have hc:decide (((a+k:Nat):Int)<(m:Int))=false:=by simp;omega
   have R:=u8 @hc (u8 @aJ @U)
   repeat' ((first |(with_reducible refine .guard (fun hb =>?_) (fun hb =>?_) <;>try simp only[hb])|refine J.aE (by decide +kernel) rfl fun K hK =>?_|(refine .ay [0,1,2,3,4,10,11,12,13,14,15,16,17,18,19,20,21,22,23,24,28,33,50,58,80,85,103,110,140,151,171,185,199,213] hK ?_;clear hK K)|(with_reducible refine .done (hK _ ?_);clear hK K)|refine J.of rfl ?_|(with_reducible refine ai.aB (fun h =>?_) (fun h =>?_) <;>try simp only[h])) <;>try simp only[aF,R,Nat.reduceEqDiff,reduceIte,Nat.reduceBEq])
   all_goals clear R
   rw[q1.2,q1.1,hm];refine az.cN ?_ (fun n=>rfl);simp[aO,aP]
 clear q1 w1 w2 w3 w4 w5 w6 hl1 hr1 fr w0b;have hcrF:∀ i,lo≤i→i≤hi→(∀ j,lo≤j→j<i→dR el (l.getD j 0) (r.getD (k-1-j) 0))→(∀ j,i≤j→j<hi→dR el (r.getD (k-1-j) 0) (l.getD j 0))→r8 el l r k i:=fun i a1 a2 a3 a4=>YK hsl hsr a1 a2 q6 q7 q3 q4 q5 a3 a4;have hk2:2*k≤l.length+r.length:=by omega
 have hk3:1≤k:=by omega
 clear q6 q7 hk;have w8:IntKind.i64.wrap (((a+k+m:Nat):Int)-1)=((a+k+m-1:Nat):Int):=by rw[cL _ (by omega) (by omega)];omega
 refine .aq (by decide +kernel) fun K hK =>?_;simp only[I7,U,Nat.reduceEqDiff,reduceIte]
 try simp only[w8]
 refine .done (hK _ ?_);clear hK K;refine J.seq (J.block (J.loop (fun s:Nat×Nat=>ar [(0,.view 1000000 [] 1 0 n),(1,.int .i64 a),(2,.int .i64 m),(3,.int .i64 b),(4,.func 138 [.ref (enc el)]),(18,.int .i64 ((a+k:Nat):Int)),(19,.int .i64 ((a+k+m:Nat):Int)),(22,.int .i64 ((a+k+m-1:Nat):Int)),(20,.int .i64 ((a+s.1:Nat):Int)),(21,.int .i64 ((a+s.2:Nat):Int))] (bN 1000000 ws))
  (fun s=>lo≤s.1∧s.1≤s.2∧s.2≤hi∧(∀ j,lo≤j→j<s.1→dR el (l.getD j 0) (r.getD (k-1-j) 0))∧∀ j,s.2≤j→j<hi→dR el (r.getD (k-1-j) 0) (l.getD j 0)) (fun s=>s.2-s.1) (lo,hi) ⟨zz9 _,q2,zz9 _,fun j h1 h2=>by simp only at h2;omega,fun j h1 h2=>by simp only at h1;omega⟩ ?_ ?_))
 ·refine az.cN ?_ (fun n=>rfl);simp[aO,aP]
 rintro ⟨i,j⟩ ⟨gE,g1,g2,g3,g4⟩;simp only at gE g1 g2 g3 g4 ⊢;by_cases hij:i<j
 ·have hc:decide (((a+i:Nat):Int)<((a+j:Nat):Int))=true:=by simp;omega
  have w1:=kM (a+i) (a+j) (by omega);have w2:=mU (x:=a+i+(a+j)) (by omega);obtain ⟨c,hcd⟩:∃ c,c=(i+j) / 2:=⟨_,rfl⟩
  have hci:i≤c∧c<j:=by omega
  have w3:(a+i+(a+j)) / 2=a+c:=by omega
  have w4:=mU (x:=a+c) (by omega);have w5:=r5 (n:=a+c) (by omega);have w6:=dX (i:=a+c) (by omega);have w9:=iZ (x:=a+k+m-1) (y:=a+c) (by omega) (by omega);have e1:a+k+m-1-(a+c)=m+(k-1-c):=by omega
  have v1:=hJ (n:=n) (i:=a+c) (by omega);have v2:=hJ (n:=n) (i:=m+(k-1-c)) (by omega);have l1:=fJ (xs:=ws) (i:=a+c) (by omega);have l2:=fJ (xs:=ws) (i:=m+(k-1-c)) (by omega);rw[nI c (by omega)] at l1;rw[gr (k-1-c) (by omega)] at l2;have hlc:=ml c (by omega);have hrc:=mr (k-1-c) (by omega);have hcmp:=sc el hd hel (r.getD (k-1-c) 0) (l.getD c 0) (hin _ (by simp only[zx1];exact .inr hrc)) (hin _ (by simp only[zx1];exact .inl hlc));have hlt:=tN (l:=el) (hlr _ hlc _ hrc);simp only[bN];cases hdc:decide (gM el (r.getD (k-1-c) 0)-gM el (l.getD c 0)<0) with
  |true =>
   have hd1:dR el (r.getD (k-1-c) 0) (l.getD c 0):=hlt.2 (by have:=of_decide_eq_true hdc;omega);have R:=u8 @hc (u8 @w1 (u8 @w2 (u8 @w3 (u8 @w4 (u8 @w5 (u8 @w6 (u8 @w9 (u8 @e1 (u8 @nX (u8 @nW (u8 @v1 (u8 @v2 (u8 @l1 (u8 @l2 (u8 @hdc (u8 @cK (u8 @dL (u8 @aJ @U))))))))))))))))))
   repeat' ((first |(with_reducible refine .guard (fun hb =>?_) (fun hb =>?_) <;>try simp only[hb])|refine J.aE (by decide +kernel) rfl fun K hK =>?_|refine .flat _ (hcmp) rfl ?_|(refine .ay [0,1,2,3,4,10,11,12,13,14,15,16,17,18,19,20,21,22,23,24,28,33,50,58,80,85,103,110,140,151,171,185,199,213] hK ?_;clear hK K)|(with_reducible refine .done (hK _ ?_);clear hK K)|refine J.of rfl ?_|(with_reducible refine ai.aB (fun h =>?_) (fun h =>?_) <;>try simp only[h])) <;>try simp only[aF,R,zy0,Nat.reduceEqDiff,reduceIte,Nat.reduceBEq])
   all_goals clear R
   refine ⟨(i,c),⟨gE,by simp only;omega,by simp only;omega,g3,fun t ht ht2 =>?_⟩,by simp only;omega,?_⟩
   ·simp only at ht;exact qx hsr (j:=k-1-c) (by omega) (by omega) (qw hsl (i:=c) (by omega) (by omega) hd1)
   ·refine az.cN ?_ (fun n=>rfl);simp[aO,aP]
  |false =>
   have hd1:dR el (l.getD c 0) (r.getD (k-1-c) 0):=tM (hlr _ hlc _ hrc) (by have:=of_decide_eq_false hdc;omega);have R:=u8 @hc (u8 @w1 (u8 @w2 (u8 @w3 (u8 @w4 (u8 @w5 (u8 @w6 (u8 @w9 (u8 @e1 (u8 @nX (u8 @nW (u8 @v1 (u8 @v2 (u8 @l1 (u8 @l2 (u8 @hdc (u8 @cK (u8 @dL (u8 @aJ @U))))))))))))))))))
   repeat' ((first |(with_reducible refine .guard (fun hb =>?_) (fun hb =>?_) <;>try simp only[hb])|refine J.aE (by decide +kernel) rfl fun K hK =>?_|refine .flat _ (hcmp) rfl ?_|(refine .ay [0,1,2,3,4,10,11,12,13,14,15,16,17,18,19,20,21,22,23,24,28,33,50,58,80,85,103,110,140,151,171,185,199,213] hK ?_;clear hK K)|(with_reducible refine .done (hK _ ?_);clear hK K)|refine J.of rfl ?_|(with_reducible refine ai.aB (fun h =>?_) (fun h =>?_) <;>try simp only[h])) <;>try simp only[aF,R,zy0,Nat.reduceEqDiff,reduceIte,Nat.reduceBEq])
   all_goals clear R
   refine ⟨(c+1,j),⟨by simp only;omega,by simp only;omega,g2,fun t ht ht2 =>?_,g4⟩,by simp only;omega,?_⟩
   ·simp only at ht2;exact qx hsl (j:=c) (by omega) (by omega) (qw hsr (i:=k-1-c) (by omega) (by omega) hd1)
   ·refine az.cN ?_ (fun n=>rfl);simp[aO,aP];omega
 have hc:decide (((a+i:Nat):Int)<((a+j:Nat):Int))=false:=by simp;omega
 have he:j=i:=by omega
 subst he;have hcr:r8 el l r k j:=hcrF _ gE g2 g3 g4;refine J.seq (J.seq ?_);refine .bK (by decide +kernel) fun K hK =>?_;simp only[I8,U,Nat.reduceEqDiff,reduceIte]
 try simp only[hc]
 refine .done (hK _ ?_);clear hK K;try simp only[au]
 refine J.bP ?_;simp only[ai,U,Nat.reduceEqDiff,reduceIte];refine ⟨fun h =>?_,fun h =>?_⟩
 ·cases h
 refine J.exit ?_;try simp only[au,bS,reduceIte]
 have w10:=iZ (x:=a+k+m) (y:=a+j) (by omega) (by omega);have e2:a+k+m-(a+j)=m+(k-j):=by omega
 refine .aq (by decide +kernel) fun K hK =>?_;simp only[I9,U,Nat.reduceEqDiff,reduceIte]
 try simp only[w10,e2]
 refine .done (hK _ ?_);clear hK K
 -- the four parts
 have hl12:l.take j++l.drop j=l:=zy8 _ _;have hr12:r.take (k-j)++r.drop (k-j)=r:=zy8 _ _;obtain ⟨l1,hl1e⟩:∃ l1,l1=l.take j:=⟨_,rfl⟩
 obtain ⟨l2,hl2e⟩:∃ l2,l2=l.drop j:=⟨_,rfl⟩
 obtain ⟨r1,hr1e⟩:∃ r1,r1=r.take (k-j):=⟨_,rfl⟩
 obtain ⟨ed,hr2e⟩:∃ ed,ed=r.drop (k-j):=⟨_,rfl⟩
 have ll1:l1.length=j:=by rw[hl1e,zy4];omega
 have ll2:l2.length=l.length-j:=by rw[hl2e,zy9]
 have lr1:r1.length=k-j:=by rw[hr1e,zy4];omega
 have lr2:ed.length=r.length-(k-j):=by rw[hr2e,zy9]
 have sl1:dy el l1:=hl1e▸OR hsl _;have sl2:dy el l2:=hl2e▸OQ hsl _;have sr1:dy el r1:=hr1e▸OR hsr _;have sr2:dy el ed:=hr2e▸OQ hsr _;have ml1:∀ x∈l1,x∈l:=fun x hx=>List.mem_of_mem_take (hl1e▸hx);have ml2:∀ x∈l2,x∈l:=fun x hx=>List.mem_of_mem_drop (hl2e▸hx);have mr1:∀ x∈r1,x∈r:=fun x hx=>List.mem_of_mem_take (hr1e▸hx);have mr2:∀ x∈ed,x∈r:=fun x hx=>List.mem_of_mem_drop (hr2e▸hx);rw[←hl1e,←hl2e] at hl12;rw[←hr1e,←hr2e] at hr12;have hws4:ws=(p++l1)++l2++r1++(ed++q):=by rw[hws,←hl12,←hr12];simp only[zz6]
 have e3:((a+j:Nat):Int)<m↔j<l.length:=by omega
 -- the parts change places
 refine J.seq (J.oq (ar [(0,.view 1000000 [] 1 0 n),(1,.int .i64 a),(3,.int .i64 b),(4,.func 138 [.ref (enc el)]),(18,.int .i64 ((a+k:Nat):Int)),(20,.int .i64 ((a+j:Nat):Int)),(24,.int .i64 ((m+(k-j):Nat):Int))] (bN 1000000 (p++l1++r1++(l2++ed++q)))) ?_ fun B hB=>J.sub hB ?_)
 ·by_cases h1:j<l.length
  ·have hc1:decide (((a+j:Nat):Int)<(m:Int))=true:=by simp;omega
   by_cases h2:j<k
   ·have hc2:decide ((m:Int)<((m+(k-j):Nat):Int))=true:=by simp;omega
    have hrot:=QF (p++l1) l2 r1 (ed++q) (a+j) m (m+(k-j)) n 138 [.ref (enc el)] (by simp[I.b6,I.bu,dL]) (by rw[zz5];omega) (by omega) (by omega) (by omega) (by omega) (by omega) hn1;rw[←hws4] at hrot;have R:=u8 @hc1 (u8 @hc2 (u8 @aJ @U))
    repeat' ((first |(with_reducible refine .guard (fun hb =>?_) (fun hb =>?_) <;>try simp only[hb])|refine J.aE (by decide +kernel) rfl fun K hK =>?_|(refine .ay [0,1,2,3,4,10,11,12,13,14,15,16,17,18,19,20,21,22,23,24,28,33,50,58,80,85,103,110,140,151,171,185,199,213] hK ?_;clear hK K)|(with_reducible refine .done (hK _ ?_);clear hK K)|refine J.of rfl ?_|(with_reducible refine ai.aB (fun h =>?_) (fun h =>?_) <;>try simp only[h])) <;>try simp only[aF,R,Nat.reduceEqDiff,reduceIte,Nat.reduceBEq])
    all_goals clear R
    refine br.lv hrot (kR _ n 138 [.ref (enc el)] (by simp[I.b6,I.bu,dL]) [_,_,_]) ?_;rintro eb os' ⟨rfl,rfl⟩;refine ⟨_,rfl,rfl,?_⟩
    try simp only[U]
    refine .done (hK _ ?_);clear hK K;have e5:p++l1++r1++l2++(ed++q)=p++l1++r1++(l2++ed++q):=by simp only[zz6]
    rw[e5];refine az.cN ?_ (fun n=>rfl);simp[aO,aP]
   ·have hc2:decide ((m:Int)<((m+(k-j):Nat):Int))=false:=by simp;omega
    have hn0:r1=[]:=zv5.1 (by omega);have e5:ws=p++l1++r1++(l2++ed++q):=by rw[hws4,hn0];simp only[zz6,zx5]
    rw[e5];have R:=u8 @hc1 (u8 @hc2 (u8 @aJ @U))
    repeat' ((first |(with_reducible refine .guard (fun hb =>?_) (fun hb =>?_) <;>try simp only[hb])|refine J.aE (by decide +kernel) rfl fun K hK =>?_|(refine .ay [0,1,2,3,4,10,11,12,13,14,15,16,17,18,19,20,21,22,23,24,28,33,50,58,80,85,103,110,140,151,171,185,199,213] hK ?_;clear hK K)|(with_reducible refine .done (hK _ ?_);clear hK K)|refine J.of rfl ?_|(with_reducible refine ai.aB (fun h =>?_) (fun h =>?_) <;>try simp only[h])) <;>try simp only[aF,R,Nat.reduceEqDiff,reduceIte,Nat.reduceBEq])
    all_goals clear R
    refine az.cN ?_ (fun n=>rfl);simp[aO,aP]
  ·have hc1:decide (((a+j:Nat):Int)<(m:Int))=false:=by simp;omega
   have hn0:l2=[]:=zv5.1 (by omega);have e5:ws=p++l1++r1++(l2++ed++q):=by rw[hws4,hn0];simp only[zz6,zx5,zy5]
   rw[e5];have R:=u8 @hc1 (u8 @aJ @U)
   repeat' ((first |(with_reducible refine .guard (fun hb =>?_) (fun hb =>?_) <;>try simp only[hb])|refine J.aE (by decide +kernel) rfl fun K hK =>?_|(refine .ay [0,1,2,3,4,10,11,12,13,14,15,16,17,18,19,20,21,22,23,24,28,33,50,58,80,85,103,110,140,151,171,185,199,213] hK ?_;clear hK K)|(with_reducible refine .done (hK _ ?_);clear hK K)|refine J.of rfl ?_|(with_reducible refine ai.aB (fun h =>?_) (fun h =>?_) <;>try simp only[h])) <;>try simp only[aF,R,Nat.reduceEqDiff,reduceIte,Nat.reduceBEq])
   all_goals clear R
   refine az.cN ?_ (fun n=>rfl);simp[aO,aP]
 -- the lower half
 refine J.seq (J.apL (fun s1:List Int=>ar [(0,.view 1000000 [] 1 0 n),(3,.int .i64 b),(4,.func 138 [.ref (enc el)]),(18,.int .i64 ((a+k:Nat):Int)),(24,.int .i64 ((m+(k-j):Nat):Int))] (bN 1000000 (p++s1++l2++ed++q))) (fun s1=>s1.Perm (l1++r1)∧dy el s1) ?_ fun s1 B hC hB=>J.sub hB ?_)
 ·by_cases h1:0<j
  ·have hc1:decide ((a:Int)<((a+j:Nat):Int))=true:=by simp;omega
   by_cases h2:j<k
   ·have hc2:decide (((a+j:Nat):Int)<((a+k:Nat):Int))=true:=by simp;omega
    have hrec:=ih p l1 r1 (l2++ed++q) a (a+j) (a+k) n (by omega) (by omega) (by omega) ha (by omega) (by omega) (by omega) (by simp only[zz5];omega) hn1 sl1 sr1 (fun x hx y hy=>hlr x (ml1 x hx) y (mr1 y hy)) (fun x hx=>hin x (by
     rcases zx1.1 hx with h | h
     ·exact zx1.2 (.inl (ml1 x h))
     ·exact zx1.2 (.inr (mr1 x h))))
    have R:=u8 @hc1 (u8 @hc2 (u8 @aJ @U))
    repeat' ((first |(with_reducible refine .guard (fun hb =>?_) (fun hb =>?_) <;>try simp only[hb])|refine J.aE (by decide +kernel) rfl fun K hK =>?_|(refine .ay [0,1,2,3,4,10,11,12,13,14,15,16,17,18,19,20,21,22,23,24,28,33,50,58,80,85,103,110,140,151,171,185,199,213] hK ?_;clear hK K)|(with_reducible refine .done (hK _ ?_);clear hK K)|refine J.of rfl ?_|(with_reducible refine ai.aB (fun h =>?_) (fun h =>?_) <;>try simp only[h])) <;>try simp only[aF,R,Nat.reduceEqDiff,reduceIte,Nat.reduceBEq])
    all_goals clear R
    refine br.lv hrec (kR _ n 138 [.ref (enc el)] (by simp[I.b6,I.bu,dL]) [_,_,_]) ?_;rintro eb os' ⟨rfl,s1,k1,k2,rfl⟩;refine ⟨_,rfl,rfl,?_⟩
    try simp only[U]
    refine .done (hK _ ?_);clear hK K;refine ⟨s1,⟨k1,k2⟩,?_⟩;have e5:p++s1++(l2++ed++q)=p++s1++l2++ed++q:=by simp only[zz6]
    rw[e5];refine az.cN ?_ (fun n=>rfl);simp[aO,aP]
   ·have hc2:decide (((a+j:Nat):Int)<((a+k:Nat):Int))=false:=by simp;omega
    have hn0:r1=[]:=zv5.1 (by omega);have R:=u8 @hc1 (u8 @hc2 (u8 @aJ @U))
    repeat' ((first |(with_reducible refine .guard (fun hb =>?_) (fun hb =>?_) <;>try simp only[hb])|refine J.aE (by decide +kernel) rfl fun K hK =>?_|(refine .ay [0,1,2,3,4,10,11,12,13,14,15,16,17,18,19,20,21,22,23,24,28,33,50,58,80,85,103,110,140,151,171,185,199,213] hK ?_;clear hK K)|(with_reducible refine .done (hK _ ?_);clear hK K)|refine J.of rfl ?_|(with_reducible refine ai.aB (fun h =>?_) (fun h =>?_) <;>try simp only[h])) <;>try simp only[aF,R,Nat.reduceEqDiff,reduceIte,Nat.reduceBEq])
    all_goals clear R
    refine ⟨l1++r1,⟨.refl _,by rw[hn0,zx5];exact sl1⟩,?_⟩;have e5:p++l1++r1++(l2++ed++q)=p++(l1++r1)++l2++ed++q:=by simp only[zz6]
    rw[e5];refine az.cN ?_ (fun n=>rfl);simp[aO,aP]
  ·have hc1:decide ((a:Int)<((a+j:Nat):Int))=false:=by simp;omega
   have hn0:l1=[]:=zv5.1 (by omega);have R:=u8 @hc1 (u8 @aJ @U)
   repeat' ((first |(with_reducible refine .guard (fun hb =>?_) (fun hb =>?_) <;>try simp only[hb])|refine J.aE (by decide +kernel) rfl fun K hK =>?_|(refine .ay [0,1,2,3,4,10,11,12,13,14,15,16,17,18,19,20,21,22,23,24,28,33,50,58,80,85,103,110,140,151,171,185,199,213] hK ?_;clear hK K)|(with_reducible refine .done (hK _ ?_);clear hK K)|refine J.of rfl ?_|(with_reducible refine ai.aB (fun h =>?_) (fun h =>?_) <;>try simp only[h])) <;>try simp only[aF,R,Nat.reduceEqDiff,reduceIte,Nat.reduceBEq])
   all_goals clear R
   refine ⟨l1++r1,⟨.refl _,by rw[hn0,zy5];exact sr1⟩,?_⟩;have e5:p++l1++r1++(l2++ed++q)=p++(l1++r1)++l2++ed++q:=by simp only[zz6]
   rw[e5];refine az.cN ?_ (fun n=>rfl);simp[aO,aP]
 -- the upper half
 obtain ⟨k1,k2⟩:=hC;have ls1:s1.length=k:=by rw[k1.length_eq,zz5];omega
 have done:∀ s2,s2.Perm (l2++ed)→dy el s2→∀ ts ws',ws'=p++s1++s2++q→lB [] (nj el p (l++r) q) (ar ts (bN 1000000 ws')):=fun s2 k3 k4 ts ws' he=>by
  obtain ⟨j1,j2⟩:=apa hcr (hl1e▸hr1e▸k1) (hl2e▸hr2e▸k3) k2 k4;exact od rfl (he.trans (by simp only[zz6])) ⟨rfl,s1++s2,j1,j2,rfl⟩
 by_cases h1:j<l.length
 ·have hc1:decide (((a+k:Nat):Int)<((m+(k-j):Nat):Int))=true:=by simp;omega
  by_cases h2:k-j<r.length
  ·have hc2:decide (((m+(k-j):Nat):Int)<(b:Int))=true:=by simp;omega
   have hrec:=ih (p++s1) l2 ed q (a+k) (m+(k-j)) b n (by omega) (by omega) (by omega) (by rw[zz5];omega) (by omega) (by omega) hn (by simp only[zz5];omega) hn1 sl2 sr2 (fun x hx y hy=>hlr x (ml2 x hx) y (mr2 y hy)) (fun x hx=>hin x (by
    rcases zx1.1 hx with h | h
    ·exact zx1.2 (.inl (ml2 x h))
    ·exact zx1.2 (.inr (mr2 x h))))
   have R:=u8 @hc1 (u8 @hc2 (u8 @aJ @U))
   repeat' ((first |(with_reducible refine .guard (fun hb =>?_) (fun hb =>?_) <;>try simp only[hb])|refine J.aE (by decide +kernel) rfl fun K hK =>?_|(refine .ay [0,1,2,3,4,10,11,12,13,14,15,16,17,18,19,20,21,22,23,24,28,33,50,58,80,85,103,110,140,151,171,185,199,213] hK ?_;clear hK K)|(with_reducible refine .done (hK _ ?_);clear hK K)|refine J.of rfl ?_|(with_reducible refine ai.aB (fun h =>?_) (fun h =>?_) <;>try simp only[h])) <;>try simp only[aF,R,Nat.reduceEqDiff,reduceIte,Nat.reduceBEq])
   all_goals clear R
   refine br.lv hrec (kR _ n 138 [.ref (enc el)] (by simp[I.b6,I.bu,dL]) [_,_,_]) ?_;rintro eb os' ⟨rfl,s2,k3,k4,rfl⟩;refine ⟨_,rfl,rfl,?_⟩
   try simp only[U]
   refine .done (hK _ ?_);clear hK K;rw[mi];exact done s2 k3 k4 _ _ rfl
  ·have hc2:decide (((m+(k-j):Nat):Int)<(b:Int))=false:=by simp;omega
   have hn0:ed=[]:=zv5.1 (by omega);have R:=u8 @hc1 (u8 @hc2 (u8 @aJ @U))
   repeat' ((first |(with_reducible refine .guard (fun hb =>?_) (fun hb =>?_) <;>try simp only[hb])|refine J.aE (by decide +kernel) rfl fun K hK =>?_|(refine .ay [0,1,2,3,4,10,11,12,13,14,15,16,17,18,19,20,21,22,23,24,28,33,50,58,80,85,103,110,140,151,171,185,199,213] hK ?_;clear hK K)|(with_reducible refine .done (hK _ ?_);clear hK K)|refine J.of rfl ?_|(with_reducible refine ai.aB (fun h =>?_) (fun h =>?_) <;>try simp only[h])) <;>try simp only[aF,R,Nat.reduceEqDiff,reduceIte,Nat.reduceBEq])
   all_goals clear R
   rw[mi];exact done (l2++ed) (.refl _) (by rw[hn0,zx5];exact sl2) _ (p++s1++l2++ed++q) (by simp only[zz6])
 ·have hc1:decide (((a+k:Nat):Int)<((m+(k-j):Nat):Int))=false:=by simp;omega
  have hn0:l2=[]:=zv5.1 (by omega);have R:=u8 @hc1 (u8 @aJ @U)
  repeat' ((first |(with_reducible refine .guard (fun hb =>?_) (fun hb =>?_) <;>try simp only[hb])|refine J.aE (by decide +kernel) rfl fun K hK =>?_|(refine .ay [0,1,2,3,4,10,11,12,13,14,15,16,17,18,19,20,21,22,23,24,28,33,50,58,80,85,103,110,140,151,171,185,199,213] hK ?_;clear hK K)|(with_reducible refine .done (hK _ ?_);clear hK K)|refine J.of rfl ?_|(with_reducible refine ai.aB (fun h =>?_) (fun h =>?_) <;>try simp only[h])) <;>try simp only[aF,R,Nat.reduceEqDiff,reduceIte,Nat.reduceBEq])
  all_goals clear R
  rw[mi];exact done (l2++ed) (.refl _) (by rw[hn0,zy5];exact sr2) _ (p++s1++l2++ed++q) (by simp only[zz6])
theorem An(el:List ao)(hd:mI el)(hel:el.length≤60):∀ (N:Nat) (p l r q:List Int) (a m b n:Nat),l.length+r.length≤N→0<l.length→0<r.length→p.length=a→a+l.length=m→m+r.length=b→b≤n→n≤(p++l++r++q).length→n≤1000→dy el l→dy el r→(∀ x∈l,∀ y∈r,x<y)→(∀ x∈l++r,jL el x) →
  cG Tryz.prog 204 [.view 1000000 [] 1 0 n,enc (a:Int),enc (m:Int),enc (b:Int),.func 138 [.ref (enc el)]] (bN 1000000 (p++l++r++q)) (nj el p (l++r) q):=by
 intro N
 induction N with
 |zero=>intro p l r q a m b n h1 h2;omega
 |succ N ih =>
  intro p l r q a m b n hN hl0 hr0 ha hm hb hn hnl hn1 hsl hsr hlr hin;by_cases hl1:l.length=1
  ·exact Qz el hd hel p l r q a m b n hl0 hr0 ha hm hb hn hnl hn1 hsl hsr hlr hin hl1
  by_cases hr1:r.length=1
  ·exact QA el hd hel p l r q a m b n hl0 hr0 ha hm hb hn hnl hn1 hsl hsr hlr hin hl1 hr1
  ·exact QB el hd hel N ih p l r q a m b n hl0 hr0 ha hm hb hn hnl hn1 hsl hsr hlr hin hN hl1 hr1
def dK(ws:List Int)(bs t:Nat):List Int:=(ws.drop (t*bs)).take bs
theorem DA(ws:List Int)(bs u:Nat):dK ws (2*bs) u=dK ws bs (2*u)++dK ws bs (2*u+1):=by
 simp only[dK];rw[show 2*bs=bs+bs by omega,List.take_add,List.drop_drop];have e1:u*(bs+bs)=2*u*bs:=by rw[Nat.mul_add,show 2*u=u+u by omega,zu6]
 have e2:2*u*bs+bs=(2*u+1)*bs:=by rw[zu6];omega
 rw[e1,e2]
def mC(el:List ao)(bs:Nat)(o d:List Int):Prop:=o.length=d.length∧∀ t,(dK d bs t).Perm (dK o bs t)∧dy el (dK d bs t)
theorem AD(el:List ao)(bs:Nat):mC el bs [] []:=⟨rfl,fun t=>by simp[dK,dy]⟩
theorem Dz{o b:List Int}{bs t t':Nat}(ho:o.length=t*bs)(hb:b.length≤bs):dK (o++b) bs t'=if t'<t then dK o bs t' else if t'=t then b else []:=by
 simp only[dK];by_cases h1:t'<t
 ·rw[if_pos h1];have h2:(t'+1)*bs≤t*bs:=Nat.mul_le_mul_right _ h1;rw[zu6,Nat.one_mul] at h2;rw[List.drop_append_of_le_length (by omega),zx3 (by rw[zy9];omega)]
 ·rw[if_neg h1];by_cases h2:t'=t
  ·subst h2;rw[if_pos rfl,←ho,List.drop_left,zw1 hb]
  ·rw[if_neg h2];have h3:(t+1)*bs≤t'*bs:=Nat.mul_le_mul_right _ (by omega);rw[zu6,Nat.one_mul] at h3;rw[zw3 (by rw[zz5];omega)];exact List.take_nil
theorem sr{el:List ao}{bs t:Nat}{o d b b':List Int}(h:mC el bs o d)(ho:o.length=t*bs)(hp:b'.Perm b)(hs:dy el b')(hl:b.length≤bs):mC el bs (o++b) (d++b'):=by
 refine ⟨by rw[zz5,zz5,h.1,hp.length_eq],fun t' =>?_⟩;rw[Dz (by rw[←h.1];exact ho) (by rw[hp.length_eq];exact hl),Dz ho hl];split
 ·exact h.2 t'
 ·split
  ·exact ⟨hp,hs⟩
  ·exact ⟨.refl _,List.Pairwise.nil⟩
theorem Q5{el:List ao}{bs:Nat}{o d:List Int}(h:mC el bs o d)(hn:o.length≤bs):d.Perm o∧dy el d:=by
 have:=h.2 0;simp only[dK,Nat.zero_mul,List.drop_zero] at this;rw[zw1 (by rw[←h.1];exact hn),zw1 hn] at this;exact this
theorem Ws{xs:List Int}(hx:xs.Pairwise (· < ·))(bs u:Nat):∀ x∈dK xs bs (2*u),∀ y∈dK xs bs (2*u+1),x<y:=by
 have h:(dK xs (2*bs) u).Pairwise (· < ·):=(hx.sublist (List.drop_sublist _ _)).sublist (List.take_sublist _ _);rw[DA,List.pairwise_append] at h;exact h.2.2
theorem vR{xs:List Int}{bs t:Nat}{x:Int}(h:x∈dK xs bs t):x∈xs:=List.mem_of_mem_drop (List.mem_of_mem_take h)
theorem O8(xs:List Int)(bs t:Nat):xs.take ((t+1)*bs)=xs.take (t*bs)++dK xs bs t:=by
 rw[zu6,Nat.one_mul,List.take_add];rfl
theorem qP(xs:List Int)(bs t:Nat):xs.drop (t*bs)=dK xs bs t++xs.drop ((t+1)*bs):=by
 simp only[dK];rw[zu6,Nat.one_mul,←List.drop_drop,zy8]
theorem qN{xs:List Int}{bs t:Nat}(h:(t+1)*bs≤xs.length):(dK xs bs t).length=bs:=by
 rw[zu6,Nat.one_mul] at h;simp only[dK,zy4,zy9];omega
theorem apP{x:Nat}(h:x<1000000):IntKind.i64.wrap (2*(x:Int))=((2*x:Nat):Int):=by rw[cL _ (by omega) (by omega)];omega
theorem apQ{x:Nat}(h:x<1000000):IntKind.i64.wrap ((x:Int)*2)=((2*x:Nat):Int):=by rw[cL _ (by omega) (by omega)];omega
theorem KX{i n:Nat}(h:i≤n):decide ((i:Int)≤(n:Int))=true:=by simp;omega
theorem Li{i n:Nat}(h:¬ i≤n):decide ((i:Int)≤(n:Int))=false:=by simp;omega
structure Q6 where
 bs:Nat
 d:List Int
theorem Qh(el:List ao)(hd:mI el)(hel:el.length≤60)(xs q:List Int)(hx:xs.Pairwise (· < ·))(hS:∀ x∈xs,jL el x)(hn:xs.length≤60) :
  cG Tryz.prog 171 [.view 1000000 [] 1 0 xs.length,enc (xs.length:Int),.func 138 [.ref (enc el)]] (bN 1000000 (xs++q)) (nj el [] xs q):=by
 refine cG.bj Tryz.func171 De Ds DR (zz0 rfl) (zz0 rfl) mn (fun hwf W0 D0 E1 =>?_);simp only[vF,y9,bg,zz3,Nat.reduceAdd];clear hwf;have hcl:I.b6 [.ref (enc el)]=true:=by simp[I.b6,I.bu,dL]
 refine .aq (by decide +kernel) fun K hK =>?_;simp only[xi,U,simprocAttr];refine .done (hK _ ?_);clear hK K;refine .aq (by decide +kernel) fun K hK =>?_;simp only[xj,U,simprocAttr];refine .done (hK _ ?_);clear hK K
 -- blocks of twenty
 refine J.seq (J.block (J.loop (fun s:Nat×List Int=>ar [(0,.view 1000000 [] 1 0 xs.length),(1,.int .i64 xs.length),(2,.func 138 [.ref (enc el)]),(6,.int .i64 20),(7,.int .i64 ((s.1*20:Nat):Int)),(8,.int .i64 (((s.1+1)*20:Nat):Int))] (bN 1000000 (s.2++xs.drop (s.1*20)++q)))
  (fun s=>s.1*20≤xs.length∧mC el 20 (xs.take (s.1*20)) s.2) (fun s=>xs.length-s.1*20) (0,[]) ⟨zw8 _,AD el 20⟩ ?_ ?_))
 ·refine az.cN ?_ (fun n=>rfl);simp[aO,aP]
 rintro ⟨t,d⟩ ⟨g1,g2⟩;simp only at g1 g2 ⊢;have ht:(xs.take (t*20)).length=t*20:=by rw[zy4];omega
 have hdl:d.length=t*20:=by rw[←g2.1,ht]
 by_cases hb:(t+1)*20≤xs.length
 ·have hc:=KX hb;have w1:IntKind.i64.wrap ((((t+1)*20:Nat):Int)+20)=(((t+1+1)*20:Nat):Int):=by rw[cL _ (by omega) (by omega)];omega
  have hcl2:=qN hb;have hins:=Am el hd hel d (dK xs 20 t) (xs.drop ((t+1)*20)++q) (t*20) ((t+1)*20) xs.length hdl (by omega) hb (by simp only[zz5,zy9];omega) (by omega) ((hx.sublist (List.drop_sublist _ _)).sublist (List.take_sublist _ _)) (fun x hx=>hS x (vR hx));have e1:d++dK xs 20 t++(xs.drop ((t+1)*20)++q)=d++xs.drop (t*20)++q:=by rw[qP xs 20 t];simp only[zz6]
  rw[e1] at hins;have R:=u8 @hc (u8 @aJ @U)
  repeat' ((first |(with_reducible refine .guard (fun hb =>?_) (fun hb =>?_) <;>try simp only[hb])|refine J.aE (by decide +kernel) rfl fun K hK =>?_|(refine .ay [0,1,2,6,7,8,9,13,30,35,54] hK ?_;clear hK K)|(with_reducible refine .done (hK _ ?_);clear hK K)|refine J.of rfl ?_|(with_reducible refine ai.aB (fun h =>?_) (fun h =>?_) <;>try simp only[h])) <;>try simp only[aF,R,simprocAttr])
  all_goals clear R
  refine br.lv hins (kR _ xs.length 138 [.ref (enc el)] hcl [_,_]) ?_;rintro eb os' ⟨rfl,s',k1,k2,rfl⟩;refine ⟨_,rfl,rfl,?_⟩
  try simp only[U,simprocAttr]
  refine .done (hK _ ?_);clear hK K;have R:=u8 @w1 (u8 @aJ @U)
  repeat' ((first |(with_reducible refine .guard (fun hb =>?_) (fun hb =>?_) <;>try simp only[hb])|refine J.aE (by decide +kernel) rfl fun K hK =>?_|(refine .ay [0,1,2,6,7,8,9,13,30,35,54] hK ?_;clear hK K)|(with_reducible refine .done (hK _ ?_);clear hK K)|refine J.of rfl ?_|(with_reducible refine ai.aB (fun h =>?_) (fun h =>?_) <;>try simp only[h])) <;>try simp only[aF,R,simprocAttr])
  all_goals clear R
  refine ⟨(t+1,d++s'),⟨hb,?_⟩,by simp only;omega,?_⟩
  ·simp only;rw[O8];exact sr g2 ht k1 k2 (by omega)
  ·simp only[←zz6];refine az.cN ?_ (fun n=>rfl);simp[aO,aP]
 have hc:=Li hb;refine J.seq (J.seq ?_);refine .bK (by decide +kernel) fun K hK =>?_;simp only[H5,U,simprocAttr]
 try simp only[hc,simprocAttr]
 refine .done (hK _ ?_);clear hK K;try simp only[au]
 refine J.bP ?_;simp only[ai,U,simprocAttr];refine ⟨fun h =>?_,fun h =>?_⟩
 ·cases h
 refine J.exit ?_;try simp only[au,bS,simprocAttr]
 -- what is left
 have hins:=Am el hd hel d (xs.drop (t*20)) q (t*20) xs.length xs.length hdl (by rw[zy9];omega) (zz9 _) (by simp only[zz5,zy9];omega) (by omega) (hx.sublist (List.drop_sublist _ _)) (fun x hx=>hS x (List.mem_of_mem_drop hx));refine .aq (by decide +kernel) fun K hK =>?_;simp only[H6,U,simprocAttr];refine br.lv hins (kR _ xs.length 138 [.ref (enc el)] hcl [_,_]) ?_;rintro eb os' ⟨rfl,s',k1,k2,rfl⟩;refine ⟨_,rfl,rfl,?_⟩
 try simp only[U,simprocAttr]
 refine .done (hK _ ?_);clear hK K;have hSB:mC el 20 xs (d++s'):=by
  have:=sr g2 ht k1 k2 (by rw[zy9];omega)
  rwa [zy8] at this
 clear k1 k2 hins g2 ht hdl hb hc g1;generalize d++s'=d0 at hSB ⊢
 -- blocks are merged
 refine J.block (J.loop (fun s:Q6=>ar [(0,.view 1000000 [] 1 0 xs.length),(1,.int .i64 xs.length),(2,.func 138 [.ref (enc el)]),(6,.int .i64 s.bs)] (bN 1000000 (s.d++q))) (fun s=>20≤s.bs∧s.bs≤120∧mC el s.bs xs s.d) (fun s=>200-s.bs) ⟨20,d0⟩ ⟨zz9 _,(by show 20≤120;omega),hSB⟩ ?_ ?_)
 ·refine az.cN ?_ (fun n=>rfl);simp[aO,aP]
 rintro ⟨bs,d1⟩ ⟨g1,g2,g3⟩;simp only at g1 g2 g3 ⊢;have hdl:=g3.1;by_cases hb:bs<xs.length
 case neg =>
  have hc:=eT hb;refine J.seq (J.seq ?_);refine .bK (by decide +kernel) fun K hK =>?_;simp only[xk,U,simprocAttr]
  try simp only[hc,simprocAttr]
  refine .done (hK _ ?_);clear hK K;try simp only[au]
  refine J.bP ?_;simp only[ai,U,simprocAttr];refine ⟨fun h =>?_,fun h =>?_⟩
  ·cases h
  refine J.exit ?_;try simp only[au,bS,simprocAttr]
  rw[mi];obtain ⟨k1,k2⟩:=Q5 g3 (by omega);exact od rfl rfl ⟨rfl,d1,k1,k2,rfl⟩
 have hc:=eR hb;have w1:=apP (x:=bs) (by omega);refine J.seq (J.seq ?_);refine .bK (by decide +kernel) fun K hK =>?_;simp only[xk,U,simprocAttr]
 try simp only[hc,simprocAttr]
 refine .done (hK _ ?_);clear hK K;try simp only[au]
 refine J.bP ?_;simp only[ai,U,simprocAttr];refine ⟨fun h =>?_,fun h =>?_⟩
 rotate_left
 ·cases h
 refine J.skip ?_;try simp only[au,simprocAttr]
 refine J.block (J.seq ?_);refine .bK (by decide +kernel) fun K hK =>?_;simp only[H7,U,simprocAttr]
 try simp only[w1,simprocAttr]
 refine .done (hK _ ?_);clear hK K;try simp only[au]
 refine J.seq (J.block (J.loop (fun s:Nat×List Int=>ar [(0,.view 1000000 [] 1 0 xs.length),(1,.int .i64 xs.length),(2,.func 138 [.ref (enc el)]),(6,.int .i64 bs),(7,.int .i64 ((s.1*(2*bs):Nat):Int)),(8,.int .i64 (((s.1+1)*(2*bs):Nat):Int))] (bN 1000000 (s.2++d1.drop (s.1*(2*bs))++q)))
  (fun s=>s.1*(2*bs)≤xs.length∧mC el (2*bs) (xs.take (s.1*(2*bs))) s.2) (fun s=>xs.length-s.1*(2*bs)) (0,[]) ⟨by simp,by simp only[Nat.zero_mul,List.take_zero];exact AD el _⟩ ?_ ?_))
 ·simp only[Nat.zero_mul,zz3,Nat.one_mul,List.drop_zero,zy5];refine az.cN ?_ (fun n=>rfl);simp[aO,aP]
 rintro ⟨u,e⟩ ⟨q1,q2⟩;simp only at q1 q2 ⊢;obtain ⟨A,hA⟩:∃ A,A=u*(2*bs):=⟨_,rfl⟩
 have hA1:(u+1)*(2*bs)=A+2*bs:=by rw[hA,zu6];omega
 have hA2:2*u*bs=A:=by rw[hA,Nat.mul_comm 2 u,Nat.mul_assoc]
 have hA3:(2*u+1)*bs=A+bs:=by rw[zu6,hA2];omega
 have hA4:(2*u+1+1)*bs=A+2*bs:=by rw[zu6,hA3];omega
 have ht:(xs.take A).length=A:=by rw[zy4,hA];omega
 have hel2:e.length=A:=by rw[←q2.1,←hA,ht]
 obtain ⟨kl1,kl2⟩:=g3.2 (2*u);obtain ⟨kr1,kr2⟩:=g3.2 (2*u+1);have hlt2:=Ws hx bs u;have hd2:d1.drop A=dK d1 bs (2*u)++d1.drop (A+bs):=by
  have:=qP d1 bs (2*u)
  rwa [hA2,hA3] at this
 have hd3:d1.drop (A+bs)=dK d1 bs (2*u+1)++d1.drop (A+2*bs):=by
  have:=qP d1 bs (2*u+1)
  rwa [hA3,hA4] at this
 have hlr:∀ x∈dK d1 bs (2*u),∀ y∈dK d1 bs (2*u+1),x<y:=fun x h1 y h2=>hlt2 x (kl1.mem_iff.1 h1) y (kr1.mem_iff.1 h2);have hin:∀ x∈dK d1 bs (2*u)++dK d1 bs (2*u+1),jL el x:=fun x h1=>by
  rcases zx1.1 h1 with h1 | h1
  ·exact hS x (vR (kl1.mem_iff.1 h1))
  ·exact hS x (vR (kr1.mem_iff.1 h1))
 rw[hA1];rw[←hA] at q1 q2 ⊢;by_cases hb2:A+2*bs≤xs.length
 ·have hc2:=KX hb2;have w2:=kM A bs (by omega);have w3:IntKind.i64.wrap (((A+2*bs:Nat):Int)+((2*bs:Nat):Int))=((A+2*bs+2*bs:Nat):Int):=kM _ _ (by omega);have ll:(dK d1 bs (2*u)).length=bs:=qN (by rw[hA3];omega);have lr:(dK d1 bs (2*u+1)).length=bs:=qN (by rw[hA4];omega);have hm:=An el hd hel _ e (dK d1 bs (2*u)) (dK d1 bs (2*u+1)) (d1.drop (A+2*bs)++q) A (A+bs) (A+2*bs) xs.length (zz9 _) (by omega) (by omega) hel2 (by omega) (by omega) hb2 (by simp only[zz5,zy9];omega) (by omega) kl2 kr2 hlr hin;have e1:e++dK d1 bs (2*u)++dK d1 bs (2*u+1)++(d1.drop (A+2*bs)++q)=e++d1.drop A++q:=by rw[hd2,hd3];simp only[zz6]
  rw[e1] at hm;have R:=u8 @hc2 (u8 @w2 (u8 @aJ @U))
  repeat' ((first |(with_reducible refine .guard (fun hb =>?_) (fun hb =>?_) <;>try simp only[hb])|refine J.aE (by decide +kernel) rfl fun K hK =>?_|(refine .ay [0,1,2,6,7,8,9,13,30,35,54] hK ?_;clear hK K)|(with_reducible refine .done (hK _ ?_);clear hK K)|refine J.of rfl ?_|(with_reducible refine ai.aB (fun h =>?_) (fun h =>?_) <;>try simp only[h])) <;>try simp only[aF,R,simprocAttr])
  all_goals clear R
  refine br.lv hm (kR _ xs.length 138 [.ref (enc el)] hcl [_,_,_]) ?_;rintro eb os' ⟨rfl,s',k1,k2,rfl⟩;refine ⟨_,rfl,rfl,?_⟩
  try simp only[U,simprocAttr]
  refine .done (hK _ ?_);clear hK K;try simp only[au]
  have R:=u8 @w1 (u8 @w3 (u8 @aJ @U))
  repeat' ((first |(with_reducible refine .guard (fun hb =>?_) (fun hb =>?_) <;>try simp only[hb])|refine J.aE (by decide +kernel) rfl fun K hK =>?_|(refine .ay [0,1,2,6,7,8,9,13,30,35,54] hK ?_;clear hK K)|(with_reducible refine .done (hK _ ?_);clear hK K)|refine J.of rfl ?_|(with_reducible refine ai.aB (fun h =>?_) (fun h =>?_) <;>try simp only[h])) <;>try simp only[aF,R,simprocAttr])
  all_goals clear R
  refine ⟨(u+1,e++s'),⟨by simp only;omega,?_⟩,by simp only;omega,?_⟩
  ·simp only;rw[O8,←hA];refine sr q2 (ht.trans hA) (k1.trans ?_) k2 (by rw[qN (by omega)];omega);rw[DA];exact kl1.append kr1
  ·have e2:(u+1+1)*(2*bs)=A+2*bs+2*bs:=by rw[zu6,hA1];omega
   simp only[hA1,e2,←zz6];refine az.cN ?_ (fun n=>rfl);simp[aO,aP]
 have hc2:=Li hb2;refine J.seq (J.seq ?_);refine .bK (by decide +kernel) fun K hK =>?_;simp only[H8,U,simprocAttr]
 try simp only[hc2,simprocAttr]
 refine .done (hK _ ?_);clear hK K;try simp only[au]
 refine J.bP ?_;simp only[ai,U,simprocAttr];refine ⟨fun h =>?_,fun h =>?_⟩
 ·cases h
 refine J.exit ?_;try simp only[au,bS,simprocAttr]
 have w2:=kM A bs (by omega);have w4:=apQ (x:=bs) (by omega);have bl:∀ s',s'.Perm (xs.drop A)→dy el s'→mC el (2*bs) xs (e++s'):=fun s' k1 k2=>by
  have:=sr q2 (ht.trans hA) k1 k2 (by rw[zy9];omega)
  rwa [zy8] at this
 have hx1:xs.drop A=dK xs bs (2*u)++xs.drop (A+bs):=by
  have:=qP xs bs (2*u)
  rwa [hA2,hA3] at this
 have hx2:xs.drop (A+bs)=dK xs bs (2*u+1)++xs.drop (A+2*bs):=by
  have:=qP xs bs (2*u+1)
  rwa [hA3,hA4] at this
 by_cases hb3:A+bs<xs.length
 ·have hc3:=eR hb3;have ll:(dK d1 bs (2*u)).length=bs:=qN (by rw[hA3];omega);have hdn:d1.drop (A+2*bs)=[]:=zw3 (by omega);have hxn:xs.drop (A+2*bs)=[]:=zw3 (by omega);have lr:(dK d1 bs (2*u+1)).length=xs.length-(A+bs):=by
   have:=congrArg List.length hd3;rw[hdn,zx5,zy9] at this;omega
  have hm:=An el hd hel _ e (dK d1 bs (2*u)) (dK d1 bs (2*u+1)) q A (A+bs) xs.length xs.length (zz9 _) (by omega) (by omega) hel2 (by omega) (by omega) (zz9 _) (by simp only[zz5];omega) (by omega) kl2 kr2 hlr hin;have e1:e++dK d1 bs (2*u)++dK d1 bs (2*u+1)++q=e++d1.drop A++q:=by rw[hd2,hd3,hdn];simp only[zz6,zx5]
  rw[e1] at hm;have R:=u8 @hc3 (u8 @w2 (u8 @aJ @U))
  repeat' ((first |(with_reducible refine .guard (fun hb =>?_) (fun hb =>?_) <;>try simp only[hb])|refine J.aE (by decide +kernel) rfl fun K hK =>?_|(refine .ay [0,1,2,6,7,8,9,13,30,35,54] hK ?_;clear hK K)|(with_reducible refine .done (hK _ ?_);clear hK K)|refine J.of rfl ?_|(with_reducible refine ai.aB (fun h =>?_) (fun h =>?_) <;>try simp only[h])) <;>try simp only[aF,R,simprocAttr])
  all_goals clear R
  refine br.lv hm (kR _ xs.length 138 [.ref (enc el)] hcl [_,_,_]) ?_;rintro eb os' ⟨rfl,s',k1,k2,rfl⟩;refine ⟨_,rfl,rfl,?_⟩
  try simp only[U,simprocAttr]
  refine .done (hK _ ?_);clear hK K;try simp only[au]
  have R:=u8 @w4 (u8 @aJ @U)
  repeat' ((first |(with_reducible refine .guard (fun hb =>?_) (fun hb =>?_) <;>try simp only[hb])|refine J.aE (by decide +kernel) rfl fun K hK =>?_|(refine .ay [0,1,2,6,7,8,9,13,30,35,54] hK ?_;clear hK K)|(with_reducible refine .done (hK _ ?_);clear hK K)|refine J.of rfl ?_|(with_reducible refine ai.aB (fun h =>?_) (fun h =>?_) <;>try simp only[h])) <;>try simp only[aF,R,simprocAttr])
  all_goals clear R
  refine ⟨⟨2*bs,e++s'⟩,⟨by simp only;omega,by simp only;omega,bl s' (k1.trans ?_) k2⟩,by simp only;omega,?_⟩
  ·rw[hx1,hx2,hxn,zx5];exact kl1.append kr1
  ·refine az.cN ?_ (fun n=>rfl);simp[aO,aP]
 ·have hc3:=eT hb3;have hdn:d1.drop (A+bs)=[]:=zw3 (by omega);have hxn:xs.drop (A+bs)=[]:=zw3 (by omega);rw[hdn,zx5] at hd2;rw[hxn,zx5] at hx1;have R:=u8 @hc3 (u8 @w2 (u8 @w4 (u8 @aJ @U)))
  repeat' ((first |(with_reducible refine .guard (fun hb =>?_) (fun hb =>?_) <;>try simp only[hb])|refine J.aE (by decide +kernel) rfl fun K hK =>?_|(refine .ay [0,1,2,6,7,8,9,13,30,35,54] hK ?_;clear hK K)|(with_reducible refine .done (hK _ ?_);clear hK K)|refine J.of rfl ?_|(with_reducible refine ai.aB (fun h =>?_) (fun h =>?_) <;>try simp only[h])) <;>try simp only[aF,R,simprocAttr])
  all_goals clear R
  refine ⟨⟨2*bs,e++d1.drop A⟩,⟨by simp only;omega,by simp only;omega,bl _ (by rw[hd2,hx1];exact kl1) (by rw[hd2];exact kl2)⟩,by simp only;omega,?_⟩;refine az.cN ?_ (fun n=>rfl);simp[aO,aP]
theorem PS(el:List ao)(hd:mI el)(hel:el.length≤60)(xs q:List Int)(hx:xs.Pairwise (· < ·))(hS:∀ x∈xs,jL el x)(hn:xs.length≤60) :
  cG Tryz.prog 137 [.view 1000000 [] 1 0 xs.length,.func 138 [.ref (enc el)]] (bN 1000000 (xs++q)) (nj el [] xs q):=by
 refine cG.bj Tryz.func137 Da Dp DO (zz0 rfl) (zz0 rfl) mn (fun hwf W0 D0 E1 =>?_);simp only[vC,y6,bg,zz3];clear hwf;refine .bK (by decide +kernel) fun K hK =>?_;simp only[GM,U,simprocAttr]
 try simp only[cK,U,simprocAttr]
 refine br.lv (Qh el hd hel xs q hx hS hn) (kR _ xs.length 138 [.ref (enc el)] (by simp[I.b6,I.bu,dL]) [_]) ?_;rintro eb os' ⟨rfl,s',k1,k2,rfl⟩;refine ⟨_,rfl,rfl,?_⟩
 try simp only[U,simprocAttr]
 refine .done (hK _ ?_);clear hK K;rw[mi];exact od rfl rfl ⟨rfl,s',k1,k2,rfl⟩
def jA(l:List ao)(day:Int)(xs:List Int):List (Nat×ah):=[(1000008,.box (.own 1000080 xs.length)),(1000080,.c5 3 xs),(1000003,.box (enc l)),(1000004,.box (enc day))]
theorem apm(l:List ao)(day:Int)(xs ys:List Int):fH (jA l day xs) (jA l day ys):=by
 refine ⟨fun n=>by simp only[jA,al,ak];(repeat' split) <;>rfl,fun n x h =>?_,fun n h =>?_⟩
 ·simp only[jA,ak] at h
  repeat' split at h
  all_goals first | (cases h;done) | (simp only[t7] at h;subst h;exact ⟨by simp[jA,al,ak,ah.only,bh,I.only],rfl⟩)
 ·simp only[jA,al,ak] at h
  repeat' split at h
  all_goals first | omega | (simp at h;done)
def nR(l:List ao)(day:Int)(i:Nat):Bool:=decide ((ab l i).kind≠0)&&decide ((ab l i).day≤day)
def lQ(l:List ao)(day known:Int)(k:Nat):List Nat:=((ij l known).take k).filter (nR l day)
theorem aae{l:List ao}{day known:Int}{k:Nat}(hk:k<(ij l known).length):lQ l day known (k+1)=lQ l day known k++(if nR l day ((ij l known).getD k 0) then [(ij l known).getD k 0] else []):=by
 have e:(ij l known).getD k 0=(ij l known)[k]:=by rw[zz2,zy1 hk];rfl
 simp only[lQ];rw[zz7 hk,zu3,e];simp only[zx7,zw9]
theorem aac(l:List ao)(day known:Int):lQ l day known (ij l known).length=j4 l day known:=by
 simp only[lQ,zv1];rfl
theorem aad(l:List ao)(day known:Int)(k:Nat):(lQ l day known k).length≤l.length:=by
 have h1:=zu2 (nR l day) ((ij l known).take k);have h2:((ij l known).take k).length≤(ij l known).length:=by rw[zy4];omega
 have h3:(ij l known).length≤l.length:=by
  have:=zu2 (fun i=>(gR l known).getD i false) (List.range l.length)
  rwa [List.length_range] at this
 exact zu1 h1 (zu1 h2 h3)
theorem apl:(∀ (A:ae) n b m k m' k' rest,dx A none n [] b (.own m k) rest (some (.own m' k'))=aC rest (A.aR n (.box (.own m k)))) :=
 fun _ _ _ m k m' k' _=>by rw[eF (s:=none) (v:=.own m k) (old:=.own m' k') rfl rfl rfl,iw]
theorem O5:(∀ n k,fq n k (.own n k)=.view n [] 1 0 k)∧(∀ n k m p,fq n k (.ptr m p)=.ptr m p)∧(∀ n k z,fq n k (.nils z)=.nils z)∧(∀ {α:Type} [Enc α] n k (x:α),fq n k (enc x)=enc x)∧(∀ n k i (x:Int),fq n k (.int i x)=.int i x)∧(∀ n k f xs,fq n k (.func f xs)=.func f xs)∧(∀ n k ks vs,fq n k (.c6 ks vs)=.c6 ks vs)∧(∀ n k b,fq n k (.bool b)=.bool b) ∧
  (∀ n,fW n (.own n 0)=.nils 1)∧(∀ n m p,fW n (.ptr m p)=.ptr m p)∧(∀ n z,fW n (.nils z)=.nils z)∧(∀ {α:Type} [Enc α] n (x:α),fW n (enc x)=enc x)∧(∀ n i (x:Int),fW n (.int i x)=.int i x)∧(∀ n f xs,fW n (.func f xs)=.func f xs)∧(∀ n ks vs,fW n (.c6 ks vs)=.c6 ks vs)∧(∀ n b,fW n (.bool b)=.bool b) ∧
  (∀ f v,iI f (.box v)=.box (f v))∧(∀ f T xs,iI f (.c5 T xs)=.c5 T xs)∧(∀ f ks vs,iI f (.cB ks vs)=.cB ks vs) :=
 ⟨fun _ _=>by simp[fq],fun _ _ _ _=>rfl,fun _ _ _=>rfl,fun _ _ x=>qA (bh _ x),fun _ _ _ _=>rfl,fun _ _ _ _=>rfl,fun _ _ _ _=>rfl,fun _ _ _=>rfl,fun _=>by simp[fW],fun _ _ _=>rfl,fun _ _=>rfl,fun _ x=>zP (bh _ x),fun _ _ _=>rfl,fun _ _ _=>rfl,fun _ _ _=>rfl,fun _ _=>rfl,fun _ _=>rfl,fun _ _ _=>rfl,fun _ _ _=>rfl⟩
theorem sk(l:List ao)(day known:Int)(hok:dF l=true):aw Tryz.prog 88 [enc l,enc day,enc known] (rL l day known):=by
 have hl:=n9 hok;have hd:mI l:=fun i hi=>anx (uf hok hi);refine aw.bj Tryz.func88 Ub Wf YA (zz0 rfl) (fun hwf W0 D0 E1 =>?_);simp only[CY,NX,bg,zz3,Nat.reduceAdd];clear hwf;refine .aq (by decide +kernel) fun K hK =>?_;simp only[J6,U,simprocAttr];refine .done (hK _ ?_);clear hK K;refine .aq (by decide +kernel) fun K hK =>?_;simp only[J7,U,simprocAttr];refine .done (hK _ ?_);clear hK K;refine J.seq (J.seq ?_);refine .bK (by decide +kernel) fun K hK =>?_;simp only[Kc,U,simprocAttr]
 try simp only[cD,aJ,U,simprocAttr]
 refine .lead _ (Pw l known hl) ?_
 try simp only[U,simprocAttr]
 refine .done (hK _ ?_);clear hK K;try simp only[au]
 refine J.sub (az.Rn 8 80 3 1 [] _ rfl rfl rfl (B:=ar [(3,.ptr 3 []),(4,.ptr 4 []),(8,.ptr 8 []),(9,.nils 1),(17,.func 146 [.ref (enc l),.ref (enc (gR l known))])] [(8,.box (.own 80 0)),(80,.c5 3 []),(3,.box (enc l)),(4,.box (enc day))]) ?_) ?_
 ·simp only[iw];refine az.bL ?_ ?_ ?_ ?_ <;>simp[aO,bC,bx,aZ,al,aP,b8,I.only,I.bW,ah.only,bh,ga]
 refine J.block (J.lq (osb0:=jA l day []) (tsR:=[(3,.ptr 1000003 []),(4,.ptr 1000004 []),(8,.ptr 1000008 [])]) (ρ:=[(1999999,999999),(1000003,3),(1000004,4),(1000008,8),(1000080,80)])
  (fun k os=>os=jA l day (cz (lQ l day known k)))
  (fun _ _=>False)
  rfl (zz0 rfl) (by simp only[U,simprocAttr]) (by simp[I.b6,I.bu,dL]) Db (PX l (gR l known) hl (O1 l known)) (fun _=>rfl) rfl rfl rfl (fun o=>⟨?_,?_⟩) ?_ ?_ ?_ ?_ ?_ ?_ ?_)
 ·intro n x hx;simp only[dP,jA,ak] at hx
  repeat' split at hx
  all_goals first | (cases hx;done) | (subst_vars;simp only[t7] at hx;subst hx;simp[dP,jA,al,bJ,ak,ah.aQ,I.aQ,j5,ah.only,I.only,bh,ah.eZ,ga])
 ·intro a b ha hb;simp only[dP,jA,al,ak] at ha hb
  repeat' split at ha
  all_goals first | (simp at ha;done) | skip
  all_goals (repeat' split at hb)
  all_goals first | (simp at hb;done) | (subst_vars;simp[bJ])
 ·simp[ni,aP,I.aQ,bJ,I.only,jA,al,ak]
 ·rintro k os rfl;exact apm ..
 ·rintro e os h;exact h.elim
 ·simp[jA,lQ,cz]
 ·rintro k osb hk rfl W1 D1 E1 tD o1 o2;have hk':k<(ij l known).length:=hk;have hdl:=aad l day known k;have hsu:=aae (day:=day) hk';generalize lQ l day known k=dk at hsu hdl ⊢;obtain ⟨i,hi⟩:∃ i,i=(ij l known).getD k 0:=⟨_,rfl⟩
  have hil:i<l.length:=by
   rw[hi,zz2,zy1 hk'];exact O2 (zx8 hk')
  have hit:((jC (fun i=>(gR l known).getD i false) l.length).getD k 0)=i:=hi.symm;rw[←hi] at hsu;have he:=hE hil;simp only[hit,rN,dP,jA];have R:=u8 @aJ @U
  repeat' ((first |(with_reducible refine .guard (fun hb =>?_) (fun hb =>?_) <;>try simp only[hb])|refine J.aE (by decide +kernel) rfl fun K hK =>?_|(refine .ay [0,1,2,3,4,6,7,8,9,10,11,12,14,17,18,33,45,46,47,48,64] hK ?_;clear hK K)|(with_reducible refine .done (hK _ ?_);clear hK K)|refine J.of rfl ?_|(with_reducible refine ai.aB (fun h =>?_) (fun h =>?_) <;>try simp only[h])) <;>try simp only[aF,R,simprocAttr])
  all_goals clear R
  refine ⟨by simp[],?_⟩;have hap:=fun (A:ae) d rest=>vq (A:=A) (d:=d) (e:=3) (bytes:=8) (n:=1000080) (l:=(cz dk).length) (xs:=cz dk) (y:=(i:Int)) (rest:=rest) rfl (by simp[cz,maxLen];omega) (by simp[cz];omega);rcases h1:((ab l i).kind != 0) <;>rcases h2:decide ((ab l i).day≤day)
  all_goals
   have R:=u8 @h1 (u8 @h2 (u8 @he (u8 @hap (u8 @cD (u8 @apl (u8 @eM (u8 @aX (u8 @aJ @U))))))))
   repeat' ((first |(with_reducible refine .guard (fun hb =>?_) (fun hb =>?_) <;>try simp only[hb])|refine J.aE (by decide +kernel) rfl fun K hK =>?_|(refine .ay [0,1,2,3,4,6,7,8,9,10,11,12,14,17,18,33,45,46,47,48,64] hK ?_;clear hK K)|(with_reducible refine .done (hK _ ?_);clear hK K)|refine J.of rfl ?_|(with_reducible refine ai.aB (fun h =>?_) (fun h =>?_) <;>try simp only[h])) <;>try simp only[aF,R,simprocAttr])
   all_goals clear R
  all_goals
   have hdue:nR l day i=(((ab l i).kind != 0)&&decide ((ab l i).day≤day)):=by simp only[nR,bne,ne_eq,decide_not];rfl
   rw[h1,h2] at hdue;rw[hdue] at hsu;refine ⟨_,?_,rfl⟩;rw[hsu];intro n x hx;simp only[dP,ak,if_true,zz8,zw4,Bool.and_true,Bool.and_false,if_false,zx5] at hx
   (repeat' split at hx) <;>first
    |(cases hx;done)
    |(subst_vars;simp only[t7] at hx;subst hx;simp[dP,al,ar,ak,ah.only,I.only,bh,ah.eZ,cz])
 ·rintro os rfl;have eN:lQ l day known (jC (fun i=>(gR l known).getD i false) l.length).length=j4 l day known:=aac l day known;simp only[eN,jA,dN,zy2,zx2,bJ,ah.aQ,I.aQ,j5,au,bS,reduceIte,Nat.reduceEqDiff,zy0,zy5];refine J.sub (B:=ar [(3,.ptr 3 []),(8,.ptr 8 []),(9,.nils 1)] [(8,.box (.own 80 (lP l day known).length)),(80,.c5 3 (lP l day known)),(3,.box (enc l))]) ?_ ?_
  ·refine az.bL ?_ ?_ ?_ ?_ <;>simp[*,aO,bC,bx,aZ,al,aP,b8,I.only,ah.only,bh,ga,lP]
  have hlen:(lP l day known).length≤60:=by simp only[lP,cz,zy3];exact zu1 (sR l day known) hl
  have hris:=aab l day known;have hin:=aaa (l:=l) (day:=day) (known:=known);have heq:=fun s=>anS (l:=l) (day:=day) (known:=known) (s:=s);generalize lP l day known=xs at hlen hris hin heq ⊢;by_cases hx0:xs=[]
  ·subst hx0;have ho0:qg l day known=[]:=(heq [] (List.Perm.refl _) List.Pairwise.nil).symm;refine J.sub (az.Pa (n:=80) (T:=3) rfl (B:=ar [(3,.ptr 3 []),(8,.ptr 8 []),(9,.nils 1)] [(8,.box (.nils 1)),(3,.box (enc l))]) ?_) ?_
   ·simp only[zy2,zx2,O5,zv7];refine az.bL ?_ ?_ ?_ ?_ <;>simp[aO,bC,bx,aZ,al,aP,b8,I.only,ah.only,bh]
   refine .aq (by decide +kernel) fun K hK =>?_;simp only[xF,U,simprocAttr]
   try simp only[p6,gA,U,simprocAttr]
   refine .flat _ (PT l) rfl ?_
   try simp only[U,simprocAttr]
   refine .done (hK _ ?_);clear hK K;refine .aq (by decide +kernel) fun K hK =>?_;simp only[xG,U,simprocAttr]
   try simp only[eM,U,simprocAttr]
   refine .done (hK _ ?_);clear hK K;refine .aq (by decide +kernel) fun K hK =>?_;simp only[xH,U,simprocAttr];refine .lead _ Ad ?_
   try simp only[U,simprocAttr]
   refine .done (hK _ ?_);clear hK K;refine J.seq (J.seq ?_);refine .bK (by decide +kernel) fun K hK =>?_;simp only[xI,U,simprocAttr]
   try simp only[cD,cK,aX,eM,U,simprocAttr]
   refine .done (hK _ ?_);clear hK K;try simp only[au]
   have hF:=Au l day known hok (W0:=W0) (D0:=D0) (E1:=E1);rw[ho0] at hF;refine J.sub (az.oH [8] 45 (x:=.nils 1) (y:=enc ([]:List Int)) rfl (by rfl) ?_ ?_ ?_ ?_ ?_) hF
   ·simp[cJ,aZ,ah.only,I.only,I.bW,bh]
   ·simp[aO,fK,aP,I.only,I.bW,kV]
   ·simp[bC,cJ,ak]
   ·simp[bx,al,ak,I.only,I.bW,bh,kV]
   ·simp[aZ,al,ak,ah.only,I.only,I.bW,bh]
  ·refine J.zU (n:=80) rfl hx0 (by omega) (ug (by simp[mZ,I.only])) ?_ (fun q =>?_)
   ·intro m y hy hm;simp only[ak] at hy
    repeat' split at hy
    all_goals first | (cases hy;done) | (exact absurd (by assumption) hm) | (simp only[t7] at hy;subst hy;first | exact .inl rfl | exact .inr (by simp[ah.only,bh]))
   simp only[zy2,zx2,O5];refine .aq (by decide +kernel) fun K hK =>?_;simp only[xF,U,simprocAttr]
   try simp only[cD,p6,gA,U,simprocAttr]
   refine .bV true [(1000000,80)] (bN 1000000 (xs++List.replicate q 0)) [.view 1000000 [] 1 0 xs.length,.func 138 [.ref (enc l)]] _ rfl (PS l hd hl xs _ hris hin hlen) ?_ ?_ ?_ ?_
   ·refine ⟨fun m y hy =>?_,fun m m' h h' _=>by rw[cH.1 h,cH.1 h']⟩;simp only[bN,ak] at hy;split at hy
    ·rename_i hm;cases hy;subst hm;exact ⟨by simp only[bJ,if_true,ak,ah.aQ,I.aQ,fM],gj _ _,rfl⟩
    ·cases hy
   ·refine ⟨.inl ⟨by simp[I.aQ,bJ],cH.2 rfl,rfl⟩,.inr ?_,trivial⟩;simp[bl,b7,cC,ar,cJ,jN,bN,bJ,ak,dL,nv]
   ·rintro eb os' ⟨rfl,s',k1,k2,rfl⟩;refine ⟨fun m y hy =>?_,fun m m' h h' _=>by rw[cH.1 h,cH.1 h'],fun m hm=>by rw[cH.1 hm];exact cH.2 rfl,fun m a b=>by rw[cH.1 a] at b;simp[bN,al,ak] at b,rfl,fun _=>rfl⟩;simp only[bN,ak] at hy;split at hy
    ·cases hy;exact ⟨gj _ _,rfl,fun _=>ame _⟩
    ·cases hy
   ·rintro eb os' ⟨rfl,s',k1,k2,rfl⟩;have hs':=heq s' k1 k2;have hsl:xs.length=s'.length:=k1.length_eq.symm
    try simp only[bN,dN,zy2,zx2,ah.aQ,I.aQ,fM,bJ,reduceIte,zy0,zy5,I.cZ,U,simprocAttr]
    refine .done (hK _ ?_);clear hK K;refine .aq (by decide +kernel) fun K hK =>?_;simp only[xG,U,simprocAttr]
    try simp only[eM,U,simprocAttr]
    refine .done (hK _ ?_);clear hK K;refine .aq (by decide +kernel) fun K hK =>?_;simp only[xH,U,simprocAttr];refine .lead _ Ad ?_
    try simp only[U,simprocAttr]
    refine .done (hK _ ?_);clear hK K;refine J.seq (J.seq ?_);refine .bK (by decide +kernel) fun K hK =>?_;simp only[xI,U,simprocAttr]
    try simp only[cD,cK,U,simprocAttr]
    refine .done (hK _ ?_);clear hK K;try simp only[au]
    have hF:=Au l day known hok (W0:=W0) (D0:=D0) (E1:=E1);rw[←hs'] at hF;refine J.sub (az.oH [80,8] 45 (x:=.view 80 [] 1 0 xs.length) (y:=enc s') rfl ?_ ?_ ?_ ?_ ?_ ?_) hF
    ·have:ak (gh [80,8] [(43,ah.box (I.agg ([I.raw (Value.map none)].set 0 (I.mref 41)))),(41,ah.cB [] []),(80,ah.box (I.agg ((s'++List.replicate q 0).map enc))),(80,ah.box (I.agg ((xs++List.replicate q 0).map enc))),(8,ah.box (I.view 80 [] 1 0 xs.length)),(80,ah.c5 3 xs),(3,ah.box (enc l))]) 80=some (.box (.agg ((s'++List.replicate q 0).map enc))):=by
      rw[l7];simp[ak]
     try simp only[this,U,simprocAttr]
     exact sY hsl.symm
    ·simp[cJ,aZ,ah.only,I.only,I.bW,bh]
    ·simp[aO,fK,aP,I.only,I.bW,kV,hsl]
    ·simp[bC,cJ,ak]
    ·simp[bx,al,ak,I.only,I.bW,bh,kV]
    ·simp[aZ,al,ak,ah.only,I.only,I.bW,bh]
 ·rintro e os h;exact h.elim
theorem PE(n:Int):aw Tryz.prog 126 [enc n] (enc (!b9 0 100000 n)):=by
 refine aw.bj Tryz.func126 SG UK W6 (zz0 rfl) (fun hwf W0 D0 E1 =>?_);simp only[Br,Mn,bg];have R:=u8 @aJ @U
 repeat' ((first |(with_reducible refine .guard (fun hb =>?_) (fun hb =>?_) <;>try simp only[hb])|refine J.aE (by decide +kernel) rfl fun K hK =>?_|refine .flat _ (u6 _) rfl ?_|(refine .ay [0,2] hK ?_;clear hK K)|(with_reducible refine .done (hK _ ?_);clear hK K)|refine J.of rfl ?_|(with_reducible refine ai.aB (fun h =>?_) (fun h =>?_) <;>try simp only[h])) <;>try simp only[aF,R,simprocAttr])
 all_goals clear R
abbrev km:=bG 2 Int
def fc(a b:Int):km:=⟨[a,b],rfl⟩
def er(l:List ao)(ns:List km)(ds:List Int):Int:=if dF l then (if ns.all (fun n=>b9 1 (n.g 1) (n.g 0)) then (if ds.any (fun d => !b9 0 100000 d) then 6 else 0) else 1) else 41
theorem aal(a b:Int):I.agg [.int .i64 a,.int .i64 b]=enc (fc a b):=rfl
theorem OW{A:ae}{n:Nat}{b:I}{x:km}{u v:Int}{rest:List aG} : dx A (some 2) n [] b (enc x) rest (some (.agg [.int .i64 u,.int .i64 v]))=aC rest (A.aR n (.box (enc x))):=by
 have:=eF (A:=A) (n:=n) (p:=[]) (b:=b) (v:=enc x) (old:=.agg [.int .i64 u,.int .i64 v]) (rest:=rest) (s:=some 2) (dO _) (by rw[gq];rfl) (eL x);rw[this,iw]
theorem pW :
  (∀ (x:km) y,jk (0:Int) 2 (jj 2 1 (x.l.map enc) y)=y)∧(∀ (x:km) y,jk (1:Int) 2 (jj 2 1 (x.l.map enc) y)=y)∧(∀ x:km,(x.l.map (enc (α:=Int)))[0]?=some (I.int .i64 (x.g 0)))∧(∀ x:km,(x.l.map (enc (α:=Int)))[1]?=some (I.int .i64 (x.g 1))) ∧
  (∀ x:km,(enc x:I).du=some (x.l.map enc))∧(∀ x:km,ca (some 2) (enc x)=true)∧((0:Int).toNat=0)∧((1:Int).toNat=1) :=
 ⟨fun x y=>pS 1 x (by decide) rfl,fun x y=>pS 1 x (by decide) rfl,fun x=>tt x (by decide),fun x=>tt x (by decide),fun _=>rfl,fun x=>by rw[gq];rfl,rfl,rfl⟩
theorem ot(l:List ao)(ns:List km)(ds:List Int):aw Tryz.prog 67 [enc l,enc ns,enc ds] (enc (er l ns ds)):=by
 refine aw.bj Tryz.func67 TT VZ Yk (zz0 rfl) (fun hwf W0 D0 E1 =>?_);simp only[CI,NH,bg,zz3,Nat.reduceAdd];have hnl:ns.length≤maxLen:=((kL ns).1 hwf.2.1).1;simp only[maxLen] at hnl;have hF64:=QO l;simp only[er];rcases hok:dF l
 ·rw[hok,if_neg (by decide)] at hF64;have R:=u8 @hok (u8 @aX (u8 @aJ @U))
  repeat' ((first |(with_reducible refine .guard (fun hb =>?_) (fun hb =>?_) <;>try simp only[hb])|refine J.aE (by decide +kernel) rfl fun K hK =>?_|refine .flat _ (hF64) rfl ?_|(refine .ay [0,1,2,6,7,9,13,15,16,17,18,26,29] hK ?_;clear hK K)|(with_reducible refine .done (hK _ ?_);clear hK K)|refine J.of rfl ?_|(with_reducible refine ai.aB (fun h =>?_) (fun h =>?_) <;>try simp only[h])) <;>try simp only[aF,R,simprocAttr])
  all_goals clear R
 rw[hok,if_pos rfl] at hF64;have R:=u8 @hok (u8 @aX (u8 @aJ @U))
 repeat' ((first |(with_reducible refine .guard (fun hb =>?_) (fun hb =>?_) <;>try simp only[hb])|refine J.aE (by decide +kernel) rfl fun K hK =>?_|refine .flat _ (hF64) rfl ?_|(refine .ay [0,1,2,6,7,9,13,15,16,17,18,26,29] hK ?_;clear hK K)|(with_reducible refine .done (hK _ ?_);clear hK K)|refine J.of rfl ?_|(with_reducible refine ai.aB (fun h =>?_) (fun h =>?_) <;>try simp only[h])) <;>try simp only[aF,R,simprocAttr])
 all_goals clear R
 refine J.loop (fun i:Nat=>ar [(2,enc ds),(15,enc ns),(16,.int .i64 ns.length),(17,.int .i64 i)] []) (fun i=>i≤ns.length∧∀ k,(h:k<ns.length)→k<i→b9 1 ((ns[k]).g 1) ((ns[k]).g 0)=true) (fun i=>ns.length-i) 0 ⟨zw8 _,fun k _ hk=>by omega⟩ ?_ (fun i hi =>?_)
 ·refine az.bL ?_ ?_ ?_ ?_ <;>simp[aO,bC,bx,aZ,aP,I.only,bh]
 obtain ⟨hi1,hi2⟩:=hi;by_cases hlt:i<ns.length
 ·have hc:=eR hlt;have he:=fun A=>eh (A:=A) 2 hlt rfl;have hw:=dX (i:=i) (by omega);obtain ⟨x,hx⟩:∃ x,x=ns[i]:=⟨_,rfl⟩
  rw[←hx] at he;rcases hp:b9 1 (x.g 1) (x.g 0)
  ·have hall:(ns.all fun n=>b9 1 (n.g 1) (n.g 0))=false:=by
    rw[List.all_eq_false];exact ⟨x,hx▸zx8 hlt,by rw[hp];decide⟩
   have R:=u8 @hc (u8 @he (u8 @hp (u8 @hall (u8 @OW (u8 @pW (u8 @aX @U))))))
   repeat' ((first |(with_reducible refine .guard (fun hb =>?_) (fun hb =>?_) <;>try simp only[hb])|refine J.aE (by decide +kernel) rfl fun K hK =>?_|refine .flat _ (mA _ _ _) rfl ?_|(refine .ay [0,1,2,6,7,9,13,15,16,17,18,26,29] hK ?_;clear hK K)|(with_reducible refine .done (hK _ ?_);clear hK K)|refine J.of rfl ?_|(with_reducible refine ai.aB (fun h =>?_) (fun h =>?_) <;>try simp only[h])) <;>try simp only[aF,R,simprocAttr])
   all_goals clear R
  ·have R:=u8 @hc (u8 @he (u8 @hp (u8 @hw (u8 @OW (u8 @pW (u8 @aX @U))))))
   repeat' ((first |(with_reducible refine .guard (fun hb =>?_) (fun hb =>?_) <;>try simp only[hb])|refine J.aE (by decide +kernel) rfl fun K hK =>?_|refine .flat _ (mA _ _ _) rfl ?_|(refine .ay [0,1,2,6,7,9,13,15,16,17,18,26,29] hK ?_;clear hK K)|(with_reducible refine .done (hK _ ?_);clear hK K)|refine J.of rfl ?_|(with_reducible refine ai.aB (fun h =>?_) (fun h =>?_) <;>try simp only[h])) <;>try simp only[aF,R,simprocAttr])
   all_goals clear R
   refine ⟨i+1,⟨by omega,fun k hk hki =>?_⟩,by omega,?_⟩
   ·by_cases e:k=i
    ·subst e;rw[←hx];exact hp
    ·exact hi2 k hk (by omega)
   ·refine az.bL ?_ ?_ ?_ ?_ <;>simp[aO,bC,bx,aZ,aP,bh,I.only]
 ·have hc:=eT hlt;have hall:(ns.all fun n=>b9 1 (n.g 1) (n.g 0))=true:=by
   rw[zx9];intro x hx;obtain ⟨k,hk,rfl⟩:=List.getElem_of_mem hx;exact hi2 k hk (by omega)
  have hF:=u5 ds 126 [] rfl (fun d => !b9 0 100000 d) (fun x _=>PE x);rcases hd:ds.any fun d => !b9 0 100000 d
  all_goals
   rw[hd] at hF;have R:=u8 @hc (u8 @hall (u8 @hd (u8 @aX (u8 @aJ @U))))
   repeat' ((first |(with_reducible refine .guard (fun hb =>?_) (fun hb =>?_) <;>try simp only[hb])|refine J.aE (by decide +kernel) rfl fun K hK =>?_|refine .flat _ (hF) rfl ?_|(refine .ay [0,1,2,6,7,9,13,15,16,17,18,26,29] hK ?_;clear hK K)|(with_reducible refine .done (hK _ ?_);clear hK K)|refine J.of rfl ?_|(with_reducible refine ai.aB (fun h =>?_) (fun h =>?_) <;>try simp only[h])) <;>try simp only[aF,R,simprocAttr])
   all_goals clear R
def cM(l:List ao)(day known:Int):List aH:=(jv fQ l (fV l day known)).1
def apM(l:List ao)(day known:Int):List Int:=di (cz (jv fQ l (fV l day known)).2)
theorem ur(l:List ao)(day known:Int):rL l day known=.tuple [eQ (cM l day known),enc (apM l day known)]:=rfl
theorem nJ{l:List ao}(hok:dF l=true)(day known:Int):((cM l day known).map (·.no)).Nodup∧(cM l day known).length≤60∧∀ b∈cM l day known,b.bH.length≤60:=by
 have h:=uo l (fV l day known) _ (zz9 _);rw[LR] at h;have h2:(fV l day known).length≤60:=by rw[yT];exact zu1 (sR l day known) (n9 hok)
 exact ⟨h.1,by simp only[cM];omega,fun b hb=>by have:=h.2.2.1 b hb;omega⟩
theorem rv(bs:List aH)(no:Int):gG (.i .i64) .nilp (.int .i64 no) (dw bs) (bs.map fun b=>.ref (enc (⟨b⟩:eK)))=match bY bs no with
  |some b=>some (.ref (enc (⟨b⟩:eK)),true)
  |none=>some (.nilp,false):=by
 have h1:=tp (bs:=bs) (no:=no);have h2:=yg wq .nilp no (bs.map (·.no)) (bs.map fun b=>.ref (enc (⟨b⟩:eK)));rw[ga] at h2;unfold dw;rw[h2];cases h:(bs.map (·.no)).findIdx? fun x=>decide (no=x) with
 |none=>rw[h] at h1;simp only at h1;rw[h1]
 |some i =>
  rw[h] at h1;obtain ⟨hi,g1,g2⟩:=h1;rw[g1];simp[hi]
theorem WD(bs:List aH):I.b6 (bs.map fun b=>.ref (enc (⟨b⟩:eK)))=true:=by
 induction bs with
 |nil=>rfl
 |cons b bs ih=>simp only[zy2,I.b6,I.bu,dL,ih,zw4]
theorem Wx(bs:List aH):(I.c6 (dw bs) (bs.map fun b=>.ref (enc (⟨b⟩:eK)))).bu=true:=by
 simp only[I.bu,WD,Bool.and_true];exact jZ _
theorem nN:(∀ bs,(eQ bs).bu=true)∧(∀ aD A bs,bl aD A (eQ bs)=some (eQ bs))∧(∀ bs,(eQ bs).cu=true)∧(∀ bs,ca none (eQ bs)=true)∧(∀ p bs,(eQ bs).only p=true)∧(∀ x:eK,(enc x:I).bu=true)∧(∀ bs,mX (eQ bs)=some (eQ bs)) ∧
  (∀ A bs,lT A 0 0 (eQ bs)=some (.ref (.c6 (dw bs) (bs.map fun b=>.ref (enc (⟨b⟩:eK))))))∧(∀ x:eK,mX (.ref (enc x))=some (.ref (enc x))) :=
 have h:∀ bs,(I.agg [.c6 (dw bs) (bs.map fun b=>.ref (enc (⟨b⟩:eK)))]).bu=true:=fun bs=>by simp only[I.bu,I.b6,Bool.and_true];exact Wx bs
 ⟨fun bs=>by simp only[eQ,I.bu];exact h bs,fun aD A bs=>by simp only[eQ,bl,h bs,if_true],fun _=>rfl,fun _=>rfl,fun p bs=>kd p _ (by simp only[eQ,I.bu];exact h bs),fun x=>dL x,fun _=>rfl,
  fun A bs=>by simp[eQ,lT,I.du,qW,pM,dM,I.sizes],fun _=>rfl⟩
theorem Pc:(∀ k n,(I.int k n).cu=true)∧(∀ b,(I.bool b).cu=true):=⟨fun _ _=>rfl,fun _=>rfl⟩
theorem mH{l:List ao}{ns:List km}{ds:List Int}(h:er l ns ds=0):dF l=true:=by
 simp only[er] at h;split at h
 ·assumption
 ·cases h
theorem nY{a:Int}(h:a=0):(a != 0)=false:=by simp[h]
theorem nZ{a:Int}(h:¬ a=0):(a != 0)=true:=by simp[h]
theorem qM(a b:Int):iC 1 (some [.int .i64 a,.int .i64 b])=some (enc [a,b]):=mF (ys:=[a,b]) 1 rfl
theorem np(l:List ao)(known:Int)(hok:dF l=true):aw Tryz.prog 68 [enc l,enc known] (eQ (cM l 100000 known)):=by
 refine aw.bj Tryz.func68 TU V0 Yl (zz0 rfl) (fun hwf W0 D0 E1 =>?_);simp only[CJ,NI,bg,zz3];have hF:=sk l 100000 known hok;rw[ur] at hF;have R:=u8 @nN (u8 @aJ @U)
 repeat' ((first |(with_reducible refine .guard (fun hb =>?_) (fun hb =>?_) <;>try simp only[hb])|refine J.aE (by decide +kernel) rfl fun K hK =>?_|refine .lead _ (hF) ?_|(refine .ay [0,1,4,5] hK ?_;clear hK K)|(with_reducible refine .done (hK _ ?_);clear hK K)|refine J.of rfl ?_|(with_reducible refine ai.aB (fun h =>?_) (fun h =>?_) <;>try simp only[h])) <;>try simp only[aF,R,simprocAttr])
 all_goals clear R
theorem QX(b:aH):aw Tryz.prog 89 [.ref (enc (⟨b⟩:eK))] (enc (!decide (0≤b.dH))):=by
 refine aw.bj Tryz.func89 Uc Wg YB (zz0 rfl) (fun hwf W0 D0 E1 =>?_);simp only[CZ,NY,bg];have R:=u8 @nN (u8 @aJ @U)
 repeat' ((first |(with_reducible refine .guard (fun hb =>?_) (fun hb =>?_) <;>try simp only[hb])|refine J.aE (by decide +kernel) rfl fun K hK =>?_|refine .flat _ (jD _) rfl ?_|(refine .ay [0,2] hK ?_;clear hK K)|(with_reducible refine .done (hK _ ?_);clear hK K)|refine J.of rfl ?_|(with_reducible refine ai.aB (fun h =>?_) (fun h =>?_) <;>try simp only[h])) <;>try simp only[aF,R,simprocAttr])
 all_goals clear R
def qJ(l:List ao)(day known:Int):List Int×Int:=if er l [] [day,known]=0 then (di (((cM l day known).filter fun b => !decide (0≤b.dH)).map (·.no)),0) else ([],er l [] [day,known])
theorem QH(l:List ao)(day known:Int):aw Tryz.prog 26 [enc l,enc day,enc known] (.tuple [enc (qJ l day known).1,enc (qJ l day known).2]):=by
 refine aw.bj Tryz.func26 TH VN X8 (zz0 rfl) (fun hwf W0 D0 E1 =>?_);simp only[Cw,Nu,bg,zz3,Nat.reduceAdd];clear hwf;have hC:=ot l [] [day,known];simp only[qJ];generalize hc:er l [] [day,known]=e at hC ⊢;by_cases he:e=0
 ·have hn:=nY he;subst he;have hok:=mH hc;have hF:=sk l day known hok;rw[ur] at hF;have hb:=nJ hok day known;have hN:=sh (cM l day known) hb.2.1 89 [] rfl (fun b => !decide (0≤b.dH)) (fun b _=>QX b);have R:=u8 @hn (u8 @qM (u8 @nN (u8 @gA (u8 @aJ @U))))
  repeat' ((first |(with_reducible refine .guard (fun hb =>?_) (fun hb =>?_) <;>try simp only[hb])|refine J.aE (by decide +kernel) rfl fun K hK =>?_|refine .flat _ (hC) rfl ?_|refine .lead _ (hF) ?_|refine .lead _ (hN) ?_|(refine .ay [0,1,2,6,7,8,9,17] hK ?_;clear hK K)|(with_reducible refine .done (hK _ ?_);clear hK K)|refine J.of rfl ?_|(with_reducible refine ai.aB (fun h =>?_) (fun h =>?_) <;>try simp only[h])) <;>try simp only[aF,R,simprocAttr])
  all_goals clear R
  all_goals rfl
 ·have hn:=nZ he;have R:=u8 @hn (u8 @he (u8 @qM (u8 @aJ @U)))
  repeat' ((first |(with_reducible refine .guard (fun hb =>?_) (fun hb =>?_) <;>try simp only[hb])|refine J.aE (by decide +kernel) rfl fun K hK =>?_|refine .flat _ (hC) rfl ?_|(refine .ay [0,1,2,6,7,8,9,17] hK ?_;clear hK K)|(with_reducible refine .done (hK _ ?_);clear hK K)|refine J.of rfl ?_|(with_reducible refine ai.aB (fun h =>?_) (fun h =>?_) <;>try simp only[h])) <;>try simp only[aF,R,simprocAttr])
  all_goals clear R
  all_goals rfl
def tx(l:List ao)(no day known:Int):Int×Int:=if er l [fc no 9999] [day,known]=0 then (match bY (cM l day known) no with
 |none=>(0,42)
 |some b=>if 0≤b.dH then (0,0) else (b.bX,0)) else (0,er l [fc no 9999] [day,known])
theorem A4(a b:Int):iC 2 (some [.agg [.int .i64 a,.int .i64 b]])=some (enc [fc a b]):=mF (ys:=[fc a b]) 2 rfl
theorem A5(a b c d:Int):iC 2 (some [.agg [.int .i64 a,.int .i64 b],.agg [.int .i64 c,.int .i64 d]])=some (enc [fc a b,fc c d]):=mF (ys:=[fc a b,fc c d]) 2 rfl
theorem dC:(type_of% @aJ)∧(type_of% @ik)∧(type_of% @nN)∧(type_of% @gA)∧(type_of% @eM)∧(type_of% @cD)∧(type_of% @aX)∧(type_of% @qM)∧(type_of% @A4)∧(type_of% @A5)∧(type_of% @AZ)∧(type_of% @Pc)∧(type_of% @U):=⟨@aJ,@ik,@nN,@gA,@eM,@cD,@aX,@qM,@A4,@A5,@AZ,@Pc,@U⟩
theorem QI(l:List ao)(no day known:Int):aw Tryz.prog 27 [enc l,enc no,enc day,enc known] (.tuple [enc (tx l no day known).1,enc (tx l no day known).2]):=by
 refine aw.bj Tryz.func27 TI VO X9 (zz0 rfl) (fun hwf W0 D0 E1 =>?_);simp only[Cx,Nv,bg,zz3,Nat.reduceAdd];clear hwf;have hC:=ot l [fc no 9999] [day,known];simp only[tx];generalize hc:er l [fc no 9999] [day,known]=e at hC ⊢;by_cases he:e=0
 ·have hn:=nY he;subst he;have hok:=mH hc;have hF:=sk l day known hok;rw[ur] at hF;have hk:=rv (cM l day known) no;cases hg:bY (cM l day known) no with
  |none =>
   rw[hg] at hk;have R:=u8 @hn (u8 @hk dC)
   repeat' ((first |(with_reducible refine .guard (fun hb =>?_) (fun hb =>?_) <;>try simp only[hb])|refine J.aE (by decide +kernel) rfl fun K hK =>?_|refine .flat _ (hC) rfl ?_|refine .lead _ (hF) ?_|(refine .ay [0,1,2,3,8,9,10,11,13,23,38,41] hK ?_;clear hK K)|(with_reducible refine .done (hK _ ?_);clear hK K)|refine J.of rfl ?_|(with_reducible refine ai.aB (fun h =>?_) (fun h =>?_) <;>try simp only[h])) <;>try simp only[aF,R,simprocAttr])
   all_goals clear R
  |some b =>
   rw[hg] at hk;rcases hd:decide (0≤b.dH)
   all_goals
    have R:=u8 @hn (u8 @hk (u8 @hd dC))
    repeat' ((first |(with_reducible refine .guard (fun hb =>?_) (fun hb =>?_) <;>try simp only[hb])|refine J.aE (by decide +kernel) rfl fun K hK =>?_|refine .flat _ (hC) rfl ?_|refine .lead _ (hF) ?_|refine .flat _ (jD _) rfl ?_|(refine .ay [0,1,2,3,8,9,10,11,13,23,38,41] hK ?_;clear hK K)|(with_reducible refine .done (hK _ ?_);clear hK K)|refine J.of rfl ?_|(with_reducible refine ai.aB (fun h =>?_) (fun h =>?_) <;>try simp only[h])) <;>try simp only[aF,R,simprocAttr])
    all_goals clear R
    simp only[decide_eq_true_eq,decide_eq_false_iff_not] at hd;simp[hd]
 ·have hn:=nZ he;have R:=u8 @hn (u8 @he dC)
  repeat' ((first |(with_reducible refine .guard (fun hb =>?_) (fun hb =>?_) <;>try simp only[hb])|refine J.aE (by decide +kernel) rfl fun K hK =>?_|refine .flat _ (hC) rfl ?_|(refine .ay [0,1,2,3,8,9,10,11,13,23,38,41] hK ?_;clear hK K)|(with_reducible refine .done (hK _ ?_);clear hK K)|refine J.of rfl ?_|(with_reducible refine ai.aB (fun h =>?_) (fun h =>?_) <;>try simp only[h])) <;>try simp only[aF,R,simprocAttr])
  all_goals clear R
  all_goals rfl
theorem QZ(b:aH)(o s:Int):aw Tryz.prog 91 [.ref (enc (⟨b⟩:eK)),.ref (enc o),.ref (enc s)] (enc (!decide (0≤b.dH)&&(b.bX==o&&b.eJ==s))):=by
 refine aw.bj Tryz.func91 Uf Wj YE (zz0 rfl) (fun hwf W0 D0 E1 =>?_);simp only[C2,N1,bg,zz3,Nat.reduceAdd];have R:=dC
 repeat' ((first |(with_reducible refine .guard (fun hb =>?_) (fun hb =>?_) <;>try simp only[hb])|refine J.aE (by decide +kernel) rfl fun K hK =>?_|refine .flat _ (jD _) rfl ?_|(refine .ay [0,1,2,4] hK ?_;clear hK K)|(with_reducible refine .done (hK _ ?_);clear hK K)|refine J.of rfl ?_|(with_reducible refine ai.aB (fun h =>?_) (fun h =>?_) <;>try simp only[h])) <;>try simp only[aF,R,simprocAttr])
 all_goals clear R
 all_goals simp_all
def sN(l:List ao)(o s day known:Int):Int×Int:=if er l [fc o 99,fc s 9] [day,known]=0 then ((((cM l day known).filter fun b => !decide (0≤b.dH)&&(b.bX==o&&b.eJ==s)).length:Int),0) else (0,er l [fc o 99,fc s 9] [day,known])
theorem QJ(l:List ao)(o s day known:Int):aw Tryz.prog 28 [enc l,enc o,enc s,enc day,enc known] (.tuple [enc (sN l o s day known).1,enc (sN l o s day known).2]):=by
 refine aw.bj Tryz.func28 TJ VP Ya (zz0 rfl) (fun hwf W0 D0 E1 =>?_);simp only[Cy,Nw,bg,zz3,Nat.reduceAdd];clear hwf;have hC:=ot l [fc o 99,fc s 9] [day,known];simp only[sN];generalize hc:er l [fc o 99,fc s 9] [day,known]=e at hC ⊢;by_cases he:e=0
 ·have hn:=nY he;subst he;have hok:=mH hc;have hF:=sk l day known hok;rw[ur] at hF;have hb:=nJ hok day known;have hN:=sh (cM l day known) hb.2.1 91 [.ref (enc o),.ref (enc s)] rfl (fun b => !decide (0≤b.dH)&&(b.bX==o&&b.eJ==s)) (fun b _=>QZ b o s);have R:=u8 @hn (u8 @p6 dC)
  repeat' ((first |(with_reducible refine .guard (fun hb =>?_) (fun hb =>?_) <;>try simp only[hb])|refine J.aE (by decide +kernel) rfl fun K hK =>?_|refine .flat _ (hC) rfl ?_|refine .lead _ (hF) ?_|(refine .ay [0,1,2,3,4,6,7,10,11,12,13,26] hK ?_;clear hK K)|(with_reducible refine .done (hK _ ?_);clear hK K)|refine J.of rfl ?_|(with_reducible refine ai.aB (fun h =>?_) (fun h =>?_) <;>try simp only[h])) <;>try simp only[aF,R,simprocAttr])
  all_goals clear R
  refine .gY [6,7] _ rfl hN ?_ ?_ ?_
  ·simp[bl,b7,cC,ar,gh,ak,nv,nN,I.bu];exact ⟨rfl,rfl⟩
  ·simp[aZ,cJ]
  ·have hlen:(di (((cM l day known).filter fun b => !decide (0≤b.dH)&&(b.bX==o&&b.eJ==s)).map (·.no))).length=((cM l day known).filter fun b => !decide (0≤b.dH)&&(b.bX==o&&b.eJ==s)).length:=by simp[di]
   try simp only[fK,zy2,zx2,hlen,dC,U,simprocAttr]
   have R:=u8 @hlen dC
   repeat' ((first |(with_reducible refine .guard (fun hb =>?_) (fun hb =>?_) <;>try simp only[hb])|refine J.aE (by decide +kernel) rfl fun K hK =>?_|(refine .ay [0,1,2,3,4,6,7,10,11,12,13,26] hK ?_;clear hK K)|(with_reducible refine .done (hK _ ?_);clear hK K)|refine J.of rfl ?_|(with_reducible refine ai.aB (fun h =>?_) (fun h =>?_) <;>try simp only[h])) <;>try simp only[aF,R,simprocAttr])
   all_goals clear R
 ·have hn:=nZ he;have R:=u8 @hn (u8 @he dC)
  repeat' ((first |(with_reducible refine .guard (fun hb =>?_) (fun hb =>?_) <;>try simp only[hb])|refine J.aE (by decide +kernel) rfl fun K hK =>?_|refine .flat _ (hC) rfl ?_|(refine .ay [0,1,2,3,4,6,7,10,11,12,13,26] hK ?_;clear hK K)|(with_reducible refine .done (hK _ ?_);clear hK K)|refine J.of rfl ?_|(with_reducible refine ai.aB (fun h =>?_) (fun h =>?_) <;>try simp only[h])) <;>try simp only[aF,R,simprocAttr])
  all_goals clear R
  all_goals rfl
theorem dS(m:cq):ca (some 7) (enc m)=true:=by rw[gq];rfl
theorem sg(m:cq)(b:aH):aw Tryz.prog 69 [enc m,.ref (enc (⟨b⟩:eK))] (enc (gv m b.bH).1):=by
 refine aw.bj Tryz.func69 TV V1 Ym (zz0 rfl) (fun hwf W0 D0 E1 =>?_);simp only[CK,NJ,bg,zz3];clear hwf;have hC:=PF m b.bH;have R:=u8 @dS dC
 repeat' ((first |(with_reducible refine .guard (fun hb =>?_) (fun hb =>?_) <;>try simp only[hb])|refine J.aE (by decide +kernel) rfl fun K hK =>?_|refine .lead _ (hC) ?_|(refine .ay [0,1,2,4,5] hK ?_;clear hK K)|(with_reducible refine .done (hK _ ?_);clear hK K)|refine J.of rfl ?_|(with_reducible refine ai.aB (fun h =>?_) (fun h =>?_) <;>try simp only[h])) <;>try simp only[aF,R,simprocAttr])
 all_goals clear R
theorem PH(l:List Int)(n:Int):aw Tryz.prog 131 [enc l,enc n] (enc (ka (fun x=>n==x) l)):=by
 refine aw.bj Tryz.func131 SL UP Xb (zz0 rfl) (fun hwf W0 D0 E1 =>?_);simp only[Bx,Ms,bg,zz3];have hlen:l.length≤maxLen:=((kL l).1 hwf.1).1;simp only[maxLen] at hlen;clear hwf;have R:=u8 @aX @U
 repeat' ((first |(with_reducible refine .guard (fun hb =>?_) (fun hb =>?_) <;>try simp only[hb])|refine J.aE (by decide +kernel) rfl fun K hK =>?_|(refine .ay [0,1,4,5,7,8,9,16] hK ?_;clear hK K)|(with_reducible refine .done (hK _ ?_);clear hK K)|refine J.of rfl ?_|(with_reducible refine ai.aB (fun h =>?_) (fun h =>?_) <;>try simp only[h])) <;>try simp only[aF,R,simprocAttr])
 all_goals clear R
 refine J.loop (fun i:Nat=>ar [(0,enc l),(1,.int .i64 n),(7,.int .i64 l.length),(8,.int .i64 i)] []) (fun i=>i≤l.length∧∀ x∈l.take i,(n==x)=false) (fun i=>l.length-i) 0 ⟨zw8 _,by simp⟩ ?_ (fun i hi =>?_)
 ·refine az.bL ?_ ?_ ?_ ?_ <;>simp[aO,bC,bx,aZ,aP,I.only,bh]
 obtain ⟨hi1,hi2⟩:=hi;by_cases hlt:i<l.length
 ·have hc:=eR hlt;have he:=fun A=>eh (A:=A) 1 hlt rfl;have hw:=dX (i:=i) (by omega);rcases hp:(n==l[i])
  ·have R:=u8 @hc (u8 @he (u8 @hp (u8 @hw (u8 @mb (u8 @aX @U)))))
   repeat' ((first |(with_reducible refine .guard (fun hb =>?_) (fun hb =>?_) <;>try simp only[hb])|refine J.aE (by decide +kernel) rfl fun K hK =>?_|(refine .ay [0,1,4,5,7,8,9,16] hK ?_;clear hK K)|(with_reducible refine .done (hK _ ?_);clear hK K)|refine J.of rfl ?_|(with_reducible refine ai.aB (fun h =>?_) (fun h =>?_) <;>try simp only[h])) <;>try simp only[aF,R,simprocAttr])
   all_goals clear R
   refine ⟨i+1,⟨by omega,fun x hm =>?_⟩,by omega,?_⟩
   ·rw[zz7 hlt] at hm;rcases zx1.1 hm with hm | hm
    ·exact hi2 x hm
    ·simp at hm;rw[hm];exact hp
   ·refine az.bL ?_ ?_ ?_ ?_ <;>simp[aO,bC,bx,aZ,aP,I.only,bh]
  ·have R:=u8 @hc (u8 @he (u8 @hp (u8 @mb (u8 @aX @U))))
   repeat' ((first |(with_reducible refine .guard (fun hb =>?_) (fun hb =>?_) <;>try simp only[hb])|refine J.aE (by decide +kernel) rfl fun K hK =>?_|(refine .ay [0,1,4,5,7,8,9,16] hK ?_;clear hK K)|(with_reducible refine .done (hK _ ?_);clear hK K)|refine J.of rfl ?_|(with_reducible refine ai.aB (fun h =>?_) (fun h =>?_) <;>try simp only[h])) <;>try simp only[aF,R,simprocAttr])
   all_goals clear R
   simp[ka,s7 hlt hi2 hp]
 ·have hc:=eT hlt;have hge:i=l.length:=by omega
  have R:=u8 @hc (u8 @aX @U)
  repeat' ((first |(with_reducible refine .guard (fun hb =>?_) (fun hb =>?_) <;>try simp only[hb])|refine J.aE (by decide +kernel) rfl fun K hK =>?_|(refine .ay [0,1,4,5,7,8,9,16] hK ?_;clear hK K)|(with_reducible refine .done (hK _ ?_);clear hK K)|refine J.of rfl ?_|(with_reducible refine ai.aB (fun h =>?_) (fun h =>?_) <;>try simp only[h])) <;>try simp only[aF,R,simprocAttr])
  all_goals clear R
  subst hge;rw[zv1] at hi2;simp[ka,sZ hi2]
theorem QR(l:List Int)(n:Int):aw Tryz.prog 74 [enc l,enc n] (enc (decide (n∈l))):=by
 refine aw.bj Tryz.func74 T0 V6 Yr (zz0 rfl) (fun hwf W0 D0 E1 =>?_);simp only[CP,NO,bg,zz3];clear hwf;have R:=u8 @aJ @U
 repeat' ((first |(with_reducible refine .guard (fun hb =>?_) (fun hb =>?_) <;>try simp only[hb])|refine J.aE (by decide +kernel) rfl fun K hK =>?_|refine .flat _ (PH _ _) rfl ?_|(refine .ay [0,1,4] hK ?_;clear hK K)|(with_reducible refine .done (hK _ ?_);clear hK K)|refine J.of rfl ?_|(with_reducible refine ai.aB (fun h =>?_) (fun h =>?_) <;>try simp only[h])) <;>try simp only[aF,R,simprocAttr])
 all_goals clear R
 rw[Kz]
 congr 1
 rw[Bool.eq_iff_iff];simp[List.any_eq_true]
theorem QP(m:cq)(b:aH):aw Tryz.prog 73 [.ref (enc (⟨b⟩:eK)),.ref (enc m)] (enc (decide (0<b.jH) && !decide (b.jH∈(gv m b.bH).1))):=by
 refine aw.bj Tryz.func73 TZ V5 Yq (zz0 rfl) (fun hwf W0 D0 E1 =>?_);simp only[CO,NN,bg,zz3];clear hwf;have hC:=sg m b;have R:=u8 @dS dC
 repeat' ((first |(with_reducible refine .guard (fun hb =>?_) (fun hb =>?_) <;>try simp only[hb])|refine J.aE (by decide +kernel) rfl fun K hK =>?_|refine .lead _ (hC) ?_|refine .flat _ (QR _ _) rfl ?_|(refine .ay [0,1,3] hK ?_;clear hK K)|(with_reducible refine .done (hK _ ?_);clear hK K)|refine J.of rfl ?_|(with_reducible refine ai.aB (fun h =>?_) (fun h =>?_) <;>try simp only[h])) <;>try simp only[aF,R,simprocAttr])
 all_goals clear R
 all_goals first | (simp_all;done) | (simp_all;intro h;omega)
def lI(m:cq)(l:List ao)(no known:Int):List Int×Int:=if eO m then (if er l [fc no 9999] [known]=0 then (match bY (cM l 100000 known) no with
 |none=>([],42)
 |some b=>((gv m b.bH).1,0)) else ([],er l [fc no 9999] [known])) else ([],13)
theorem kT(a:Int):iC 1 (some [.int .i64 a])=some (enc [a]):=mF (ys:=[a]) 1 rfl
theorem u7(m:cq)(l:List ao)(no known:Int):aw Tryz.prog 14 [enc m,enc l,enc no,enc known] (.tuple [enc (lI m l no known).1,enc (lI m l no known).2]):=by
 refine aw.bj Tryz.func14 SS UX Xi (zz0 rfl) (fun hwf W0 D0 E1 =>?_);simp only[BE,Mz,bg,zz3,Nat.reduceAdd];clear hwf;have hM:=qE m;have hC:=ot l [fc no 9999] [known];simp only[lI];rcases hm:eO m
 ·rw[hm,if_neg (by decide)] at hM;have R:=u8 @dS dC
  repeat' ((first |(with_reducible refine .guard (fun hb =>?_) (fun hb =>?_) <;>try simp only[hb])|refine J.aE (by decide +kernel) rfl fun K hK =>?_|refine .flat _ (hM) rfl ?_|(refine .ay [0,1,2,3,4,8,9,10,11,12,16,26,37] hK ?_;clear hK K)|(with_reducible refine .done (hK _ ?_);clear hK K)|refine J.of rfl ?_|(with_reducible refine ai.aB (fun h =>?_) (fun h =>?_) <;>try simp only[h])) <;>try simp only[aF,R,simprocAttr])
  all_goals clear R
  all_goals rfl
 rw[hm,if_pos rfl] at hM;generalize hc:er l [fc no 9999] [known]=e at hC ⊢;by_cases he:e=0
 ·have hn:=nY he;subst he;have hok:=mH hc;have hF:=np l known hok;have hk:=rv (cM l 100000 known) no;cases hg:bY (cM l 100000 known) no with
  |none =>
   rw[hg] at hk;have R:=u8 @hn (u8 @hk (u8 @dS dC))
   repeat' ((first |(with_reducible refine .guard (fun hb =>?_) (fun hb =>?_) <;>try simp only[hb])|refine J.aE (by decide +kernel) rfl fun K hK =>?_|refine .flat _ (hM) rfl ?_|refine .flat _ (hC) rfl ?_|refine .lead _ (hF) ?_|(refine .ay [0,1,2,3,4,8,9,10,11,12,16,26,37] hK ?_;clear hK K)|(with_reducible refine .done (hK _ ?_);clear hK K)|refine J.of rfl ?_|(with_reducible refine ai.aB (fun h =>?_) (fun h =>?_) <;>try simp only[h])) <;>try simp only[aF,R,simprocAttr])
   all_goals clear R
   all_goals rfl
  |some b =>
   rw[hg] at hk;have hB:=sg m b;have R:=u8 @hn (u8 @hk (u8 @dS dC))
   repeat' ((first |(with_reducible refine .guard (fun hb =>?_) (fun hb =>?_) <;>try simp only[hb])|refine J.aE (by decide +kernel) rfl fun K hK =>?_|refine .flat _ (hM) rfl ?_|refine .flat _ (hC) rfl ?_|refine .lead _ (hF) ?_|refine .lead _ (hB) ?_|(refine .ay [0,1,2,3,4,8,9,10,11,12,16,26,37] hK ?_;clear hK K)|(with_reducible refine .done (hK _ ?_);clear hK K)|refine J.of rfl ?_|(with_reducible refine ai.aB (fun h =>?_) (fun h =>?_) <;>try simp only[h])) <;>try simp only[aF,R,simprocAttr])
   all_goals clear R
 ·have hn:=nZ he;have R:=u8 @hn (u8 @he (u8 @dS dC))
  repeat' ((first |(with_reducible refine .guard (fun hb =>?_) (fun hb =>?_) <;>try simp only[hb])|refine J.aE (by decide +kernel) rfl fun K hK =>?_|refine .flat _ (hM) rfl ?_|refine .flat _ (hC) rfl ?_|(refine .ay [0,1,2,3,4,8,9,10,11,12,16,26,37] hK ?_;clear hK K)|(with_reducible refine .done (hK _ ?_);clear hK K)|refine J.of rfl ?_|(with_reducible refine ai.aB (fun h =>?_) (fun h =>?_) <;>try simp only[h])) <;>try simp only[aF,R,simprocAttr])
  all_goals clear R
  all_goals rfl
def r6(m:cq)(l:List ao)(known:Int):List Int×Int:=if eO m then (if er l [] [known]=0 then
 (di (((cM l 100000 known).filter fun b=>decide (0<b.jH) && !decide (b.jH∈(gv m b.bH).1)).map (·.no)),0) else ([],er l [] [known])) else ([],13)
theorem P8(m:cq)(l:List ao)(known:Int):aw Tryz.prog 16 [enc m,enc l,enc known] (.tuple [enc (r6 m l known).1,enc (r6 m l known).2]):=by
 refine aw.bj Tryz.func16 S7 Vc Xx (zz0 rfl) (fun hwf W0 D0 E1 =>?_);simp only[BT,MP,bg,zz3,Nat.reduceAdd];clear hwf;have hM:=qE m;have hC:=ot l [] [known];simp only[r6];rcases hm:eO m
 ·rw[hm,if_neg (by decide)] at hM;have R:=u8 @dS dC
  repeat' ((first |(with_reducible refine .guard (fun hb =>?_) (fun hb =>?_) <;>try simp only[hb])|refine J.aE (by decide +kernel) rfl fun K hK =>?_|refine .flat _ (hM) rfl ?_|(refine .ay [0,1,2,3,6,7,8,9,13,20] hK ?_;clear hK K)|(with_reducible refine .done (hK _ ?_);clear hK K)|refine J.of rfl ?_|(with_reducible refine ai.aB (fun h =>?_) (fun h =>?_) <;>try simp only[h])) <;>try simp only[aF,R,simprocAttr])
  all_goals clear R
  all_goals rfl
 rw[hm,if_pos rfl] at hM;generalize hc:er l [] [known]=e at hC ⊢;by_cases he:e=0
 ·have hn:=nY he;subst he;have hok:=mH hc;have hF:=np l known hok;have hb:=nJ hok 100000 known;have hN:=sh (cM l 100000 known) hb.2.1 73 [.ref (enc m)] (by simp[I.eI,I.done,dL]) (fun b=>decide (0<b.jH) && !decide (b.jH∈(gv m b.bH).1)) (fun b _=>QP m b);have R:=u8 @hn (u8 @dS (u8 @p6 dC))
  repeat' ((first |(with_reducible refine .guard (fun hb =>?_) (fun hb =>?_) <;>try simp only[hb])|refine J.aE (by decide +kernel) rfl fun K hK =>?_|refine .flat _ (hM) rfl ?_|refine .flat _ (hC) rfl ?_|refine .lead _ (hF) ?_|(refine .ay [0,1,2,3,6,7,8,9,13,20] hK ?_;clear hK K)|(with_reducible refine .done (hK _ ?_);clear hK K)|refine J.of rfl ?_|(with_reducible refine ai.aB (fun h =>?_) (fun h =>?_) <;>try simp only[h])) <;>try simp only[aF,R,simprocAttr])
  all_goals clear R
  refine .gY [3] _ rfl hN ?_ ?_ ?_
  ·simp[bl,b7,cC,ar,gh,ak,nv,nN,dL]
  ·simp[aZ,cJ]
  ·try simp only[fK,zy2,zx2,dC,U,simprocAttr]
   have R:=dC
   repeat' ((first |(with_reducible refine .guard (fun hb =>?_) (fun hb =>?_) <;>try simp only[hb])|refine J.aE (by decide +kernel) rfl fun K hK =>?_|(refine .ay [0,1,2,3,6,7,8,9,13,20] hK ?_;clear hK K)|(with_reducible refine .done (hK _ ?_);clear hK K)|refine J.of rfl ?_|(with_reducible refine ai.aB (fun h =>?_) (fun h =>?_) <;>try simp only[h])) <;>try simp only[aF,R,simprocAttr])
   all_goals clear R
 ·have hn:=nZ he;have R:=u8 @hn (u8 @he (u8 @dS dC))
  repeat' ((first |(with_reducible refine .guard (fun hb =>?_) (fun hb =>?_) <;>try simp only[hb])|refine J.aE (by decide +kernel) rfl fun K hK =>?_|refine .flat _ (hM) rfl ?_|refine .flat _ (hC) rfl ?_|(refine .ay [0,1,2,3,6,7,8,9,13,20] hK ?_;clear hK K)|(with_reducible refine .done (hK _ ?_);clear hK K)|refine J.of rfl ?_|(with_reducible refine ai.aB (fun h =>?_) (fun h =>?_) <;>try simp only[h])) <;>try simp only[aF,R,simprocAttr])
  all_goals clear R
  all_goals rfl
end Go.Proofs.YtcldiigclhgafaaGreat
