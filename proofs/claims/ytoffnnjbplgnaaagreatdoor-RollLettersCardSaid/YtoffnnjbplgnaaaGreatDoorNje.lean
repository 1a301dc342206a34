/-
  A part of the proof that the law RollLetters returns true for every input; five variables of Go's library start as the text lays them (the card ties them); conditions: none beyond the statement's own. (part 5 of 7)
-/
import Derived.ChangeArms
import Derived.Test.YtoffnnjbplgnaaaGreatDoorRows
import Derived.Test.YtoffnnjbplgnaaaGreatDoorCards
import Derived.Test.YtoffnnjbplgnaaaGreatDoorTie
import Derived.LaidMore
import Derived.MakeChecks
import Derived.Lib.LaidTab
import Derived.Lib.LaidU8
import Derived.HandedShaped
import Derived.Shelf.Vars
import Derived.Shelf.SlSortCmp.WholeK
import Derived.Shelf.SlSortCmp.NoneTotal
import Derived.Shelf.Small.Wraps
import Derived.WalkKit
import Derived.Lib.RowBridge
import Derived.Lib.SortBridge
import Derived.StillTailTactics
import Derived.Test.YtoffnnjbplgnaaaGreatDoorNjd
set_option linter.unusedSimpArgs false
set_option linter.unusedVariables false
set_option maxHeartbeats 16000000
set_option maxRecDepth 100000
namespace Go.Proofs.YtoffnnjbplgnaaaGreatDoor
open Go Go.Abs
open Go.Abs.Enc (enc)
def z7:bn:=(.seq (.b9 none Z5) (.seq (.seq (.b9 none aab) (.cond (.t 20) (.b9 none EY) .skip)) (.seq (.b9 none aac) (.seq (.b9 none aad) (.seq (.b9 none EZ) (.seq (.seq (.b9 none aae) (.block 0 (.loop (.seq (.b9 none aaf) (.seq (.cond (.t 29) .skip (.exit 0)) (.seq (.block 1 (.seq (.b9 none aag) (.b9 none EW))) (.b9 none Z6))))))) (.seq (.b9 none Z7) (.seq (.seq (.b9 none Z8) (.cond (.t 59) (.b9 none EX) .skip)) (.seq (.b9 none Z9) (.seq (.seq (.b9 none aaa) (.cond (.t 75) (.b9 none yF) .skip)) (.seq (.b9 Rs yG) .ret)))))))))))
theorem RE:Tryz.f70.body.bind (xV Tryz.prog Tryz.f70.ntmps)=some (.b9 none EV,124,[4,5,6],13,z7):=by kernel_rfl
def ju(s:Int)(t:List UInt8):ah×Int×Bool:=match eb bj s t with
 |some (r,n)=>(r,n,true)
 |none=>(default,0,false)
def jq(r:ah)(n:Int)(b:Bool):List (Nat×al):=[(1900004,.box (enc r)),(1900005,.box (.int .i64 n)),(1900006,.box (.bool b))]
def mO(x:ah×Int×Bool):I:=.tuple [enc x.1,.int .i64 x.2.1,.bool x.2.2]
def tm(s:Int)(t:List UInt8):cv:=fun r os'=>r=mO (ju s t)∧os'=jq (ju s t).1 (ju s t).2.1 (ju s t).2.2
def pN:List (Nat×Nat):=[(1900004,4),(1900005,5),(1900006,6)]
def zI:List (Nat×al):=[(6,.box (.bool false)),(5,.box (.int .i64 0)),(4,.box (enc (default:ah)))]
def pz:List Nat:=[1900004,1900005,1900006]
def qa:List I:=[enc (default:ah),.int .i64 0,.bool false]
theorem wC(m:Nat):bp pN m=if m=1900004 then 4 else if m=1900005 then 5 else if m=1900006 then 6 else m:=rfl
theorem vD{r:ah}{n:Int}{b:Bool}{m:Nat}{y:al}(h:aq (jq r n b) m=some y):(m=1900004∧y=.box (enc r))∨(m=1900005∧y=.box (.int .i64 n))∨(m=1900006∧y=.box (.bool b)):=by
 simp only[jq,aq] at h;split at h
 ·rename_i e;cases h;exact .inl ⟨e,rfl⟩
 split at h
 ·rename_i e;cases h;exact .inr (.inl ⟨e,rfl⟩)
 split at h
 ·rename_i e;cases h;exact .inr (.inr ⟨e,rfl⟩)
 ·cases h
theorem nq{r:ah}{n:Int}{b:Bool}{m:Nat} : ay (jq r n b) m=true↔m=1900004∨m=1900005∨m=1900006:=by
 constructor
 ·intro h;cases hy:aq (jq r n b) m with
  |none=>rw[ay,hy] at h;cases h
  |some y=>rcases vD hy with ⟨h,_⟩ | ⟨h,_⟩ | ⟨h,_⟩ <;>simp[h]
 ·rintro (rfl | rfl | rfl) <;>rfl
theorem pB{r:ah}{n:Int}{b:Bool}{m:Nat}{y:al}(h:aq (jq r n b) m=some y)(p:Nat→Bool):y.only p=true∧y.fm=true∧y.aQ (bp pN)=y:=by
 rcases vD h with ⟨_,rfl⟩ | ⟨_,rfl⟩ | ⟨_,rfl⟩
 ·exact ⟨bg _ _,rfl,by simp only[al.aQ,gz]⟩
 ·exact ⟨rfl,rfl,rfl⟩
 ·exact ⟨rfl,rfl,rfl⟩
theorem adb:fj pN (jq default 0 false) zI:=by
 refine ⟨fun m y hy=>⟨?_,(pB hy _).1,(pB hy (fun _=>true)).2.1⟩,fun m m' hm hm' e =>?_⟩
 ·rw[(pB hy (fun _=>true)).2.2];rcases vD hy with ⟨rfl,rfl⟩ | ⟨rfl,rfl⟩ | ⟨rfl,rfl⟩ <;>rfl
 ·have k1:=nq.1 hm;have k2:=nq.1 hm';rw[wC,wC] at e
  (repeat' split at e) <;>omega
theorem Lz(s:Int)(t:List UInt8):∀ r os',tm s t r os'→dG false pN (jq default 0 false) zI r os':=by
 rintro r os' ⟨rfl,rfl⟩;refine ⟨fun m y hy=>⟨(pB hy _).1,(pB hy (fun _=>true)).2.1,fun h=>by cases h⟩,fun m m' hm hm' e =>?_,fun m hm=>nq.2 (nq.1 hm),fun m hm hno =>?_,⟨?_,fun h=>by cases h⟩⟩
 ·have k1:=nq.1 hm;have k2:=nq.1 hm';rw[wC,wC] at e
  (repeat' split at e) <;>omega
 ·rw[nq.2 (nq.1 hm)] at hno;cases hno
 ·simp only[mO,I.only,I.bY,bg,Bool.and_self]
theorem Ly(s:Int)(t:List UInt8):∀ r os',tm s t r os'→∃ osF,r.flat=true∧r.aQ (bp pN)=r∧(∀ m z,aq osF m=some z→aq (dp pN os'++zI) m=some z∧z.only (ay osF)=true∧z.fm=true)∧(r=mO (ju s t)∧osF=[]):=by
 rintro r os' ⟨rfl,rfl⟩;refine ⟨[],?_,?_,fun m z hz=>by simp[aq] at hz,rfl,rfl⟩
 ·rfl
 ·simp only[mO,I.aQ,I.dq,gz]
theorem IT{r:ah}{n:Int}{b:Bool}{post:cv}{A:af}(hp:post (mO (r,n,b)) (jq r n b))(t4:A.t 4=.ptr 1900004 [])(t5:A.t 5=.ptr 1900005 [])(t6:A.t 6=.ptr 1900006 [])(o4:A.o 1900004=some (.box (enc r)))(o5:A.o 1900005=some (.box (.int .i64 n)))(o6:A.o 1900006=some (.box (.bool b))) :
  ke wh post A:=by
 refine ⟨jq r n b,[enc r,.int .i64 n,.bool b],fun m z hz=>⟨?_,(pB hz _).1,(pB hz (fun _=>true)).2.1⟩,⟨⟨enc r,?_,.inl ⟨rfl,dH _,bg _ _⟩⟩,⟨.int .i64 n,?_,.inl ⟨rfl,rfl,rfl⟩⟩,⟨.bool b,?_,.inl ⟨rfl,rfl,rfl⟩⟩,trivial⟩,hp⟩
 ·rcases vD hz with ⟨rfl,rfl⟩ | ⟨rfl,rfl⟩ | ⟨rfl,rfl⟩ <;>assumption
 ·simp only[oK,t4,ct,o4];rfl
 ·simp only[oK,t5,ct,o5];rfl
 ·simp only[oK,t6,ct,o6];rfl
theorem rh{s:Int}{t:List UInt8}(hn:eb bj s t=none){A:af}{x:ah}{n:Int}{b:Bool}(t4:A.t 4=.ptr 1900004 [])(t5:A.t 5=.ptr 1900005 [])(t6:A.t 6=.ptr 1900006 [])(o4:A.o 1900004=some (.box (enc x)))(o5:A.o 1900005=some (.box (.int .i64 n)))(o6:A.o 1900006=some (.box (.bool b))) :
  tr wh (tm s t) lq pz qa (.panic lq) A:=by
 refine ⟨rfl,⟨⟨_,o4,(cM _).trans (cM _).symm⟩,⟨_,o5,rfl⟩,⟨_,o6,rfl⟩,trivial⟩,?_⟩;refine IT (r:=default) (n:=0) (b:=false) ?_ t4 t5 t6 ?_ ?_ ?_
 ·show _∧_
  rw[ju,hn];exact ⟨rfl,rfl⟩
 ·simp[pz,qa,pQ,af.aM]
 ·simp[pz,qa,pQ,af.aM]
 ·simp[pz,qa,pQ,af.aM]
theorem GW{Q:Exit→af→Prop}{ts:List (Nat×I)}{os0:List (Nat×al)}{u:List UInt8}{v:I}(ae:v=enc (aH.of u))(hlen:u.length≤281474976710656)(h:∀ w t,ec 32 u=some (w,t)→gU w=none)(hq:Q (.panic lq) (aC ts os0)):r2 Tryz.prog Q 126 [v] (aC ts os0):=by
 subst ae;exact .mk false [] [] [enc (aH.of u)] lq _ (J8 (aH.of u) (by rw[aH.eJ];exact hlen) (by rw[aH.eJ];exact h)) ⟨fun m x h=>by simp[aq] at h,fun m m' h=>by simp[ay,aq] at h⟩ ⟨.inl ⟨(gz _ _).symm,bg _ _,dH _⟩,trivial⟩
  (fun os' h=>by subst h;exact ⟨fun m x h=>by simp[aq] at h,fun m m' h=>by simp[ay,aq] at h,fun m h=>h,fun m h=>by simp[ay,aq] at h,⟨rfl,fun h=>by cases h⟩⟩) (fun os' h=>by subst h;exact hq)
def eS(l:List Int):bd 7 Int:=⟨(l++List.replicate 7 0).take 7,by simp⟩
theorem afH{l:List Int}(h:l.length<7)(v:Int):(⟨(eS l).l.set l.length v,by simp[(eS l).h]⟩:bd 7 Int)=eS (l++[v]):=by
 simp only[eS,bd.mk.injEq];refine List.ext_getElem (by simp) fun i h1 h2 =>?_;simp only[zz6,zz1,List.length_replicate,List.length_set,zx5,zv1] at h1 h2;simp only[List.getElem_set,List.getElem_take,List.getElem_append];by_cases e:l.length=i
 ·subst e;simp
 ·by_cases k:i<l.length
  ·rw[if_neg e,dif_pos k,dif_pos (by simp;omega),dif_pos k]
  ·rw[if_neg e,dif_neg k,dif_neg (by simp;omega)];simp only[List.getElem_replicate]
theorem DX:I.agg [.int .i64 0,.int .i64 0,.int .i64 0,.int .i64 0,.int .i64 0,.int .i64 0,.int .i64 0]=enc (eS []):=rfl
theorem afG{l:List Int}(h:l.length=7)(k:Nat):(eS l).g k=l.getD k 0:=by
 simp only[bd.g,eS];rw[List.take_left' h]
theorem ag4{l:List Int}(h:l.length<7)(v:Int):(enc (eS l):I).dR [l.length] (.int .i64 v)=enc (eS (l++[v])):=by
 have h1:(enc (eS l):I).dC=some ((eS l).l.map enc):=rfl;rw[wG,h1];simp only[pR,yN (eS l) h,rG,ez];rw[←afH h]
 change I.agg _=I.agg (((eS l).l.set l.length v).map enc)
 rw[List.map_set];rfl
theorem ahj{A:af}{n:Nat}{l:List Int}(h:l.length<7){v u:Int}{rest:List aF} : de A none n [l.length] (enc (eS l)) (.int .i64 v) rest (some (.int .i64 u))=au rest (A.aM n (.box (enc (eS (l++[v]))))):=by
 rw[dS (s:=none) (v:=.int .i64 v) (old:=.int .i64 u) rfl rfl rfl,ag4 h]
theorem Fz(t:List UInt8):Lib.hasSuffix t [10]=decide (t.getLast?=some 10):=by
 have:Lib.hasSuffix t [10]=true↔t.getLast?=some 10:=by
  rw[Lib.hasSuffix,List.isSuffixOf_iff_suffix];constructor
  ·rintro ⟨x,rfl⟩;simp
  ·intro h;obtain ⟨x,rfl⟩:=List.getLast?_eq_some_iff.1 h;exact ⟨x,rfl⟩
 cases h:Lib.hasSuffix t [10]
 ·rw[h] at this;exact (decide_eq_false fun k=>by simpa using this.2 k).symm
 ·rw[h] at this;exact (decide_eq_true (this.1 rfl)).symm
theorem ahA{t:List UInt8}(h:t.getLast?=some 10):Lib.trimSuffix t [10]=t.dropLast:=by
 rw[Lib.trimSuffix,Fz,decide_eq_true h,if_pos rfl,List.dropLast_eq_take];rfl
theorem fb:(∀ A n b rest (q r:ah),de A (some 8) n [] b (enc q) rest (some (enc r))=au rest (A.aM n (.box (enc q))))∧(∀ A n b rest (q:ah) v,v=enc q→de A (some 8) n [] b v rest (some (enc (default:ah)))=au rest (A.aM n (.box (enc q)))) :=
 ⟨fun A n b rest q r=>by rw[dS (dH _) (by rw[eQ];rfl) ((cM _).trans (cM _).symm),ez],fun A n b rest q v h=>by rw[h,dS (dH _) (by rw[eQ];rfl) ((cM _).trans (cM _).symm),ez]⟩
theorem fB:I.agg [.agg [.int .i64 0,.int .i64 0],.int .i64 0,.int .i64 0,.int .i64 0,.agg [.int .i64 0,.int .i64 0],.ak ⟨#[]⟩]=enc (default:ah):=rfl
theorem qn:(∀ x y,fi [.int .i64 0,.int .i64 0] [(0,.int .i64 x),(1,.int .i64 y)]=some [.int .i64 x,.int .i64 y]) ∧
  (∀ (x1 x2 n1 n2 n3 y1 y2:Int) (u:List UInt8),fi [.agg [.int .i64 0,.int .i64 0],.int .i64 0,.int .i64 0,.int .i64 0,.agg [.int .i64 0,.int .i64 0],.ak ⟨#[]⟩] [(0,.agg [.int .i64 x1,.int .i64 x2]),(1,.int .i64 n1),(2,.int .i64 n2),(3,.int .i64 n3),(4,.agg [.int .i64 y1,.int .i64 y2]),(5,enc (aH.of u))]=some [.agg [.int .i64 x1,.int .i64 x2],.int .i64 n1,.int .i64 n2,.int .i64 n3,.agg [.int .i64 y1,.int .i64 y2],enc (aH.of u)]) :=
 ⟨fun _ _=>rfl,fun _ _ _ _ _ _ _ _=>rfl⟩
theorem tM:(∀ A n b rest (q r:Int),de A none n [] b (.int .i64 q) rest (some (.int .i64 r))=au rest (A.aM n (.box (.int .i64 q))))∧(∀ A n b rest (q r:Bool),de A none n [] b (.bool q) rest (some (.bool r))=au rest (A.aM n (.box (.bool q)))) :=
 ⟨fun A n b rest q r=>by rw[dS (s:=none) (v:=.int .i64 q) (old:=.int .i64 r) rfl rfl rfl,ez],fun A n b rest q r=>by rw[dS (s:=none) (v:=.bool q) (old:=.bool r) rfl rfl rfl,ez]⟩
theorem R6{n0:Int}{l:List Int}{u:List UInt8}(h:l.length=7):I.agg [.agg [.int .i64 ((eS l).g 0),.int .i64 ((eS l).g 1)],.int .i64 ((eS l).g 2),.int .i64 ((eS l).g 3),.int .i64 ((eS l).g 4),.agg [.int .i64 ((eS l).g 5),.int .i64 ((eS l).g 6)],enc (aH.of u)]=enc (j0 (n0::l) u):=by
 simp only[afG h];rfl
theorem agf{s n0:Int}{t u:List UInt8}{l:List Int}(h:t.getLast?=some 10)(hp:je gU 8 t.dropLast=some (n0::l,u)) :
  eb bj s t=if bj (j0 (n0::l) u)=true∧db s (j0 (n0::l) u)=t∧n0=dE s (da (j0 (n0::l) u)) then some (j0 (n0::l) u,dE s (da (j0 (n0::l) u))) else none:=by
 rw[eb,if_pos h,hp,zu4];generalize j0 (n0::l) u=r;simp only[List.headD_cons,nf];by_cases a:bj r=true
 ·by_cases b:db s r=t
  ·by_cases c:n0=dE s (da r)
   ·simp[a,b,c]
   ·simp[a,b,c]
  ·simp[b]
 ·simp[a]
structure Bz where
 n0:Int
 l:List Int
 u:List UInt8
def xl(s:Int)(t:List UInt8)(x:Bz):af:=aC [(0,enc s),(1,enc (aH.of t)),(4,.ptr 1900004 []),(5,.ptr 1900005 []),(6,.ptr 1900006 []),(7,enc (aH.of x.u)),(9,enc x.n0),(10,.ptr 10 []),(28,.int .i64 x.l.length)] ((10,.box (enc (eS x.l)))::jq default 0 false)
def JZ(t:List UInt8)(x:Bz):Prop:=x.l.length≤7∧x.u.length≤t.length∧je gU 8 t.dropLast=(je gU (7-x.l.length) x.u).map fun p=>(x.n0::x.l++p.1,p.2)
theorem JG{f:List UInt8→Option Int}{k:Nat}{u w v:List UInt8}{n:Int}(h1:ec 32 u=some (w,v))(h2:f w=some n):je f (k+1) u=(je f k v).map fun p=>(n::p.1,p.2):=by
 rw[je,h1];simp only[h2]
theorem JF{f:List UInt8→Option Int}{k:Nat}{u:List UInt8}(h:∀ w t,ec 32 u=some (w,t)→f w=none):je f (k+1) u=none:=by
 rw[je];cases h1:ec 32 u with
 |none=>rfl
 |some p=>simp only[h p.1 p.2 h1]
theorem DN(u:List UInt8):(∃ w v n,ec 32 u=some (w,v)∧gU w=some n∧v.length≤u.length)∨∀ w t,ec 32 u=some (w,t)→gU w=none:=by
 cases h1:ec 32 u with
 |none=>exact .inr fun w t h=>by cases h
 |some p =>
  obtain ⟨w,v⟩:=p;cases h2:gU w with
  |none=>exact .inr fun w' t' h=>by cases h;exact h2
  |some n=>exact .inl ⟨w,v,n,rfl,h2,by have:=uL h1;simp only at this;omega⟩
theorem agy{s:Int}(hs:0≤s∧s<1000003){t:List UInt8}(ht:t.length≤281474976710656)(W:World)(D:aO)(E:aU)(n:Nat)(d:Deferred) :
  ab ⟨Tryz.prog,W,D,n,cu E,E,fS,none,some [d]⟩ z7 (tr wh (tm s t) lq pz qa) (aC [(0,enc s),(1,enc (aH.of t)),(4,.ptr 1900004 []),(5,.ptr 1900005 []),(6,.ptr 1900006 [])] (jq default 0 false)):=by
 have hC:=J7 (aH.of t) (aH.of [10]);rw[aH.eJ,aH.eJ,Fz] at hC;simp only[z7,jq];by_cases hl:t.getLast?=some 10
 ·have hd:decide (t.getLast?=some 10)=true:=decide_eq_true hl;rw[hd,ahA hl] at hC;have hT:eb bj s t=(je gU 8 t.dropLast).bind fun p=>(nf bj s t (j0 p.1 p.2)).bind fun q=>if p.1.headD 0=q.2 then some q else none:=by rw[eb,if_pos hl]
  have hlt:t.dropLast.length≤t.length:=by simp
  generalize hu0:t.dropLast=u0 at *;rcases DN u0 with ⟨dF,v0,m0,hw,ho,ae⟩ | hno
  rotate_left
  ·have hn:eb bj s t=none:=by rw[hT,JF (k:=7) hno];rfl
   have R:=y6 @hd (y6 @sv (y6 @lI (y6 @DX (y6 @bA aw))))
   repeat' ((first |(with_reducible refine .guard (fun hb =>?_) (fun hb =>?_) <;>try simp only[hb])|(refine ab.nG (gs:=EZ) (gs1:=[_]) rfl fun K hK =>?_)|refine ab.aA (by decide +kernel) rfl fun K hK =>?_|refine .flat _ (hC) rfl ?_|(refine .av [0,1,4,5,6,7,8,9,10,11,12,20,28,29,59,75] hK ?_;clear hK K)|(with_reducible refine .done (hK _ ?_);clear hK K)|refine ab.of rfl ?_|(with_reducible refine ar.az (fun h =>?_) (fun h =>?_) <;>try simp only[h])) <;>try simp only[aB,R,simprocAttr])
   all_goals clear R
   exact .call (GW rfl (by omega) hno (rh hn rfl rfl rfl rfl rfl rfl))
  have h126:=A4 (aH.of u0) (by rw[aH.eJ];omega) dF v0 m0 (by rw[aH.eJ];exact hw) ho;have R:=y6 @hd (y6 @sv (y6 @lI (y6 @DX (y6 @bA aw))))
  repeat' ((first |(with_reducible refine .guard (fun hb =>?_) (fun hb =>?_) <;>try simp only[hb])|refine ab.aA (by decide +kernel) rfl fun K hK =>?_|refine .flat _ (hC) rfl ?_|refine .lead _ (h126) ?_|(refine .av [0,1,4,5,6,7,8,9,10,11,12,20,28,29,59,75] hK ?_;clear hK K)|(with_reducible refine .done (hK _ ?_);clear hK K)|refine ab.of rfl ?_|(with_reducible refine ar.az (fun h =>?_) (fun h =>?_) <;>try simp only[h])) <;>try simp only[aB,R,simprocAttr])
  all_goals clear R
  refine ab.loop (xl s t) (JZ t) (fun x=>7-x.l.length) ⟨m0,[],v0⟩ ⟨by simp,by simp only;omega,?_⟩ ?_ ?_
  ·rw[hu0,JG hw ho];rfl
  ·simp only[xl,jq];refine bt.cF ?_ ?_ ?_ ?_ <;>simp[bT,bZ,bU,bB,ay,bJ,dz,I.only,al.only,bg,x9]
   all_goals rfl
  rintro ⟨n0,l,u⟩ ⟨hl7,hul,htk⟩;simp only at hl7 hul htk;rw[hu0] at htk;simp only[xl,jq];by_cases hlt7:l.length<7
  ·have hlc:decide ((l.length:Int)<7)=true:=decide_eq_true (by omega);have hib:=fun {y:Option I} =>vh 1 (eS l) (y:=y) (show (0:Int)≤(l.length:Int)∧(l.length:Int)<(7:Nat) by omega) rfl;have hat:=fun p=>mb (p:=p) (eS l) hlt7;have hst:=fun A n v u rest=>ahj (A:=A) (n:=n) hlt7 (v:=v) (u:=u) (rest:=rest);have hws:=eO (i:=l.length) (by omega);have e7:7-l.length=(7-(l++[(0:Int)]).length)+1:=by simp;omega
   rcases DN u with ⟨w,v,m,hw1,ho1,hv1⟩ | hno
   ·have h126':=A4 (aH.of u) (by rw[aH.eJ];omega) w v m (by rw[aH.eJ];exact hw1) ho1;have R:=y6 @hlc (y6 @hib (y6 @hat (y6 @hst (y6 @hws (y6 @zw8 (y6 @bA aw))))))
    repeat' ((first |(with_reducible refine .guard (fun hb =>?_) (fun hb =>?_) <;>try simp only[hb])|refine ab.aA (by decide +kernel) rfl fun K hK =>?_|refine .lead _ (h126') ?_|(refine .av [0,1,4,5,6,7,8,9,10,11,12,20,28,29,59,75] hK ?_;clear hK K)|(with_reducible refine .done (hK _ ?_);clear hK K)|refine ab.of rfl ?_|(with_reducible refine ar.az (fun h =>?_) (fun h =>?_) <;>try simp only[h])) <;>try simp only[aB,R,simprocAttr])
    all_goals clear R
    refine ⟨⟨n0,l++[m],v⟩,⟨by simp;omega,by simp only;omega,?_⟩,by simp;omega,?_⟩
    ·rw[hu0,htk,e7,JG hw1 ho1];simp only[zz1,zx5,zv1,Option.map_map]
     congr 1
     funext p
     simp
    ·have el:((l++[m]).length:Int)=((l.length+1:Nat):Int):=by simp
     simp only[el];refine bt.cF ?_ ?_ ?_ ?_ <;>simp[bT,bZ,bU,bB,ay,bJ,dz,I.only,al.only,bg]
     all_goals rfl
   ·have hn:eb bj s t=none:=by rw[hT,htk,e7,JF hno];rfl
    have R:=y6 @hlc (y6 @hib (y6 @hat (y6 @hst (y6 @hws (y6 @lI (y6 @bA aw))))))
    repeat' ((first |(with_reducible refine .guard (fun hb =>?_) (fun hb =>?_) <;>try simp only[hb])|(refine ab.nG (gs:=EW) (gs1:=[_,_]) rfl fun K hK =>?_)|refine ab.aA (by decide +kernel) rfl fun K hK =>?_|refine .flat _ (hC) rfl ?_|(refine .av [0,1,4,5,6,7,8,9,10,11,12,20,28,29,59,75] hK ?_;clear hK K)|(with_reducible refine .done (hK _ ?_);clear hK K)|refine ab.of rfl ?_|(with_reducible refine ar.az (fun h =>?_) (fun h =>?_) <;>try simp only[h])) <;>try simp only[aB,R,simprocAttr])
    all_goals clear R
    exact .call (GW rfl (by omega) hno (rh hn rfl rfl rfl rfl rfl rfl))
  ·have hlc:decide ((l.length:Int)<7)=false:=decide_eq_false (by omega);have h7:l.length=7:=by omega
   have hib:=fun {k:Int} {y:Option I} (h:(0:Int)≤k∧k<(7:Nat))=>vh 1 (eS l) (y:=y) h rfl;have hi0:=fun {y:Option I} =>hib (k:=0) (y:=y) (by decide);have hi1:=fun {y:Option I} =>hib (k:=1) (y:=y) (by decide);have hi2:=fun {y:Option I} =>hib (k:=2) (y:=y) (by decide);have hi3:=fun {y:Option I} =>hib (k:=3) (y:=y) (by decide);have hi4:=fun {y:Option I} =>hib (k:=4) (y:=y) (by decide);have hi5:=fun {y:Option I} =>hib (k:=5) (y:=y) (by decide);have hi6:=fun {y:Option I} =>hib (k:=6) (y:=y) (by decide);have ha0:=fun p=>mb (p:=p) (eS l) (show 0<7 by decide);have ha1:=fun p=>mb (p:=p) (eS l) (show 1<7 by decide);have ha2:=fun p=>mb (p:=p) (eS l) (show 2<7 by decide);have ha3:=fun p=>mb (p:=p) (eS l) (show 3<7 by decide);have ha4:=fun p=>mb (p:=p) (eS l) (show 4<7 by decide);have ha5:=fun p=>mb (p:=p) (eS l) (show 5<7 by decide);have ha6:=fun p=>mb (p:=p) (eS l) (show 6<7 by decide);rw[h7,Nat.sub_self,je,zy5,zx2] at htk;clear hT;have hT:=agf (s:=s) hl (hu0▸htk);have hmk:=R6 (n0:=n0) (u:=u) h7;have f80:=qe (j0 (n0::l) u);generalize j0 (n0::l) u=r at *;have hstr:=fun A n b rest=>fb.2 A n b rest r _ hmk;cases ho2:bj r
   ·have hn:eb bj s t=none:=by rw[hT,if_neg (by simp[ho2])]
    rw[ho2] at f80;have R:=y6 @hlc (y6 @hi0 (y6 @hi1 (y6 @hi2 (y6 @hi3 (y6 @hi4 (y6 @hi5 (y6 @hi6 (y6 @ha0 (y6 @ha1 (y6 @ha2 (y6 @ha3 (y6 @ha4 (y6 @ha5 (y6 @ha6 (y6 @qn (y6 @hstr (y6 @fb (y6 @lI (y6 @bA aw)))))))))))))))))))
    repeat' ((first |(with_reducible refine .guard (fun hb =>?_) (fun hb =>?_) <;>try simp only[hb])|(refine ab.nG (gs:=EX) (gs1:=[_,_]) rfl fun K hK =>?_)|refine ab.aA (by decide +kernel) rfl fun K hK =>?_|refine .flat _ (f80) rfl ?_|(refine .av [0,1,4,5,6,7,8,9,10,11,12,20,28,29,59,75] hK ?_;clear hK K)|(with_reducible refine .done (hK _ ?_);clear hK K)|refine ab.of rfl ?_|(with_reducible refine ar.az (fun h =>?_) (fun h =>?_) <;>try simp only[h])) <;>try simp only[aB,R,simprocAttr])
    all_goals clear R
    refine pC ?_ (rh hn rfl rfl rfl rfl rfl rfl);rfl
   rw[ho2] at f80;have f81:=rZ s hs r ho2;by_cases hq:db s r=t
   ·by_cases hz:n0=dE s (da r)
    ·have hn:ju s t=(r,dE s (da r),true):=by rw[ju,hT,if_pos ⟨ho2,hq,hz⟩]
     have d1:(n0 != dE s (da r))=false:=by simp[hz]
     have d2:(decide (db s r=t))=true:=decide_eq_true hq;have R:=y6 @hlc (y6 @hi0 (y6 @hi1 (y6 @hi2 (y6 @hi3 (y6 @hi4 (y6 @hi5 (y6 @hi6 (y6 @ha0 (y6 @ha1 (y6 @ha2 (y6 @ha3 (y6 @ha4 (y6 @ha5 (y6 @ha6 (y6 @d1 (y6 @d2 (y6 @j8 (y6 @qn (y6 @hstr (y6 @fb (y6 @tM (y6 @lI (y6 @bA aw)))))))))))))))))))))))
     repeat' ((first |(with_reducible refine .guard (fun hb =>?_) (fun hb =>?_) <;>try simp only[hb])|refine ab.aA (by decide +kernel) rfl fun K hK =>?_|refine .flat _ (f80) rfl ?_|refine .lead _ (f81) ?_|(refine ab.ik (gs:=yG) [] [(4,[1900004]),(5,[1900005]),(6,[1900006])] [0,1,2,3,4] (by decide +kernel) (dB.of (by simp[gn,bJ,I.only])) fun K hK =>?_;simp only[gE,yG,zw6,zw7,R,simprocAttr])|(refine .av [0,1,4,5,6,7,8,9,10,11,12,20,28,29,59,75] hK ?_;clear hK K)|(with_reducible refine .done (hK _ ?_);clear hK K)|refine ab.of rfl ?_|(with_reducible refine ar.az (fun h =>?_) (fun h =>?_) <;>try simp only[h])) <;>try simp only[aB,R,simprocAttr])
     all_goals clear R
     exact ⟨⟨⟨_,rfl,(cM _).trans (cM _).symm⟩,⟨_,rfl,rfl⟩,⟨_,rfl,rfl⟩,trivial⟩,IT (r:=r) (n:=dE s (da r)) (b:=true) (show _∧_ by rw[hn];exact ⟨rfl,rfl⟩) rfl rfl rfl rfl rfl rfl⟩
    ·have hn:eb bj s t=none:=by rw[hT,if_neg (fun k=>hz k.2.2)]
     have d1:(n0 != dE s (da r))=true:=by simp[hz]
     have d2:(decide (db s r=t))=true:=decide_eq_true hq;have R:=y6 @hlc (y6 @hi0 (y6 @hi1 (y6 @hi2 (y6 @hi3 (y6 @hi4 (y6 @hi5 (y6 @hi6 (y6 @ha0 (y6 @ha1 (y6 @ha2 (y6 @ha3 (y6 @ha4 (y6 @ha5 (y6 @ha6 (y6 @d1 (y6 @d2 (y6 @j8 (y6 @qn (y6 @hstr (y6 @fb (y6 @tM (y6 @lI (y6 @bA aw)))))))))))))))))))))))
     repeat' ((first |(with_reducible refine .guard (fun hb =>?_) (fun hb =>?_) <;>try simp only[hb])|(refine ab.nG (gs:=yF) (gs1:=[_,_]) rfl fun K hK =>?_)|refine ab.aA (by decide +kernel) rfl fun K hK =>?_|refine .flat _ (f80) rfl ?_|refine .lead _ (f81) ?_|(refine .av [0,1,4,5,6,7,8,9,10,11,12,20,28,29,59,75] hK ?_;clear hK K)|(with_reducible refine .done (hK _ ?_);clear hK K)|refine ab.of rfl ?_|(with_reducible refine ar.az (fun h =>?_) (fun h =>?_) <;>try simp only[h])) <;>try simp only[aB,R,simprocAttr])
     all_goals clear R
     refine pC ?_ (rh hn rfl rfl rfl rfl rfl rfl);rfl
   ·have hn:eb bj s t=none:=by rw[hT,if_neg (fun k=>hq k.2.1)]
    have d2:(decide (db s r=t))=false:=decide_eq_false hq;have R:=y6 @hlc (y6 @hi0 (y6 @hi1 (y6 @hi2 (y6 @hi3 (y6 @hi4 (y6 @hi5 (y6 @hi6 (y6 @ha0 (y6 @ha1 (y6 @ha2 (y6 @ha3 (y6 @ha4 (y6 @ha5 (y6 @ha6 (y6 @d2 (y6 @j8 (y6 @qn (y6 @hstr (y6 @fb (y6 @tM (y6 @lI (y6 @bA aw))))))))))))))))))))))
    repeat' ((first |(with_reducible refine .guard (fun hb =>?_) (fun hb =>?_) <;>try simp only[hb])|(refine ab.nG (gs:=yF) (gs1:=[_,_]) rfl fun K hK =>?_)|refine ab.aA (by decide +kernel) rfl fun K hK =>?_|refine .flat _ (f80) rfl ?_|refine .lead _ (f81) ?_|(refine .av [0,1,4,5,6,7,8,9,10,11,12,20,28,29,59,75] hK ?_;clear hK K)|(with_reducible refine .done (hK _ ?_);clear hK K)|refine ab.of rfl ?_|(with_reducible refine ar.az (fun h =>?_) (fun h =>?_) <;>try simp only[h])) <;>try simp only[aB,R,simprocAttr])
    all_goals clear R
    refine pC ?_ (rh hn rfl rfl rfl rfl rfl rfl);rfl
 ·have hd:decide (t.getLast?=some 10)=false:=decide_eq_false hl;have hn:eb bj s t=none:=by rw[eb,if_neg hl]
  rw[hd] at hC;have R:=y6 @hd (y6 @sv (y6 @lI (y6 @bA aw)))
  repeat' ((first |(with_reducible refine .guard (fun hb =>?_) (fun hb =>?_) <;>try simp only[hb])|(refine ab.nG (gs:=EY) (gs1:=[_,_]) rfl fun K hK =>?_)|refine ab.aA (by decide +kernel) rfl fun K hK =>?_|refine .flat _ (hC) rfl ?_|(refine .av [0,1,4,5,6,7,8,9,10,11,12,20,28,29,59,75] hK ?_;clear hK K)|(with_reducible refine .done (hK _ ?_);clear hK K)|refine ab.of rfl ?_|(with_reducible refine ar.az (fun h =>?_) (fun h =>?_) <;>try simp only[h])) <;>try simp only[aB,R,simprocAttr])
  all_goals clear R
  refine pC ?_ (rh hn rfl rfl rfl rfl rfl rfl);rfl
theorem KM{s:Int}(hs:0≤s∧s<1000003){t:List UInt8}(ht:t.length≤281474976710656):ep Tryz.prog 70 [enc s,enc (aH.of t)] [] (fun r os'=>r=mO (ju s t)∧os'=[]):=by
 refine ep.afl Tryz.func70 Nk RE Qx (t7 rfl) (t7 rfl) (fun m hm=>by simp[ay,aq] at hm) (zs:=qa) adk NP (by decide) fun hwf W0 bI E1 =>?_;simp only[bC,zz4];clear hwf;refine .js (by decide +kernel) fun K hK =>?_
 try simp only[EV,aZ,simprocAttr]
 refine .done (hK _ ?_);simp only[di];refine ⟨_,_,pN,jq default 0 false,[0,1,4,5,6],[enc s,enc (aH.of t),.ptr 1900004 [],.ptr 1900005 [],.ptr 1900006 []],pz,tm s t,rfl,?_⟩;exact {
  bw:=rfl
  Fc:=adb
  arg:=⟨.inl ⟨rfl,rfl,rfl⟩,.inl ⟨(gz _ _).symm,bg _ _,dH _⟩,.inl ⟨rfl,rfl,rfl⟩,.inl ⟨rfl,rfl,rfl⟩,.inl ⟨rfl,rfl,rfl⟩,trivial⟩
  BR:=Lz s t
  Jm:=rfl
  len:=rfl
  box:=fun q hq=>by
   simp only[pz,qa,List.zip_cons_cons,List.zip_nil_right,zx7,List.not_mem_nil,or_false] at hq;rcases hq with rfl | rfl | rfl <;>exact ⟨_,rfl,rfl⟩
  ot:=fun m hm=>by
   have:=nq.1 hm;exact ⟨Nat.le_trans (t7 rfl:_≤1000000) (by omega),by omega⟩
  rest:=fun W D E d=>agy hs ht W D E _ d
  mY:=Ly s t }
theorem Bk{s:Int}(hs:0≤s∧s<1000003){t:List UInt8}(ht:t.length≤281474976710656):aP Tryz.prog 70 [enc s,enc (aH.of t)] (mO (ju s t)):=aP.Gs (KM hs ht)
def mI(s:Int)(t:List UInt8):ah×Int×Int:=if dm 0 1000002 s=false then (default,0,1) else match eb bj s t with
 |some (r,n)=>(r,n,0)
 |none=>(default,0,87)
theorem Kx(s:Int)(t:List UInt8)(ht:t.length≤281474976710656):aP Tryz.prog 31 [enc s,enc (aH.of t)] (.tuple [enc (mI s t).1,enc (mI s t).2.1,enc (mI s t).2.2]):=by
 refine aP.bM Tryz.func31 M6 OI Qk (t7 rfl) (fun hwf W0 bI E1 =>?_);simp only[CO,HY,bC,zz4];clear hwf;have f1:=Bn s;cases q1:dm 0 1000002 s
 ·rw[q1] at f1;have e:mI s t=(default,0,1):=by rw[mI,if_pos q1]
  rw[e];have R:=y6 @fB (y6 @fb aw)
  repeat' ((first |refine ab.aA (by decide +kernel) rfl fun K hK =>?_|refine .flat _ (f1) rfl ?_|(refine .av [0,1,4,5,6,7,8,9,12,22] hK ?_;clear hK K)|(with_reducible refine .done (hK _ ?_);clear hK K)|refine ab.of rfl ?_|(with_reducible refine ar.az (fun h =>?_) (fun h =>?_) <;>try simp only[h])) <;>try simp only[aB,R,simprocAttr])
  all_goals clear R
  all_goals rfl
 rw[q1] at f1;have f2:=Bk (s:=s) (by have:=jE.1 q1;omega) ht;rw[mO] at f2;cases h:eb bj s t with
 |none =>
  have e:mI s t=(default,0,87):=by rw[mI,if_neg (by simp[q1]),h]
  have e2:ju s t=(default,0,false):=by rw[ju,h]
  rw[e];rw[e2] at f2;have R:=y6 @fB (y6 @fb aw)
  repeat' ((first |refine ab.aA (by decide +kernel) rfl fun K hK =>?_|refine .flat _ (f1) rfl ?_|refine .lead _ (f2) ?_|(refine .av [0,1,4,5,6,7,8,9,12,22] hK ?_;clear hK K)|(with_reducible refine .done (hK _ ?_);clear hK K)|refine ab.of rfl ?_|(with_reducible refine ar.az (fun h =>?_) (fun h =>?_) <;>try simp only[h])) <;>try simp only[aB,R,simprocAttr])
  all_goals clear R
  all_goals rfl
 |some p =>
  obtain ⟨r,n⟩:=p;have e:mI s t=(r,n,0):=by rw[mI,if_neg (by simp[q1]),h]
  have e2:ju s t=(r,n,true):=by rw[ju,h]
  rw[e];rw[e2] at f2;have R:=y6 @fB (y6 @fb aw)
  repeat' ((first |refine ab.aA (by decide +kernel) rfl fun K hK =>?_|refine .flat _ (f1) rfl ?_|refine .lead _ (f2) ?_|(refine .av [0,1,4,5,6,7,8,9,12,22] hK ?_;clear hK K)|(with_reducible refine .done (hK _ ?_);clear hK K)|refine ab.of rfl ?_|(with_reducible refine ar.az (fun h =>?_) (fun h =>?_) <;>try simp only[h])) <;>try simp only[aB,R,simprocAttr])
  all_goals clear R
  all_goals rfl
theorem lX{α:Type}{l:List α}{i:Nat}(h:i<l.length):l.take (i+1)=l.take i++[l[i]]:=zu0 h
theorem rK(a:List ah):0≤dK 1 a∧dK 1 a<1000003:=wR a (by omega)
theorem sW{s:Int}(hs:0≤s∧s<1000003){r:ah}(h:bj r=true):(db s r).length≤240:=by
 have h1:=xy (k:=160) (vZ h) (th h);have h2:=lW hs (da r);have h3:=sQ (k:=7) (n:=dE s (da r)) (by omega);simp only[db,dV,List.flatMap_cons,List.flatMap_nil,zz1,zx5,zv1];omega
theorem nT:∀ (l:List ah) {s:Int},0≤s∧s<1000003→(∀ r∈l,bj r=true)→(bW s l).length≤240*l.length
 | [],_,_,_=>by simp[bW]
 |r::l,s,hs,h=>by
  have h1:=sW hs (h r (by simp));have h2:=nT l (lW hs (da r)) fun q hq=>h q (by simp[hq]);simp only[bW,zz1,zx5];omega
theorem Kg(l:List ah)(hl:l.length≤4000000000000)(h:∀ r∈l,bj r=true):aP Tryz.prog 137 [enc l] (enc (dK 1 l)):=by
 refine aP.bM Tryz.func137 MA Oc PS (t7 rfl) (fun hwf W0 bI E1 =>?_);simp only[Cp,Hv,bC];clear hwf;have R:=aw
 repeat' ((first |refine ab.aA (by decide +kernel) rfl fun K hK =>?_|(refine .av [0,2,3,5,6,7,8,9] hK ?_;clear hK K)|(with_reducible refine .done (hK _ ?_);clear hK K)|refine ab.of rfl ?_|(with_reducible refine ar.az (fun h =>?_) (fun h =>?_) <;>try simp only[h])) <;>try simp only[aB,R,simprocAttr])
 all_goals clear R
 refine ab.loop (fun i:Nat=>aC [(0,enc l),(3,.int .i64 (dK 1 (l.take i))),(6,enc l),(7,.int .i64 l.length),(8,.int .i64 i)] []) (fun i=>i≤l.length) (fun i=>l.length-i) 0 (zv6 _) ?_ ?_
 ·refine bt.cF ?_ ?_ ?_ ?_ <;>simp[bT,bZ,bU,bB,bJ,I.only,bg]
  all_goals rfl
 intro i hi;by_cases hlt:i<l.length
 ·have hlc:=ga hlt;have he:=fun A=>gB (A:=A) 8 hlt rfl;have hw:=eO (i:=i) (by omega);have hsn:=(rO (l.take i) l[i] 1).2;rw[←lX hlt] at hsn;have hok:=h l[i] (zv4 hlt);have hst:=rK (l.take i);generalize l[i]=r at *;generalize dK 1 (l.take i)=z at *;have f:=rZ z hst r hok;have R:=y6 @hlc (y6 @he (y6 @hw (y6 @fB (y6 @fb aw))))
  repeat' ((first |refine ab.aA (by decide +kernel) rfl fun K hK =>?_|refine .lead _ (f) ?_|(refine .av [0,2,3,5,6,7,8,9] hK ?_;clear hK K)|(with_reducible refine .done (hK _ ?_);clear hK K)|refine ab.of rfl ?_|(with_reducible refine ar.az (fun h =>?_) (fun h =>?_) <;>try simp only[h])) <;>try simp only[aB,R,simprocAttr])
  all_goals clear R
  refine ⟨i+1,by omega,by omega,?_⟩;rw[hsn];refine bt.cF ?_ ?_ ?_ ?_ <;>simp[bT,bZ,bU,bB,bJ,I.only,bg]
  all_goals rfl
 ·have hlc:=gM hlt;have hge:i=l.length:=by omega
  subst hge;rw[zv5];have R:=y6 @hlc aw
  repeat' ((first |refine ab.aA (by decide +kernel) rfl fun K hK =>?_|(refine .av [0,2,3,5,6,7,8,9] hK ?_;clear hK K)|(with_reducible refine .done (hK _ ?_);clear hK K)|refine ab.of rfl ?_|(with_reducible refine ar.az (fun h =>?_) (fun h =>?_) <;>try simp only[h])) <;>try simp only[aB,R,simprocAttr])
  all_goals clear R
  all_goals rfl
theorem ah2(l:List ah)(hl:l.length≤4000000000000)(h:∀ r∈l,bj r=true):aP Tryz.prog 90 [enc l] (enc (aH.of (bW 1 l))):=by
 refine aP.bM Tryz.func90 NB O8 QL (t7 rfl) (fun hwf W0 bI E1 =>?_);simp only[Db,Is,bC];clear hwf;have R:=aw
 repeat' ((first |refine ab.aA (by decide +kernel) rfl fun K hK =>?_|(refine .av [0,2,3,4,5,6,7,11] hK ?_;clear hK K)|(with_reducible refine .done (hK _ ?_);clear hK K)|refine ab.of rfl ?_|(with_reducible refine ar.az (fun h =>?_) (fun h =>?_) <;>try simp only[h])) <;>try simp only[aB,R,simprocAttr])
 all_goals clear R
 refine ab.loop (fun i:Nat=>aC [(0,enc l),(3,enc (aH.of (bW 1 (l.take i)))),(4,.int .i64 (dK 1 (l.take i))),(5,.int .i64 i)] []) (fun i=>i≤l.length) (fun i=>l.length-i) 0 (zv6 _) ?_ ?_
 ·refine bt.cF ?_ ?_ ?_ ?_ <;>simp[bT,bZ,bU,bB,bJ,I.only,bg]
  all_goals exact ⟨rfl,rfl⟩
 intro i hi;by_cases hlt:i<l.length
 ·have hlc:=ga hlt;have he:=fun A=>gB (A:=A) 8 hlt rfl;have hw:=eO (i:=i) (by omega);have hsn:=rO (l.take i) l[i] 1;rw[←lX hlt] at hsn;have hok:=h l[i] (zv4 hlt);have hst:=rK (l.take i);have hln:=nT (l.take i) (s:=1) (by omega) fun q hq=>h q (zx9 hq);have hli:(l.take i).length=i:=by rw[zz6];omega
  generalize l[i]=r at *;have hll:=sW hst hok;generalize dK 1 (l.take i)=z at *;generalize bW 1 (l.take i)=u at *;have f:=KH z hst r hok;have ha:=fK u (db z r) (by omega);have R:=y6 @hlc (y6 @he (y6 @hw (y6 @ha aw)))
  repeat' ((first |refine ab.aA (by decide +kernel) rfl fun K hK =>?_|refine .lead _ (f) ?_|(refine .av [0,2,3,4,5,6,7,11] hK ?_;clear hK K)|(with_reducible refine .done (hK _ ?_);clear hK K)|refine ab.of rfl ?_|(with_reducible refine ar.az (fun h =>?_) (fun h =>?_) <;>try simp only[h])) <;>try simp only[aB,R,simprocAttr])
  all_goals clear R
  refine ⟨i+1,by omega,by omega,?_⟩;rw[hsn.1,hsn.2];clear hsn;refine bt.cF ?_ ?_ ?_ ?_ <;>simp[bT,bZ,bU,bB,bJ,I.only,bg]
  all_goals rfl
 ·have hlc:=gM hlt;have hge:i=l.length:=by omega
  subst hge;rw[zv5];have R:=y6 @hlc aw
  repeat' ((first |refine ab.aA (by decide +kernel) rfl fun K hK =>?_|(refine .av [0,2,3,4,5,6,7,11] hK ?_;clear hK K)|(with_reducible refine .done (hK _ ?_);clear hK K)|refine ab.of rfl ?_|(with_reducible refine ar.az (fun h =>?_) (fun h =>?_) <;>try simp only[h])) <;>try simp only[aB,R,simprocAttr])
  all_goals clear R
  all_goals rfl
def cX(l:List ah):bd 6 Int:=⟨(List.range 6).map fun m=>(bR l (m:Nat):Int),by simp⟩
theorem qv(l:List ah){k:Nat}(h:k<6):(cX l).g k=bR l k:=by
 have:∀ j:Fin 6,(cX l).g j=bR l (j:Nat):=fun j=>by
  match j with
  |0=>rfl
  |1=>rfl
  |2=>rfl
  |3=>rfl
  |4=>rfl
  |5=>rfl
 exact this ⟨k,h⟩
theorem x8:I.agg [.int .i64 0,.int .i64 0,.int .i64 0,.int .i64 0,.int .i64 0,.int .i64 0]=enc (cX []):=rfl
theorem Pv(l:List ah)(r:ah){k:Nat}(h:k<6)(hm:r.aI=(k:Int)):(⟨(cX l).l.set k ((cX l).g k+1),by simp[(cX l).h]⟩:bd 6 Int)=cX (l++[r]):=by
 rw[qv l h];simp only[cX,bd.mk.injEq];refine List.ext_getElem (by simp) fun i h1 h2 =>?_;simp only[List.getElem_set,List.getElem_map,List.getElem_range,oh,hm];by_cases e:k=i
 ·subst e;simp
 ·rw[if_neg e,if_neg (by omega)];simp
theorem ag3(l:List ah)(r:ah){k:Nat}(h:k<6)(hm:r.aI=(k:Int)):(enc (cX l):I).dR [k] (.int .i64 ((cX l).g k+1))=enc (cX (l++[r])):=by
 have h1:(enc (cX l):I).dC=some ((cX l).l.map enc):=rfl;rw[wG,h1];simp only[pR,yN (cX l) h,rG,ez];rw[←Pv l r h hm]
 change I.agg _=I.agg (((cX l).l.set k ((cX l).g k+1)).map enc)
 rw[List.map_set];rfl
theorem ahi(l:List ah)(r:ah){k:Nat}(h:k<6)(hm:r.aI=(k:Int))(A:af)(n:Nat)(u:Int)(rest:List aF):de A none n [k] (enc (cX l)) (.int .i64 ((cX l).g k+1)) rest (some (.int .i64 u))=au rest (A.aM n (.box (enc (cX (l++[r]))))):=by
 rw[dS (s:=none) (v:=.int .i64 ((cX l).g k+1)) (old:=.int .i64 u) rfl rfl rfl,ag3 l r h hm]
theorem oO:(∀ A n b rest (q r:bd 6 Int),de A (some 6) n [] b (enc q) rest (some (enc r))=au rest (A.aM n (.box (enc q))))∧(∀ q:bd 6 Int,bS (some 6) (enc q)=true) :=
 ⟨fun A n b rest q r=>by rw[dS (dH _) (by rw[eQ];rfl) ((cM _).trans (cM _).symm),ez],fun q=>by rw[eQ];rfl⟩
theorem uF(l:List ah)(m:Int):bR l m≤l.length:=List.countP_le_length
def qI(l:List ah):Prop:=∀ r∈l,0≤r.aI∧r.aI≤5
theorem qd(l:List ah)(hl:l.length≤4000000000000)(h:qI l):aP Tryz.prog 100 [enc l] (enc (cX l)):=by
 refine aP.bM Tryz.func100 Mc NQ Px (t7 rfl) (fun hwf W0 bI E1 =>?_);simp only[uy,Hb,bC];clear hwf;have R:=y6 @x8 aw
 repeat' ((first |refine ab.aA (by decide +kernel) rfl fun K hK =>?_|(refine .av [0,2,3,5,6,7,8,9] hK ?_;clear hK K)|(with_reducible refine .done (hK _ ?_);clear hK K)|refine ab.of rfl ?_|(with_reducible refine ar.az (fun h =>?_) (fun h =>?_) <;>try simp only[h])) <;>try simp only[aB,R,simprocAttr])
 all_goals clear R
 refine ab.loop (fun i:Nat=>aC [(0,enc l),(2,.ptr 2 []),(3,.ptr 3 []),(6,enc l),(7,.int .i64 l.length),(8,.int .i64 i)] [(2,.box (enc (cX []))),(3,.box (enc (cX (l.take i))))]) (fun i=>i≤l.length) (fun i=>l.length-i) 0 (zv6 _) ?_ ?_
 ·refine bt.cF ?_ ?_ ?_ ?_ <;>simp[bT,bZ,bU,bB,ay,bJ,dz,I.only,al.only,bg]
  all_goals rfl
 intro i hi;by_cases hlt:i<l.length
 ·have hlc:=ga hlt;have he:=fun A=>gB (A:=A) 8 hlt rfl;have hw:=eO (i:=i) (by omega);have hsn:=lX hlt;have hin:=h l[i] (zv4 hlt);have hle:=uF (l.take i);have hli:(l.take i).length=i:=by rw[zz6];omega
  generalize l[i]=r at *;obtain ⟨k,hk⟩:=zy2 hin.1;have hk6:k<6:=by omega
  have hib:=fun {y:Option I} =>vh 1 (cX (l.take i)) (y:=y) (show (0:Int)≤(k:Int)∧(k:Int)<(6:Nat) by omega) rfl;have hat:=fun p=>mb (p:=p) (cX (l.take i)) hk6;have hst:=ahi (l.take i) r hk6 hk;have hw1:IntKind.i64.wrap ((cX (l.take i)).g k+1)=(cX (l.take i)).g k+1:=by
   have:=hle k;rw[qv _ hk6];exact eX _ (by omega) (by omega)
  rw[←hsn] at hst;have R:=y6 @hlc (y6 @he (y6 @hw (y6 @hk (y6 @hib (y6 @hat (y6 @hst (y6 @hw1 (y6 @zw8 (y6 @fB (y6 @fb aw))))))))))
  repeat' ((first |refine ab.aA (by decide +kernel) rfl fun K hK =>?_|(refine .av [0,2,3,5,6,7,8,9] hK ?_;clear hK K)|(with_reducible refine .done (hK _ ?_);clear hK K)|refine ab.of rfl ?_|(with_reducible refine ar.az (fun h =>?_) (fun h =>?_) <;>try simp only[h])) <;>try simp only[aB,R,simprocAttr])
  all_goals clear R
  refine ⟨i+1,by omega,by omega,?_⟩;clear hsn;refine bt.cF ?_ ?_ ?_ ?_ <;>simp[bT,bZ,bU,bB,ay,bJ,dz,I.only,al.only,bg]
  all_goals rfl
 ·have hlc:=gM hlt;have hge:i=l.length:=by omega
  subst hge;rw[zv5];have R:=y6 @hlc (y6 @oO aw)
  repeat' ((first |refine ab.aA (by decide +kernel) rfl fun K hK =>?_|(refine .av [0,2,3,5,6,7,8,9] hK ?_;clear hK K)|(with_reducible refine .done (hK _ ?_);clear hK K)|refine ab.of rfl ?_|(with_reducible refine ar.az (fun h =>?_) (fun h =>?_) <;>try simp only[h])) <;>try simp only[aB,R,simprocAttr])
  all_goals clear R
  all_goals rfl
theorem vr(l:List ah){m:Int}(h:0≤m∧m≤5):ov 6 1 none m (some ((cX l).l.map enc))=some (.int .i64 (bR l m)):=by
 obtain ⟨k,rfl⟩:=zy2 h.1;have hk:k<6:=by omega
 rw[yZ (x:=cX l) 1 (k:=(k:Int)) ⟨h.1,by simpa using hk⟩ rfl];have e:enc ((cX l).l[((k:Int)).toNat]'((cX l).lt (by simpa using hk)))=I.int .i64 (bR l k):=by
  have:=qv l hk;rw[←bd.u5 _ hk] at this;rw[←this];rfl
 rw[e];rfl
theorem Bl(l:List ah)(r:ah)(hl:l.length≤4000000000000)(h:qI l)(hr:0≤r.aI∧r.aI≤5):aP Tryz.prog 71 [enc l,enc r] (enc (dQ l r)):=by
 refine aP.bM Tryz.func71 Nl OV Qy (t7 rfl) (fun hwf W0 bI E1 =>?_);simp only[C1,Ie,bC,zz4];clear hwf;have hF:=qd l hl h;have hix:=vr l hr;rw[show dQ l r=(decide ((l.length:Int)<60)&&((bR l r.aI:Int)==r.no)) by
  simp only[dQ];congr 1;rw[decide_eq_decide];omega]
 cases q1:decide ((l.length:Int)<60)
 ·have R:=y6 @q1 (y6 @hix (y6 @oO aw))
  repeat' ((first |(with_reducible refine .guard (fun hb =>?_) (fun hb =>?_) <;>try simp only[hb])|refine ab.aA (by decide +kernel) rfl fun K hK =>?_|refine .lead _ (hF) ?_|(refine .av [0,1,3,4] hK ?_;clear hK K)|(with_reducible refine .done (hK _ ?_);clear hK K)|refine ab.of rfl ?_|(with_reducible refine ar.az (fun h =>?_) (fun h =>?_) <;>try simp only[h])) <;>try simp only[aB,R,simprocAttr])
  all_goals clear R
  all_goals rfl
 ·have R:=y6 @q1 (y6 @hix (y6 @oO aw))
  repeat' ((first |(with_reducible refine .guard (fun hb =>?_) (fun hb =>?_) <;>try simp only[hb])|refine ab.aA (by decide +kernel) rfl fun K hK =>?_|refine .lead _ (hF) ?_|(refine .av [0,1,3,4] hK ?_;clear hK K)|(with_reducible refine .done (hK _ ?_);clear hK K)|refine ab.of rfl ?_|(with_reducible refine ar.az (fun h =>?_) (fun h =>?_) <;>try simp only[h])) <;>try simp only[aB,R,simprocAttr])
  all_goals clear R
  all_goals rfl
def cS:List ah→List ah→Bool
 |_,[]=>true
 |out,r::l=>bj r&&dQ out r&&cS (out++[r]) l
theorem mQ:∀ (l out:List ah),cS out l=true↔cW bj dQ out l
 | [],_=>by simp[cS,cW]
 |r::l,out=>by simp only[cS,cW,zz0,mQ l,and_assoc]
theorem ahQ{l:List ah}{i:Nat}(h:i<l.length):cS (l.take i) (l.drop i)=(bj l[i]&&dQ (l.take i) l[i]&&cS (l.take (i+1)) (l.drop (i+1))):=by
 rw[zu3 h,cS,←lX h]
theorem lM{r:ah}(h:bj r=true):0≤r.aI∧r.aI≤5:=(nw (ny h)).1
theorem zC{l:List ah}{i:Nat}(hi:i<l.length)(h:∀ r∈l.take i,bj r=true)(h2:bj l[i]=true):∀ r∈l.take (i+1),bj r=true:=fun r hr=>by
 rw[lX hi] at hr;rcases zy6.1 hr with h1 | h1
 ·exact h r h1
 ·rw[zy7.1 h1];exact h2
theorem Bu(l:List ah)(hl:l.length≤4000000000000):aP Tryz.prog 98 [enc l] (enc (cS [] l)):=by
 refine aP.bM Tryz.func98 NF Pb QO (t7 rfl) (fun hwf W0 bI E1 =>?_);simp only[De,Iv,bC];clear hwf;have R:=aw
 repeat' ((first |(with_reducible refine .guard (fun hb =>?_) (fun hb =>?_) <;>try simp only[hb])|refine ab.aA (by decide +kernel) rfl fun K hK =>?_|(refine .av [0,2,3,4,5,6,7,8,22] hK ?_;clear hK K)|(with_reducible refine .done (hK _ ?_);clear hK K)|refine ab.of rfl ?_|(with_reducible refine ar.az (fun h =>?_) (fun h =>?_) <;>try simp only[h])) <;>try simp only[aB,R,simprocAttr])
 all_goals clear R
 refine ab.loop (fun i:Nat=>aC [(0,enc l),(5,enc l),(6,.int .i64 l.length),(7,.int .i64 i)] []) (fun i=>i≤l.length∧(∀ r∈l.take i,bj r=true)∧cS [] l=cS (l.take i) (l.drop i)) (fun i=>l.length-i) 0 ⟨zv6 _,by simp,by simp⟩ ?_ ?_
 ·refine bt.cF ?_ ?_ ?_ ?_ <;>simp[bT,bZ,bU,bB,bJ,I.only,bg]
  all_goals rfl
 rintro i ⟨hi,hk,heq⟩;by_cases hlt:i<l.length
 ·have hlc:=ga hlt;have he:=fun A=>gB (A:=A) 8 hlt rfl;have hw:=eO (i:=i) (by omega);have hnx:=zC hlt hk;rw[ahQ hlt] at heq;rw[heq];have hsl:=fun A=>wH (l:=l) (k:=i) A (esz:=8) rfl (by omega);have hli:(l.take i).length=i:=by rw[zz6];omega
  generalize l[i]=r at *;have f80:=qe r;cases q1:bj r
  ·rw[q1] at f80;have R:=y6 @hlc (y6 @he (y6 @hw (y6 @fB (y6 @fb aw))))
   repeat' ((first |(with_reducible refine .guard (fun hb =>?_) (fun hb =>?_) <;>try simp only[hb])|refine ab.aA (by decide +kernel) rfl fun K hK =>?_|refine .flat _ (f80) rfl ?_|(refine .av [0,2,3,4,5,6,7,8,22] hK ?_;clear hK K)|(with_reducible refine .done (hK _ ?_);clear hK K)|refine ab.of rfl ?_|(with_reducible refine ar.az (fun h =>?_) (fun h =>?_) <;>try simp only[h])) <;>try simp only[aB,R,simprocAttr])
   all_goals clear R
   all_goals rfl
  rw[q1] at f80;have f71:=Bl (l.take i) r (by omega) (fun q hq=>lM (hk q hq)) (lM q1);cases q2:dQ (l.take i) r
  ·rw[q2] at f71;have R:=y6 @hlc (y6 @he (y6 @hw (y6 @hsl (y6 @fB (y6 @fb aw)))))
   repeat' ((first |(with_reducible refine .guard (fun hb =>?_) (fun hb =>?_) <;>try simp only[hb])|refine ab.aA (by decide +kernel) rfl fun K hK =>?_|refine .flat _ (f80) rfl ?_|refine .flat _ (f71) rfl ?_|(refine .av [0,2,3,4,5,6,7,8,22] hK ?_;clear hK K)|(with_reducible refine .done (hK _ ?_);clear hK K)|refine ab.of rfl ?_|(with_reducible refine ar.az (fun h =>?_) (fun h =>?_) <;>try simp only[h])) <;>try simp only[aB,R,zw2,simprocAttr])
   all_goals clear R
   all_goals rfl
  rw[q2] at f71;have R:=y6 @hlc (y6 @he (y6 @hw (y6 @hsl (y6 @fB (y6 @fb aw)))))
  repeat' ((first |(with_reducible refine .guard (fun hb =>?_) (fun hb =>?_) <;>try simp only[hb])|refine ab.aA (by decide +kernel) rfl fun K hK =>?_|refine .flat _ (f80) rfl ?_|refine .flat _ (f71) rfl ?_|(refine .av [0,2,3,4,5,6,7,8,22] hK ?_;clear hK K)|(with_reducible refine .done (hK _ ?_);clear hK K)|refine ab.of rfl ?_|(with_reducible refine ar.az (fun h =>?_) (fun h =>?_) <;>try simp only[h])) <;>try simp only[aB,R,zw2,simprocAttr])
  all_goals clear R
  refine ⟨i+1,⟨by omega,hnx q1,?_⟩,by omega,?_⟩
  ·rfl
  refine bt.cF ?_ ?_ ?_ ?_ <;>simp[bT,bZ,bU,bB,bJ,I.only,bg]
  all_goals rfl
 ·have hlc:=gM hlt;rw[heq,zv9 (by omega),cS];have R:=y6 @hlc aw
  repeat' ((first |(with_reducible refine .guard (fun hb =>?_) (fun hb =>?_) <;>try simp only[hb])|refine ab.aA (by decide +kernel) rfl fun K hK =>?_|(refine .av [0,2,3,4,5,6,7,8,22] hK ?_;clear hK K)|(with_reducible refine .done (hK _ ?_);clear hK K)|refine ab.of rfl ?_|(with_reducible refine ar.az (fun h =>?_) (fun h =>?_) <;>try simp only[h])) <;>try simp only[aB,R,simprocAttr])
  all_goals clear R
  all_goals rfl
end Go.Proofs.YtoffnnjbplgnaaaGreatDoor
namespace Go.Proofs.YtoffnnjbplgnaaaGreatDoor
open Go Go.Abs Go.Shelf Go.RowKit
open Go.Abs.Enc (enc)
def dk(r:ah):List Value:=[.int .i64 r.aI,.int .i64 r.no,.int .i64 r.kind,.int .i64 r.eP,.int .i64 r.known,.int .i64 r.gb,.int .i64 r.gp,.string ⟨r.text.toArray⟩]
theorem Iz{w:World}{D:aO}{E:aU}{r:ah}{cs:List Value}(h:ai w D E (enc r) cs):cs=dk r:=by
 obtain ⟨h1,_⟩:=II (gD (v:=.agg cs.toArray) (by simp[bm,show (enc r:I).isAgg=true from rfl]) h);simp only[Value.agg.injEq] at h1;have:=congrArg Array.toList h1;simpa[dk] using this
theorem Fw{n:Int}(h:0≤n∧n<100000000):IntKind.i64.min≤n∧n≤IntKind.i64.max:=by
 have a:IntKind.i64.min=-9223372036854775808:=rfl;have b:IntKind.i64.max=9223372036854775807:=rfl;omega
theorem agj{w:World}{D:aO}{E:aU}{r:ah}(h:bj r=true):ai w D E (enc r) (dk r):=by
 have hn:=th h;have ht:=vZ h
 show ai w D E (.agg [.agg [.int .i64 r.aI,.int .i64 r.no],.int .i64 r.kind,.int .i64 r.eP,.int .i64 r.known,.agg [.int .i64 r.gb,.int .i64 r.gp],.ak ⟨r.text.toArray⟩]) _
 have g:∀ n∈eK r,ai w D E (.int .i64 n) [.int .i64 n]:=fun n hn'=>⟨rfl,Fw (hn n hn')⟩
 simp only[ai,aK];refine ⟨[.int .i64 r.aI,.int .i64 r.no],_,rfl,⟨[.int .i64 r.aI],_,rfl,by simpa only[ai] using g r.aI (by simp[eK]),[.int .i64 r.no],[],rfl,by simpa only[ai] using g r.no (by simp[eK]),rfl⟩,
  [.int .i64 r.kind],_,rfl,by simpa only[ai] using g r.kind (by simp[eK]),[.int .i64 r.eP],_,rfl,by simpa only[ai] using g r.eP (by simp[eK]),[.int .i64 r.known],_,rfl,by simpa only[ai] using g r.known (by simp[eK]),
  [.int .i64 r.gb,.int .i64 r.gp],_,rfl,⟨[.int .i64 r.gb],_,rfl,by simpa only[ai] using g r.gb (by simp[eK]),[.int .i64 r.gp],[],rfl,by simpa only[ai] using g r.gp (by simp[eK]),rfl⟩,
  [.string ⟨r.text.toArray⟩],[],rfl,⟨rfl,?_⟩,rfl⟩
 show r.text.toArray.size≤maxLen
 simp only[List.size_toArray,maxLen];omega
theorem NK{z:Int}(hz:0≤z∧z<1000003){r:ah}(h:bj r=true)(W:World)(hl:fw Tryz.prog W (fun _=>False)):Calls Tryz.prog 81 #[.int .i64 z,.agg (dk r).toArray] W fun e w'=>e=.returned (.tuple #[.string ⟨(db z r).toArray⟩,.int .i64 (dE z (da r))])∧Below W.heap.size W w':=by
 have hc:=rZ z hz r h;refine (hc.2 W (fun _ _=>False) [.int .i64 z,.agg (dk r).toArray] hl (fun _ _ h=>h.elim) ?_).mono ?_
 ·simp only[aD];refine ⟨_,_,[.int .i64 z],rfl,rfl,?_,_,_,dk r,rfl,by simp[bm,show (enc r:I).isAgg=true from rfl],agj h,rfl⟩
  show ai _ _ _ (.int .i64 z) _
  simp only[ai];exact ⟨trivial,Fw (by omega)⟩
 ·rintro e w' ⟨v,D',rfl,ae,hb,_⟩;refine ⟨?_,hb⟩;have hv':∃ vs:List Value,v=.tuple vs.toArray∧aD w' D' cq [enc (aH.of (db z r)),enc (dE z (da r))] vs:=ae;obtain ⟨vs,rfl,h2⟩:=hv';simp only[aD] at h2;obtain ⟨v1,_,c1,rfl,p1,r1,v2,_,c2,rfl,p2,ja,rfl⟩:=h2;have r1':ai w' D' cq (.ak ⟨(db z r).toArray⟩) c1:=r1;have r2':ai w' D' cq (.int .i64 (dE z (da r))) c2:=ja;simp only[ai] at r1' r2';obtain ⟨rfl,_⟩:=r1';obtain ⟨rfl,_⟩:=r2';simp[bm,show (enc (aH.of (db z r)):I).isAgg=false from rfl,show (enc (dE z (da r)):I).isAgg=false from rfl] at p1 p2;subst p1 p2;rfl
def r3(w:World)(a:Option Addr)(l:List ah):Prop:=∀ (j:Nat) (h:j<l.length),∃ b off,a=some ⟨b,off,none⟩∧w.rangeAt b (off+j*8) (dk l[j])∧b<w.heap.size
theorem r3.later{w w':World}{a:Option Addr}{l:List ah}(h:r3 w a l)(hb:Below w.heap.size w w'):r3 w' a l:=by
 intro j hj;obtain ⟨b,off,h1,h2,h3⟩:=h j hj;refine ⟨b,off,h1,fun k v hk =>?_,zu5 h3 hb.size⟩;have:=h2 k v hk;simp only[World.cell?] at this ⊢;rw[hb.block b h3];exact this
theorem agM{w:World}{D:aO}(hD:∀ b o,D b o→b<w.heap.size){l:List ah}{v:Value}(h:aV w D cq (enc l) v):∃ a cap,v=.slice a l.length cap∧r3 w a l:=by
 have h':aV w D cq (.slice 8 (l.map enc)) v:=h;obtain ⟨a,cap,h1,h2,h3,h4,h5⟩:=mL h';refine ⟨a,cap,by rw[h1,zz3],fun j hj =>?_⟩;rcases h4 with h4 | ⟨b,off,cs,rfl,h6,h7⟩
 ·rw[List.map_eq_nil_iff] at h4;rw[h4] at hj;exact absurd hj (by simp)
 ·obtain ⟨c2,k1,k2⟩:=ya (k:=j) (x:=enc l[j]) h6 h7 h5 (by simp[hj]);have e:=Iz k2;subst e;refine ⟨b,off,rfl,fun k v hk=>(k1 k v hk).1,hD b (off+j*8+0) (k1 0 _ rfl).2⟩
theorem ahw(l:List ah)(hl:l.length≤1000000)(h:∀ r∈l,bj r=true)(a:Option Addr)(cap:Nat)(w:World)(hL:fw Tryz.prog w (fun _=>False))(hR:r3 w a l) :
  Calls Tryz.prog 135 #[.slice a l.length cap] w fun e w'=>e=.returned (.string ⟨(bW 1 l).toArray⟩)∧Below w.heap.size w w':=by
 go_enter Tryz.func135,Tryz.ntmps135
 go_wp2
 go_loopw [4,10] (fun s i wr=>∃ j:Nat,j≤l.length∧i=.int .i64 j∧s=.int .i64 (dK 1 (l.take j))∧mU w.heap.size w.heap.size (bW 1 (l.take j)) wr∧Below w.heap.size w wr) (fun _ i _=>l.length-(RowKit.intOf i).toNat)
 case atStart =>
  refine ⟨0,by omega,rfl,rfl,.inl ⟨by omega,.slice none 0 0,heap_alloc_new w _,⟨rfl,.inl ⟨rfl,rfl⟩⟩,by simp[Value.ownBlock]⟩,kL w _⟩
 case round =>
  obtain ⟨j,hj,rfl,rfl,hI,hbw⟩:=hrel;have hB1:w.heap.size≤wr.heap.size:=hbw.size;by_cases hlt:j<l.length
  ·obtain ⟨b,off,ha,hr,hb⟩:=hR.later hbw j hlt;subst ha;have hok:=h l[j] (zv4 hlt);have hst:=rK (l.take j);have hsn:=rO (l.take j) l[j] 1;rw[←lX hlt] at hsn;generalize l[j]=r at *;have hcall:=NK hst hok;have k0:wr.cell? ⟨b,off+j*8,none⟩=some (.int .i64 r.aI):=hr 0 _ rfl;have k1:wr.cell? ⟨b,off+j*8+1,none⟩=some (.int .i64 r.no):=hr 1 _ rfl;have k2:wr.cell? ⟨b,off+j*8+2,none⟩=some (.int .i64 r.kind):=hr 2 _ rfl;have k3:wr.cell? ⟨b,off+j*8+3,none⟩=some (.int .i64 r.eP):=hr 3 _ rfl;have k4:wr.cell? ⟨b,off+j*8+4,none⟩=some (.int .i64 r.known):=hr 4 _ rfl;have k5:wr.cell? ⟨b,off+j*8+5,none⟩=some (.int .i64 r.gb):=hr 5 _ rfl;have k6:wr.cell? ⟨b,off+j*8+6,none⟩=some (.int .i64 r.gp):=hr 6 _ rfl;have k7:wr.cell? ⟨b,off+j*8+7,none⟩=some (.string ⟨r.text.toArray⟩):=hr 7 _ rfl;simp only[dk] at hcall;have hw:=eO (i:=j) (by omega);have hlt':decide ((j:Int)<(l.length:Int))=true:=ga hlt;have hll:=sW hst hok;have htl:=nT (l.take j) (s:=1) (by omega) fun q hq=>h q (zx9 hq);have hli:(l.take j).length=j:=by rw[zz6];omega
   have hsz:(⟨(db (dK 1 (l.take j)) r).toArray⟩:ByteArray).size=(db (dK 1 (l.take j)) r).length:=by show (db _ r).toArray.size=_;simp
   go_wp2_with (first | (go_at_call 81;refine (hcall _ (FH hL (hbw.trans ((kL wr _).mono hB1)))).mono ?_;rintro e W1 ⟨rfl,hb1⟩) | (go_at_call 156;refine (JT w.heap.size w.heap.size _ _ _ (vn (vn hI (kL wr _)) hb1) (by rw[hsz];omega) (by have:=hb1.size;simp at this;omega)).mono ?_;rintro e W2 ⟨rfl,hI2,hb2,hk2⟩))
   refine ⟨⟨j+1,by omega,rfl,?_,?_,?_⟩,by simp only[RowKit.intOf];omega⟩
   ·rw[hsn.2]
   ·rw[hsn.1];exact hI2
   ·exact ((hbw.trans ((kL wr _).mono hB1)).trans (hb1.mono (by simp;omega))).trans hb2
  ·have hge:j=l.length:=by omega
   subst hge;have hlt':decide ((l.length:Int)<(l.length:Int))=false:=by simp
   rw[zv5] at hI
   go_wp2_with (go_at_call 157;refine (BV w.heap.size w.heap.size _ _ hI hB1).mono ?_;rintro e W2 ⟨rfl,hI2,hb2,hk2⟩)
   go_ret
   exact ⟨rfl,hbw.trans hb2⟩
theorem A7(l:List ah)(hl:l.length≤1000000)(h:∀ r∈l,bj r=true):aP Tryz.prog 135 [enc l] (enc (aH.of (bW 1 l))):=by
 refine ⟨My,fun w D vs hL hD ae =>?_⟩;simp only[aD] at ae;obtain ⟨v,rest,cs,rfl,h1,h2,rfl⟩:=ae;obtain ⟨a,cap,rfl,hR⟩:=agM hD (gD h1 h2);refine (ahw l hl h a cap w hL hR).mono ?_;rintro e w' ⟨rfl,hbl⟩;have hlen:=nT l (s:=1) (by omega) h;exact ⟨_,D,rfl,I1 (l:=bW 1 l) (by unfold maxLen;omega),hbl,fun b o hd=>zu5 (hD b o hd) hbl.size,fun _ _ h _=>h⟩
end Go.Proofs.YtoffnnjbplgnaaaGreatDoor
namespace Go.Proofs.YtoffnnjbplgnaaaGreatDoor
open Go Go.Abs
open Go.Abs.Enc (enc)
theorem DK{c:UInt8} : ∀ {l:List UInt8},ec c l=none→∀ b∈l,b≠c
 | [],_=>by simp
 |b::l,h=>by
  rw[ec] at h;by_cases e:b=c
  ·rw[if_pos e] at h;cases h
  ·rw[if_neg e] at h;cases h2:ec c l with
   |some p=>rw[h2] at h;cases h
   |none =>
    intro x hx;rcases zx7.1 hx with rfl | hx
    ·exact e
    ·exact DK h2 x hx
theorem uK{c:UInt8} : ∀ {l w v:List UInt8},ec c l=some (w,v)→l=w++c::v∧∀ b∈w,b≠c
 | [],_,_,h=>by simp[ec] at h
 |b::l,w,v,h=>by
  rw[ec] at h;by_cases e:b=c
  ·rw[if_pos e] at h;cases h;exact ⟨by rw[e];rfl,by simp⟩
  ·rw[if_neg e] at h;cases h2:ec c l with
   |none=>rw[h2] at h;cases h
   |some p =>
    obtain ⟨w2,v2⟩:=p;rw[h2,zy5] at h;cases h;obtain ⟨h3,h4⟩:=uK h2;refine ⟨by rw[h3];rfl,fun x hx =>?_⟩;rcases zx7.1 hx with rfl | hx
    ·exact e
    ·exact h4 x hx
theorem ze{u:List UInt8}(h:ec 10 u=none):dZ u=[]:=qQ (DK h)
theorem vC{u w v:List UInt8}(h:ec 10 u=some (w,v)):dZ u=(w++[10])::dZ v:=by
 obtain ⟨rfl,h2⟩:=uK h;exact zd v h2
def gG:Nat→List UInt8→List UInt8
 |0,t=>t
 |k+1,t=>match ec 10 t with
  |none=>t
  |some p=>gG k p.2
theorem Aa:∀ {k:Nat} {t w v:List UInt8},ec 10 (gG k t)=some (w,v)→gG (k+1) t=v
 |0,t,w,v,h=>by rw[gG] at h;rw[gG,h];rfl
 |k+1,t,w,v,h=>by
  rw[gG] at h ⊢;cases h2:ec 10 t with
  |none=>rw[h2] at h;simp only at h;rw[h2] at h;cases h
  |some p=>rw[h2] at h;exact Aa h
theorem z8:∀ {k:Nat} {t:List UInt8},k≤(dZ t).length→dZ (gG k t)=(dZ t).drop k
 |0,t,_=>rfl
 |k+1,t,h=>by
  rw[gG];cases h2:ec 10 t with
  |none=>rw[ze h2] at h;simp at h
  |some p =>
   obtain ⟨w,v⟩:=p;rw[vC h2] at h ⊢;simp only[zx5] at h;exact z8 (k:=k) (t:=v) (by omega)
theorem IS:∀ (k:Nat) (t:List UInt8),(gG k t).length≤t.length
 |0,_=>zy1 _
 |k+1,t=>by
  rw[gG];cases h2:ec 10 t with
  |none=>exact zy1 _
  |some p =>
   have:=uL h2;have:=IS k p.2;simp only;omega
def eA(u:List UInt8)(out:List ah)(s:Int)(z:Nat):List (Nat×al):=[(1000001,.box (enc (aH.of u))),(1000004,.box (.own 1000080 out.length)),(1000080,.b6 50 8 (out.map enc)),(1000005,.box (.int .i64 s)),(1000006,.box (.int .i64 (z:Int)))]
theorem pV(u:List UInt8)(out:List ah)(s:Int)(z:Nat)(u':List UInt8)(out':List ah)(s':Int)(z':Nat):gv (eA u out s z) (eA u' out' s' z'):=by
 refine ⟨fun n=>by simp only[eA,ay,aq];(repeat' split) <;>rfl,fun n x h =>?_,fun n h =>?_⟩
 ·simp only[eA,aq] at h
  repeat' split at h
  all_goals first | (cases h;done) | (simp only[v6] at h;subst h;exact ⟨by simp[eA,ay,aq,al.only,bg,I.only,oE],rfl⟩)
 ·simp only[eA,ay,aq] at h
  repeat' split at h
  all_goals first | omega | (simp at h;done)
section
variable (t:List UInt8) (P:Nat→List ah→Int→Nat→Prop) (bo:List ah→Nat→Prop)
def vl(k:Nat)(os:List (Nat×al)):Prop:=∃ out s z,os=eA (gG k t) out s z∧P k out s z
def vm(k:Nat)(os:List (Nat×al)):Prop:=∃ out s z,os=eA (gG k t) out s z∧P (k+1) out s z
def sN(e:Option Nat)(os:List (Nat×al)):Prop:=e=some 0∧∃ u out s z,os=eA u out s z∧bo out z
def qK(k:Nat):List I:=[enc (aH.of ((dZ t).getD k []))]
end
def I8(o:Obj)(v:Value)(t:List UInt8)(x:Nat×List ah×Int×Nat):af:=aC [(0,.raw v),(1,.ptr 1000001 [])] (cn o (eA (gG x.1 t) x.2.1 x.2.2.1 x.2.2.2))
theorem Fk{o:Obj}{u:List UInt8}{out:List ah}{s:Int}{z:Nat}{ts:List (Nat×I)} : ∀ n x,aq (cn o (eA u out s z)) n=some x→(aC ts (cn o (eA u out s z))).o n=some x∧x.only (ay (cn o (eA u out s z)))=true∧x.fm=true:=fun n x h =>
 ⟨h,(((pV u out s z u out s z).cn o o).ok n x h)⟩
theorem ahm:∀ A n b rest (x y:List UInt8),de A none n [] b (enc (aH.of x)) rest (some (enc (aH.of y)))=au rest (A.aM n (.box (enc (aH.of x)))) :=
 fun A n b rest x y=>by rw[dS (s:=none) (v:=enc (aH.of x)) (old:=enc (aH.of y)) (dH _) rfl rfl,ez]
theorem aea{t:List UInt8}(ht:t.length≤281474976710656){P:Nat→List ah→Int→Nat→Prop}{bo:List ah→Nat→Prop}{out0:List ah}{s0:Int}{z0:Nat}(h0:P 0 out0 s0 z0)
  (Y:Value→List I→List (Nat×al)→cv→Prop) (v:Value) (o:Obj) (oX:Option Nat→Obj) (ae:v.oneCell'=true)
  (hY:∀ k osb post,k<(dZ t).length→vl t P k osb→(∀ r os2,(r=.bool true∧∃ osb2,os2=cn o osb2∧vm t P k osb2)∨(r=.bool false∧∃ e osb2,os2=cn (oX e) osb2∧sN bo e osb2)→post r os2)→Y v (qK t k) (cn o osb) post) :
  kF Tryz.prog 122 Y [.raw v,.ptr 1000001 []] (cn o (eA t out0 s0 z0)) (fun r os'=>r=.tuple []∧((∃ osb,os'=cn o osb∧vl t P (dZ t).length osb)∨∃ e osb,os'=cn (oX e) osb∧sN bo e osb)):=by
 refine kF.bM Tryz.func122 Dj N4 PI (t7 rfl) (t7 rfl) (((pV t out0 s0 z0 t out0 s0 z0).cn o o).ot) (fun hwf W0 bI E1 =>?_);simp only[Ch,Hm,bC,zz4];clear hwf;refine ab.block (ab.loop (I8 o v t) (fun x=>x.1≤(dZ t).length∧P x.1 x.2.1 x.2.2.1 x.2.2.2) (fun x=>(dZ t).length-x.1) (0,out0,s0,z0) ⟨by simp,h0⟩ ?_ ?_)
 ·exact bt.refl _
 rintro ⟨k,out,s,z⟩ ⟨hk,hP⟩;simp only at hk hP;have hrl:=IS k t;have hrd:=z8 hk;have hrn:=fun w v=>Aa (k:=k) (t:=t) (w:=w) (v:=v);obtain ⟨u,hu⟩:∃ u,u=gG k t:=⟨_,rfl⟩
 have hfin:dZ u=[]→∃ osb,cn o (eA u out s z)=cn o osb∧vl t P (dZ t).length osb:=fun e=>by
  rw[hu,hrd,List.drop_eq_nil_iff] at e;have:k=(dZ t).length:=by omega
  exact ⟨_,rfl,out,s,z,by rw[←this,←hu],by rw[←this];exact hP⟩
 simp only[I8,←hu];rw[←hu] at hrl hrd hrn;have heldF:=fun ts=>Fk (o:=o) (u:=u) (out:=out) (s:=s) (z:=z) (ts:=ts);rcases hq:decide (u=[])
 rotate_left
 ·have hu0:u=[]:=of_decide_eq_true hq;have hf:=hfin (by rw[hu0];exact qQ (by simp));simp only[cn,eA] at hf heldF ⊢;have R:=y6 @jV (y6 @j8 (y6 @hq (y6 @bA aw)))
  repeat' ((first |(with_reducible refine .guard (fun hb =>?_) (fun hb =>?_) <;>try simp only[hb])|refine ab.aA (by decide +kernel) rfl fun K hK =>?_|(refine .av [0,1,3,5,18] hK ?_;clear hK K)|(with_reducible refine .done (hK _ ?_);clear hK K)|refine ab.of rfl ?_|(with_reducible refine ar.az (fun h =>?_) (fun h =>?_) <;>try simp only[h])) <;>try simp only[aB,R,simprocAttr])
  all_goals clear R
  rw[agA];exact ⟨_,[],heldF _,trivial,rfl,.inl hf⟩
 have hF:=J6 (aH.of u) 10;rw[aH.eJ] at hF;rcases uJ 10 u with ⟨h1,h2⟩ | ⟨i,hi,h2,h1⟩
 ·have hf:=hfin (ze h1);obtain ⟨n,hn1⟩:∃ n:Int,n=-1:=⟨_,rfl⟩
  rw[h2,←hn1] at hF;have hneg:decide (n<0)=true:=by rw[hn1];rfl
  simp only[cn,eA] at hf heldF ⊢;have R:=y6 @jV (y6 @j8 (y6 @hq (y6 @hneg (y6 @bA aw))))
  repeat' ((first |(with_reducible refine .guard (fun hb =>?_) (fun hb =>?_) <;>try simp only[hb])|refine ab.aA (by decide +kernel) rfl fun K hK =>?_|refine .flat _ (hF) rfl ?_|(refine .av [0,1,3,5,18] hK ?_;clear hK K)|(with_reducible refine .done (hK _ ?_);clear hK K)|refine ab.of rfl ?_|(with_reducible refine ar.az (fun h =>?_) (fun h =>?_) <;>try simp only[h])) <;>try simp only[aB,R,simprocAttr])
  all_goals clear R
  rw[ky];exact ⟨_,[],heldF _,trivial,rfl,.inl hf⟩
 rw[h2] at hF;have hlt:k<(dZ t).length:=by
  have:=congrArg List.length hrd;rw[vC h1,zv3] at this;simp only[zx5] at this;omega
 have lE:qK t k=[enc (aH.of (u.take (i+1)))]:=by
  have e:(dZ t)[k]=u.take i++[10]:=by
   have h3:=hrd;rw[vC h1,zu3 hlt] at h3;exact (List.cons.inj h3).1.symm
  have h10:u[i]=10:=by
   obtain ⟨e1,_⟩:=uK h1;have:=congrArg (fun l=>l[i]?) e1;simp only[zz5 hi] at this;rw[zv7 (by rw[zz6];omega),zz6,show i-min i u.length=0 by omega] at this;exact Option.some.inj this
  rw[qK,zz2,zz5 hlt,Option.getD_some,e,lX hi,h10]
 have hlz:decide ((i:Int)<0)=false:=decide_eq_false (by omega);have hw:=eO (i:=i) (by omega);have hsh:=tF (aH.of u) (j:=i+1) (by rw[aH.eJ];omega);have hsl:=Al (aH.of u) (i:=i+1) (by rw[aH.eJ];omega);rw[aH.eJ] at hsh hsl;have hyy:=hY k (eA u out s z) _ hlt ⟨out,s,z,by rw[←hu],hP⟩ (fun r os2 h=>h);rw[lE] at hyy;simp only[cn,eA] at hyy ⊢;have R:=y6 @jV (y6 @j8 (y6 @hq (y6 @hlz (y6 @hw (y6 @hsh (y6 @NL (y6 @bA aw)))))))
 repeat' ((first |(with_reducible refine .guard (fun hb =>?_) (fun hb =>?_) <;>try simp only[hb])|refine ab.aA (by decide +kernel) rfl fun K hK =>?_|refine .flat _ (hF) rfl ?_|(refine .av [0,1,3,5,18] hK ?_;clear hK K)|(with_reducible refine .done (hK _ ?_);clear hK K)|refine ab.of rfl ?_|(with_reducible refine ar.az (fun h =>?_) (fun h =>?_) <;>try simp only[h])) <;>try simp only[aB,R,simprocAttr])
 all_goals clear R
 refine aY.ahU (ow:=[]) (In:=fun os2=>∃ osb2,os2=cn o osb2∧vm t P k osb2) (Ix:=fun os2=>∃ e osb2,os2=cn (oX e) osb2∧sN bo e osb2) hyy ((pV t out0 s0 z0 u out s z).cn o o) (fun os' h =>?_) (fun os' h =>?_) (by simp[I.cG,iR]) (fun m h=>by simp[ay,aq] at h) (fun os2 h =>?_) (fun os2 h =>?_)
 ·obtain ⟨_,rfl,out',s',z',rfl,_⟩:=h;exact (pV ..).cn _ _
 ·obtain ⟨e,_,rfl,_,u',out',s',z',rfl,_⟩:=h;exact (pV ..).cn _ _
 ·obtain ⟨_,rfl,out',s',z',rfl,hP'⟩:=h;rw[←hu]
  try simp only[cn,eA,zy3,aZ,simprocAttr]
  refine .done (hK _ ?_);clear hK K;have hn:=hrn _ _ h1;have R:=y6 @hw (y6 @hsl (y6 @hlz (y6 @ahm (y6 @bA aw))))
  repeat' ((first |(with_reducible refine .guard (fun hb =>?_) (fun hb =>?_) <;>try simp only[hb])|refine ab.aA (by decide +kernel) rfl fun K hK =>?_|(refine .av [0,1,3,5,18] hK ?_;clear hK K)|(with_reducible refine .done (hK _ ?_);clear hK K)|refine ab.of rfl ?_|(with_reducible refine ar.az (fun h =>?_) (fun h =>?_) <;>try simp only[h])) <;>try simp only[aB,R,simprocAttr])
  all_goals clear R
  refine ⟨(k+1,out',s',z'),⟨by simp only;omega,hP'⟩,by simp only;omega,?_⟩;simp only[hn];refine bt.slots ?_ (fun n =>?_)
  ·simp[bT,bJ]
  ·simp only[dz];(repeat' split) <;>simp_all
 ·obtain ⟨e,_,rfl,he,u',out',s',z',rfl,hF'⟩:=h
  try simp only[cn,eA,zy3,aZ,simprocAttr]
  refine .done (hK _ ?_);clear hK K;have R:=y6 @bA aw
  repeat' ((first |(with_reducible refine .guard (fun hb =>?_) (fun hb =>?_) <;>try simp only[hb])|refine ab.aA (by decide +kernel) rfl fun K hK =>?_|(refine .av [0,1,3,5,18] hK ?_;clear hK K)|(with_reducible refine .done (hK _ ?_);clear hK K)|refine ab.of rfl ?_|(with_reducible refine ar.az (fun h =>?_) (fun h =>?_) <;>try simp only[h])) <;>try simp only[aB,R,simprocAttr])
  all_goals clear R
  rw[ky];exact ⟨_,[],Fk (o:=oX e) (u:=u') (out:=out') (s:=s') (z:=z'),trivial,rfl,.inr ⟨e,_,rfl,he,u',out',s',z',rfl,hF'⟩⟩
def afL(t:List UInt8):cv:=fun r os'=>r=.func 122 [.ptr 1 []]∧os'=[(1,.box (enc (aH.of t)))]
theorem KF(t:List UInt8):ep Tryz.prog 69 [enc (aH.of t)] [] (afL t):=by
 refine ep.bM Tryz.func69 Nj OU Qw (t7 rfl) (t7 rfl) (fun m hm=>by simp[ay,aq] at hm) (fun hwf W0 bI E1 =>?_);simp only[C0,Ic,bC];clear hwf;have hall:([I.ptr 1 []].all fun y=>y.cm)=true:=rfl;have R:=y6 @hall (y6 @bA aw)
 repeat' ((first |refine ab.aA (by decide +kernel) rfl fun K hK =>?_|(refine .av [0,1,2] hK ?_;clear hK K)|(with_reducible refine .done (hK _ ?_);clear hK K)|refine ab.of rfl ?_|(with_reducible refine ar.az (fun h =>?_) (fun h =>?_) <;>try simp only[h])) <;>try simp only[aB,R,simprocAttr])
 all_goals clear R
 exact ⟨[(1,.box (enc (aH.of t)))],[.func 122 [.ptr 1 []]],km rfl (fun p=>bg _ _),⟨⟨_,rfl,.inl ⟨rfl,rfl,rfl⟩⟩,trivial⟩,rfl,rfl⟩
end Go.Proofs.YtoffnnjbplgnaaaGreatDoor
namespace Go.Abs
open Go Go.RowKit
open Enc (enc)
def KR(P:Program)(nn:Nat)(x y:bn)(ps:List Nat)(tsR:List (Nat×I))(N:Nat)(item:Nat→List I)(aW J:Nat→List (Nat×al)→Prop)(Ix:Option Nat→List (Nat×al)→Prop):Prop :=
 ∀ k osb,k<N→aW k osb→∀ (w:World) (D:aO) (E:aU) (l:Nat) (o1 o2:Obj),
  ab ⟨P,w,D,nn,cu E,E,fS,some l,none⟩ x (di (fun B=>B.o 1999999=some (.dU o1)∧ab ⟨P,w,D,nn,cu E,E,fS,some l,none⟩ y (IU o2 (J k) Ix) (B.aM 1999999 (.dU o2))) (fun _ _=>False)) (aC (we ps (item k) tsR) (cn o1 osb))
theorem BL{aG:Bool}{A0:af}{ρ:List (Nat×Nat)}{os:List (Nat×al)} : ∀ {caps:List I},(∀ x∈caps,x.only (ay os)=true∧x.cm=true)→gZ aG A0 ρ os (caps.map fun x=>x.aQ (bp ρ)) caps
 | [],_=>trivial
 |x::xs,h=>⟨.inl ⟨rfl,(h x (by simp)).1,(h x (by simp)).2⟩,BL fun y hy=>h y (by simp[hy])⟩
theorem Lr{aG:Bool}{A0:af}{ρ:List (Nat×Nat)}{os:List (Nat×al)}{v:Value}{caps0 caps:List I}(hc:caps0=caps.map fun x=>x.aQ (bp ρ))(h:∀ x∈caps,x.only (ay os)=true∧x.cm=true):gZ aG A0 ρ os (.raw v::caps0) (.raw v::caps):=by
 subst hc;exact ⟨.inl ⟨by simp[I.aQ],by simp[I.only],rfl⟩,BL h⟩
section
variable {c:cP} {Q:Exit→af→Prop}
theorem ab.agF{f:aJ}{ps:List Nat}{x y:bn}{ts tsR:List (Nat×I)}{os0 osb0:List (Nat×al)}{ρ:List (Nat×Nat)}{g:FuncId}{caps0 caps:List I}{N:Nat}{item:Nat→List I}
  (aW J:Nat→List (Nat×al)→Prop) (Ix:Option Nat→List (Nat×al)→Prop) (hr0:c.tw=none∧c.er=none) (hn6:c.n≤1000000)
  (hf:aj (aC ts os0) f=.func g caps0) (hc0:caps0=caps.map fun x=>x.aQ (bp ρ)) (hcp:∀ x∈caps,x.only (ay osb0)=true∧x.cm=true) (hcb:eV c.P g=true)
  (lE:∀ (Y:Value→List I→List (Nat×al)→cv→Prop) (v:Value) (o:Obj) (oX:Option Nat→Obj),v.oneCell'=true →
   (∀ k osb post,k<N→aW k osb→(∀ r os2,(r=.bool true∧∃ osb2,os2=cn o osb2∧J k osb2)∨(r=.bool false∧∃ e osb2,os2=cn (oX e) osb2∧Ix e osb2)→post r os2)→Y v (item k) (cn o osb) post) →
   kF c.P g Y (.raw v::caps) (cn o osb0) (fun r os'=>r=.tuple []∧((∃ osb,os'=cn o osb∧aW N osb)∨∃ e osb,os'=cn (oX e) osb∧Ix e osb))) (hlen:∀ k,(item k).length=ps.length)
  (hfree:aq os0 999999=none) (h19:ay osb0 1999999=false) (hρ:bp ρ 1999999=999999)
  (hgv:∀ o,fj ρ (cn o osb0) ((999999,.dU o)::os0)) (hts:oN ρ (ay osb0) ts tsR)
  (hI:∀ k os,aW k os→gv osb0 os) (hIx:∀ e os,Ix e os→gv osb0 os) (h0:aW 0 osb0)
  (hround:KR c.P c.n x y ps tsR N item aW J Ix)
  (hdone:∀ os,aW N os→Q .normal (aC ts (dp ρ os++os0))) (hexit:∀ e os,Ix e os→Q (yg e) (aC ts (dp ρ os++os0))) :
  ab c (.pM f ps x y) Q (aC ts os0):=by
 obtain ⟨hr,hbase⟩:=hr0;intro code hc a w hs;cases code <;>simp only[eU] at hc <;>try (first | (cases hc;done) | ((repeat' split at hc) <;>cases hc;done))
 rename_i cf cps cx cy;split at hc
 case h_2=>cases hc
 rename_i f' x' y' hcf hcx hcy;split at hc
 case isFalse=>cases hc
 rename_i hpn;simp only[v6,bn.pM.injEq] at hc;obtain ⟨rfl,rfl,rfl,rfl⟩:=hc;obtain ⟨D,E,hs⟩:=hs;have hF:c.bo=Fence.wide:=by unfold cP.bo;rw[hr]
 have hE0:c.cq 999999=none:=hs.lC (.inr (by decide));have hval:∃ vs:List Value,a.eval cf=.func (.func g) #[] vs.toArray∧aD w D E caps0 vs:=by
  have ae:=bz hs hcf;rw[hf] at ae;obtain ⟨cs,q1,q2⟩:=ae;simp only[ai] at q2;obtain ⟨vs,q3,q4⟩:=q2;exact ⟨vs,by rw[←oq (Dq hcb)];simpa[bm,I.isAgg,q3] using q1.symm,q4⟩
 obtain ⟨vs,hval,hvs⟩:=hval;rw[hF];refine wpIn_rangeFunc fun fn hfn =>?_;obtain ⟨rec,hrec⟩:∃ rec:LoopState→Option Code→Loop,rec=fun aS pe => { state:=aS,pending:=pe,fn,tmps:=a.tmps,params:=cps,assign:=cx,body:=cy,defers:=w.heap.size } :=⟨_,rfl⟩
 obtain ⟨E1,hs1,hE1,hup⟩:=hs.enter hbase hfree hE0 (o:=.loop (rec .ready none)) rfl;obtain ⟨W1,hW1⟩:∃ W1,(w.alloc (.deferred (some []))).alloc (.loop (rec .ready none))=W1:=⟨_,rfl⟩
 rw[hW1] at hs1 hup;obtain ⟨l,hl⟩:∃ l,l=w.heap.size+1:=⟨_,rfl⟩
 rw[←hl] at hE1;obtain ⟨yv,hyv⟩:∃ yv:Value,yv=.func (.yield l) #[] #[]:=⟨_,rfl⟩
 obtain ⟨a1,ha1⟩:∃ a1:Act,a1 = { a with defers := { target:=.collected w.heap.size,args := #[] } :: a.defers } :=⟨_,rfl⟩
 rw[←ha1] at hs1;refine ⟨l,[{ target:=.collected w.heap.size,args := #[] }],W1,{ target:=.fn (.func g) vs.toArray,args := #[yv] },W1,g,#[yv]++vs.toArray,W1,?_,?_,?_,?_,fun _=>by decide,?_⟩
 ·rw[←hW1,hrec,hl];exact run_enterLoop_outer _ _ _ _ _
 ·simp only[resolve,hval,hyv];simp[go_sem]
 ·intro f' _;trivial
 ·simp only[invoke,oL hcb]
 ·-- the iterator's own bargain
  have hG0:=hI 0 osb0 h0;obtain ⟨I',hI'⟩:∃ I':Nat→List (Nat×al)→Prop,I'=fun k os=>∃ osb,os=cn (.loop (rec .ready none)) osb∧aW k osb:=⟨_,rfl⟩
  obtain ⟨J',hJ'⟩:∃ J':Nat→List (Nat×al)→Prop,J'=fun k os=>∃ osb,os=cn (.loop (rec .ready none)) osb∧J k osb:=⟨_,rfl⟩
  obtain ⟨Ix',hIx'⟩:∃ Ix':List (Nat×al)→Prop,Ix'=fun os=>∃ e osb,os=cn (.loop (rec .done (some (vt e)))) osb∧Ix e osb:=⟨_,rfl⟩
  obtain ⟨os1,hos1⟩:∃ os1,os1=cn (.loop (rec .ready none)) osb0:=⟨_,rfl⟩
  obtain ⟨Y,hY⟩:∃ Y:Value→List I→List (Nat×al)→cv→Prop,Y=fun v args os post=>v=yv∧∃ k,args=item k∧k<N∧I' k os∧∀ r os2,(r=.bool true∧J' k os2)∨(r=.bool false∧Ix' os2)→post r os2:=⟨_,rfl⟩
  have lD:∀ k os',I' k os'→gv os1 os':=fun k os' h=>by
   rw[hI'] at h;obtain ⟨osb,rfl,h⟩:=h;rw[hos1];exact (hI k osb h).cn _ _
  have goodx:∀ os',Ix' os'→gv os1 os':=fun os' h=>by
   rw[hIx'] at h;obtain ⟨e,osb,rfl,h⟩:=h;rw[hos1];exact (hIx e osb h).cn _ _
  have hctr:kF c.P g Y (.raw yv::caps) os1 (fun r os'=>r=.tuple []∧(I' N os'∨Ix' os')):=by
   rw[hI',hIx',hos1];refine lE Y yv (.loop (rec .ready none)) (fun e=>.loop (rec .done (some (vt e)))) (by rw[hyv];rfl) (fun k osb post hk h1 h2 =>?_);rw[hY];refine ⟨rfl,k,rfl,hk,by rw[hI'];exact ⟨osb,rfl,h1⟩,fun r os2 h3=>h2 r os2 ?_⟩;rw[hJ',hIx'] at h3;exact h3
  have hgv1:fj ρ os1 ((999999,.dU (.loop (rec .ready none)))::os0):=by rw[hos1];exact hgv _
  obtain ⟨A0,hA0⟩:∃ A0:af,A0=aC ts ((999999,.dU (.loop (rec .ready none)))::os0):=⟨_,rfl⟩
  have hand:oW (Calls c.P g) (fun w D E=>∀ n,qj ⟨c.P,w,D,n,cu E,E,Y,none,none⟩) (.raw yv::caps) os1 (fun r os'=>r=.tuple []∧(I' N os'∨Ix' os')):=fun w D E vs hy hlive hheld ae=>by
   refine (hctr.2 w D E vs hy hlive hheld ae).mono fun e w' ⟨v,he,D',E',r,os',q⟩=>⟨v,D',E',r,os',he,q⟩
  have hshare:=hs1.pS;obtain ⟨Dh,hDh⟩:∃ Dh,Dh=pO (aC ts ((999999,.dU (.loop (rec .ready none)))::os0)) D E1:=⟨_,rfl⟩
  rw[←hDh] at hshare;have hsh:=hshare.1;obtain ⟨Eh,hEh⟩:∃ Eh,Eh=aE ρ os1 E1:=⟨_,rfl⟩
  have isrec:ay os1 1999999=true:=by rw[hos1,lG];simp
  have hEl:Eh 1999999=some (.op l):=by rw[hEh];simp only[aE,isrec,if_true,hρ];exact hE1
  have EhIn:∀ n e,Eh n=some e→ay os1 n=true:=fun n e h=>by
   rw[hEh] at h;simp only[aE] at h;split at h
   ·assumption
   ·cases h
  have hyok:∀ n,qj ⟨c.P,W1,Dh,n,cu Eh,Eh,Y,none,none⟩:=by
   refine fun n=>⟨by rw[hEh];exact hs1.qN,?_⟩
   intro v' args os' post' hYv w2 D2 E2 vs2 hsince hlive hheld hrvs;rw[hY] at hYv;obtain ⟨rfl,k,rfl,hkN,hIk,hpost⟩:=hYv;have hIk0:=hIk;rw[hI'] at hIk;obtain ⟨osb,rfl,hIk⟩:=hIk;have gk:=lD k _ hIk0;have gkb:=hI k osb hIk;have in2:∀ m,ay os1 m=true→E2 m≠none:=fun m hm=>by
    rw[←gk.same m] at hm;cases hx:aq (cn (.loop (rec .ready none)) osb) m with
    |none=>simp[ay,hx] at hm
    |some x=>have:=hheld.bG m;rw[hx] at this;exact tf this
   have same2:∀ m e,Eh m=some e→e.fm=true→E2 m=some e:=fun m e he hfx=>by
    rcases hsince.ev m e he with h | ⟨e',h,hle⟩
    ·exact absurd h (in2 m (EhIn m e he))
    ·rw[hle.eq hfx] at h;exact h
   have hEl2:E2 1999999=some (.op l):=same2 _ _ hEl rfl;have hob:=hheld.bG 1999999;rw[qS,if_pos rfl] at hob;obtain ⟨b,j1,_,j3,_,_⟩:=hob;rw[hEl2] at j1;cases j1;have hsz:vs2.toArray.size=cps.size:=by have:=tC hrvs;rw[hlen] at this;simpa using this
   have hyr:=run_yield (P:=c.P) (args:=vs2.toArray) j3 (by rw[hrec];exact hsz);rw[hrec] at hyr;refine ⟨l,hyv,fn,_,cx,cy,hyr,roundIn_of_wpIn trivial ?_⟩;clear hyr
   -- the round's own frame
   obtain ⟨cr,hcr⟩:∃ cr:cP,cr=⟨c.P,w2,D2,c.n,cu E2,E2,fS,some l,none⟩:=⟨_,rfl⟩
   have hFr:cr.bo=Fence.wide.inRound l:=by rw[hcr];rfl
   have hlat:ej W1 Dh Eh w2 D2 E2:=by
    refine ⟨hsince.cR,hsince.gq.cell,fun m b aN he=>same2 m _ he rfl,fun m aL l he =>?_,fun m b he=>same2 m _ he rfl,fun m b he=>same2 m _ he rfl,hsince.gq.iF⟩;rcases hsince.ev m _ he with h | ⟨e',h,hle⟩
    ·exact absurd h (in2 m (EhIn m _ he))
    ·rcases hle with rfl | ⟨_,_,blk',l',e,rfl,k1,k2⟩
     ·exact ⟨aL,l,h,zy1 _,fun _=>rfl⟩
     ·cases e;exact ⟨blk',l',h,k1,k2⟩
   have hslots:oN ρ (ay os1) ts tsR:=by
    have:∀ tsR:List (Nat×I),oN ρ (ay osb0) ts tsR→oN ρ (ay os1) ts tsR:=by
     intro tsR
     induction tsR with
     |nil=>exact fun h=>h
     |cons q r ih =>
      intro h;obtain ⟨h1,h2,h3⟩:=h;exact ⟨h1,j5 (fun n hn=>by rw[hos1,lG,hn];simp) _ h2,ih h3⟩
    exact this tsR hts
   have hsr:aT cr (aC tsR (cn (.loop (rec .ready none)) osb)) { tmps:=a.tmps,defers:=[] } w2 D2 E2:=by
    rw[hcr];refine ⟨hs.sz,⟨[],rfl,.nil,fun _ h=>by simp at h⟩,fun t =>?_,ft.refl _ _,fun _ _ h _=>h,hlive,fun m=>(hheld.bG m).kW fun e b he hb=>.inr ⟨m,e,he,hb⟩,hheld.cV,fun _ e h=>.inr ⟨e,h,.refl e⟩,fun m hm =>?_,fun _ _ h=>h,⟨hsince.sT,fun _ _ _ _ h=>h.elim⟩,.refl _ _⟩
    ·rcases Jn hslots t with h | ⟨h1,h2⟩
     ·simp only[aC];rw[h];simp[aV]
     ·have h3:=hsh.eG t;rw[ha1] at h3;simp only[aC] at h3 ⊢;rw[h1] at h3;have h4:=(aV.aQ (w:=W1) (D:=Dh) (p:=ay os1) (ρ:=bp ρ) (E:=Eh) (E':=E1) (fun n hn=>by rw[hEh];simp only[aE,hn,if_true]) h2).1 h3;exact aV.later hlat h4
    ·have hmi:ay os1 m=true:=by
      rw[←gk.same m];have:=hheld.bG m;cases hx:aq (cn (.loop (rec .ready none)) osb) m with
      |none=>rw[hx] at this;exact absurd this hm
      |some x=>simp[ay,hx]
     have:=gk.ot m hmi;exact ⟨Nat.le_trans hn6 this,this⟩
   have hsp:=aT.Ha cps.toList vs2 (item k) tsR _ hsr (fun p hp=>by rw[hcr];have:=zx1.1 hpn p hp;simpa using this) hrvs (by have:=hsz;simpa using this.symm);have htm:(cps.zip vs2.toArray).foldl (fun t (q:Tmp×Value)=>t.setIfInBounds q.1 q.2) a.tmps=(cps.toList.zip vs2).foldl (fun t q=>t.setIfInBounds q.1 q.2) a.tmps:=by
    rw[←Array.foldl_toList];simp
   have hx:=hround k osb hkN hIk w2 D2 E2 l (.loop (rec .ready none)) (.loop { rec .ready none with state:=.busy });rw[←hcr] at hx;have hx1:=hx cx (by rw[hcr];exact hcx) _ w2 ⟨D2,E2,hsp⟩;rw[hFr] at hx1;simp only[←htm] at hx1;rw[hcr] at hx1;refine wpIn_mono hx1 ?_;rintro e ax wx ⟨B,hq,hsx⟩;rw[←hcr] at hq hsx;cases e <;>simp only[di] at hq <;>try exact hq.elim
   simp only[Exit.then];obtain ⟨hB1,hB2⟩:=hq;obtain ⟨Dx,Ex,hsx⟩:=hsx;have hElx:Ex 1999999=some (.op l):=by
    have ho:=hsx.bG 1999999;rw[hB1] at ho;rcases hsx.yq (n:=1999999) (by rw[hcr];exact hEl2) rfl with h | h
    ·exact absurd h (tf ho)
    ·exact h
   have hLx:wx.heap[l]?=some (.loop (rec .ready none)):=by
    have ho:=hsx.bG 1999999;rw[hB1] at ho;obtain ⟨b,k1,_,k3,_⟩:=ho;rw[hElx] at k1;cases k1;exact k3
   refine ⟨_,run_beginRound hLx (by rw[hrec]),?_⟩;have hsb:=hsx.Ap (o':=.loop { rec .ready none with state:=.busy }) hB1 hElx rfl;have hy1:=hB2 cy (by rw[hcr];exact hcy) _ _ ⟨Dx,Ex,hsb⟩;rw[hFr] at hy1;rw[hcr] at hy1;refine wpIn_mono hy1 ?_;rintro e a3 w3 ⟨A3,hq3,D3,E3,hs3⟩;rw[←hcr] at hs3
   -- the end of the round
   have bh:∀ (os:List (Nat×al)) (jump:Option Code),rV (.loop { rec .ready none with state:=.busy }) A3 os→(post' (.bool jump.isNone) (cn (.loop (rec (if jump.isNone then .ready else .done) jump)) os)) →
     ∃ v w',(Instr.endRound l jump).run c.P w3=.ok v w'∧(fun e w'=>∃ v D' E' r os',e=Ending.returned v∧post' r os'∧aV w' D' E' r v∧kG (fun b=>w2.heap.size≤b∨cu E2 b) w' D' E' (aq os') ∧
      ft (fun b=>w2.heap.size≤b∨cu E2 b) w2 w'∧(∀ b o,D2 b o→D' b o)∧(∀ b o,D' b o→b<w'.heap.size)∧(∀ b o,D' b o→b<w2.heap.size→¬ cu E2 b→D2 b o) ∧
      (∀ n e,E2 n=some e→ay os' n=true→∃ e',E' n=some e'∧e.eE e')∧iu w2 D2 w') (.returned v) w':=fun os jump hbk hp=>by
    have hA3:A3.o 1999999=some (.dU (.loop { rec .ready none with state:=.busy })):=(hbk 1999999 _ (by rw[qS,if_pos rfl])).1;have hEl3:E3 1999999=some (.op l):=by
     have ho:=hs3.bG 1999999;rw[hA3] at ho;rcases hs3.yq (n:=1999999) (by rw[hcr];exact hEl2) rfl with h | h
     ·exact absurd h (tf ho)
     ·exact h
    have hL3:w3.heap[l]?=some (.loop { rec .ready none with state:=.busy }):=by
     have ho:=hs3.bG 1999999;rw[hA3] at ho;obtain ⟨b,k1,_,k3,_⟩:=ho;rw[hEl3] at k1;cases k1;exact k3
    have hend:=run_endRound (P:=c.P) jump hL3;have erec:({ rec .ready none with state:=if jump.isNone then LoopState.ready else .done,pending:=jump } : Loop)=rec (if jump.isNone then .ready else .done) jump:=by rw[hrec]
    have hend':(Instr.endRound l jump).run c.P w3=.ok (.bool jump.isNone) (w3.putObj l (.loop (rec (if jump.isNone then .ready else .done) jump))):=by
     rw[hend];rw[hrec]
    have hs4:=hs3.Ap (o':=.loop (rec (if jump.isNone then .ready else .done) jump)) hA3 hEl3 rfl;rw[hcr] at hs4;obtain ⟨D',E',_,_,_,q1,q2,q3,q4,q5,q6⟩:=hs4.zb (adg hbk _);exact ⟨_,_,hend',_,D',E',.bool jump.isNone,_,rfl,hp,⟨[.bool jump.isNone],by simp[bm,I.isAgg],by simp[ai]⟩,q1,q2,q3,q4,q5,q6⟩
   cases e with
   |normal =>
    obtain ⟨os,hbk,hin⟩:=hq3;exact bh os none hbk (hpost _ _ (.inl ⟨rfl,by rw[hJ'];exact ⟨os,rfl,hin⟩⟩))
   |ret =>
    obtain ⟨os,hbk,hin⟩:=hq3;exact bh os (some .ret) hbk (hpost _ _ (.inr ⟨rfl,by rw[hIx'];exact ⟨none,os,rfl,hin⟩⟩))
   |exit id =>
    obtain ⟨os,hbk,hin⟩:=hq3;exact bh os (some (.exit id)) hbk (hpost _ _ (.inr ⟨rfl,by rw[hIx'];exact ⟨some id,os,rfl,hin⟩⟩))
   |goto t=>exact hq3.elim
   |panic ch=>exact hq3.elim
   |outgrown=>exact hq3.elim
  -- the call
  have hargs:fe (aV W1 D E1) (.raw yv::caps0) (yv::vs):=by
   exact .cons ⟨[yv],by simp[bm,I.isAgg],by rw[hyv];exact ⟨rfl,rfl⟩⟩ (rC (hup caps0 vs hvs))
  have hus:=hand.use (ρ:=ρ) hs1 false (fun h=>h.mono) ⟨(fun h=>by cases h),fun _=>by rw[←hDh,←hEh];exact hyok⟩ hgv1 (Lr hc0 fun x hx=>⟨j5 (fun n hn=>by rw[hos1,lG,hn];simp) _ (hcp x hx).1,(hcp x hx).2⟩)
   (fun r os' hp=>by
    have gg:gv os1 os':=by
     rcases hp.2 with h | h
     ·exact lD _ _ h
     ·exact goodx _ h
    refine ⟨fun m x hx=>⟨(gg.ok m x hx).1,(gg.ok m x hx).2,fun h=>by cases h⟩,fun m m' h1 h2=>hgv1.inj m m' (by rw[←gg.same];exact h1) (by rw[←gg.same];exact h2),fun m hm=>by rw[gg.same];exact hm,fun m h1 h2=>(by rw[gg.same,h2] at h1;cases h1),(by rw[hp.1];simp[I.only,I.bY]),fun h=>by cases h⟩) hargs
  have ecl : #[yv]++vs.toArray=(yv::vs).toArray:=by simp
  rw[ecl];refine CallsIn.mono (callsIn_wide.2 hus) ?_;rintro e w3 ⟨v,r,os',D2,E2,rfl,hp,hs2,_,hE2⟩;have key:∀ (o3:Obj) (osb:List (Nat×al)),os'=cn o3 osb→qJ o3=true→E2 999999=some (.op l)∧w3.heap[l]?=some o3∧∀ o4,qJ o4=true→bP c (aC ts (dp ρ osb++os0)) a1 (w3.putObj l o4):=fun o3 osb he h3=>by
   subst he;have hn2:E2 999999=some (.op l):=by
    obtain ⟨e',h1,h2⟩:=hE2 1999999 (.op l) (by rw[←hEh];exact hEl) (by rw[lG];simp);rw[hρ] at h1;rw[h1,h2.eq rfl]
   have eos:dp ρ (cn o3 osb)=(999999,.dU o3)::dp ρ osb:=by simp only[cn,dp,zz9,hρ,al.aQ]
   rw[eos] at hs2;have ha:(aC ts ((999999,al.dU o3)::dp ρ osb++(999999,.dU (.loop (rec .ready none)))::os0)).o 999999=some (.dU o3):=by simp[aC,aq]
   have hgb:∀ m,ay osb m=true→bp ρ m≠999999:=fun m hm e=>by
    have h5:ay (cn o3 osb) m=true:=by rw[lG,hm];simp
    have g5:gv os1 (cn o3 osb):=by
     rcases hp.2 with h | h
     ·exact lD _ _ h
     ·exact goodx _ h
    have h6:=hgv1.inj m 1999999 (by rw[←g5.same];exact h5) isrec (by rw[hρ];exact e);subst h6;have h7:gv osb0 osb:=by
     rcases hp.2 with h | h
     ·rw[hI'] at h;obtain ⟨osb',h8,h9⟩:=h;simp only[cn,zx6] at h8;rw[h8.2];exact hI _ _ h9
     ·rw[hIx'] at h;obtain ⟨e,osb',h8,h9⟩:=h;simp only[cn,zx6] at h8;rw[h8.2];exact hIx _ _ h9
    rw[h7.same,h19] at hm;cases hm
   refine ⟨hn2,?_,fun o4 h4 =>?_⟩
   ·have ho:=hs2.bG 999999;rw[ha] at ho;obtain ⟨b,k1,_,k3,_⟩:=ho;rw[hn2] at k1;cases k1;exact k3
   ·have h5:=(hs2.Ap (o':=o4) ha hn2 h4).R2 hn2;have hst:(⟨((aC ts ((999999,al.dU o3)::dp ρ osb++(999999,.dU (.loop (rec .ready none)))::os0)).aM 999999 (.dU o4)).t,fun m=>if m=999999 then none else
      ((aC ts ((999999,al.dU o3)::dp ρ osb++(999999,.dU (.loop (rec .ready none)))::os0)).aM 999999 (.dU o4)).o m⟩:af)=aC ts (dp ρ osb++os0):=by
     simp only[aC,af.aM]
     congr 1
     funext m
     by_cases hm:m=999999
     ·subst hm;simp only[if_true,s7];cases hq:pre ρ osb 999999 with
      |none=>exact hfree.symm
      |some k=>exact absurd (j6 hq).2 (hgb k (j6 hq).1)
     ·simp only[if_neg hm,zz8,aq,s7]
    rw[hst] at h5;exact ⟨D2,_,h5⟩
  rcases hp.2 with h | h
  ·rw[hI'] at h;obtain ⟨osb,he,hin⟩:=h;obtain ⟨k1,k2,k3⟩:=key _ osb he rfl;refine ⟨none,_,(by have:=run_endLoop (P:=c.P) k2 (by rw[hrec];simp);rw[hrec] at this;exact this),_,hdone osb hin,?_⟩;have:=k3 (.loop { rec .ready none with state:=.exhausted }) rfl;rw[ha1] at this;rw[hrec] at this;exact this
  ·rw[hIx'] at h;obtain ⟨e,osb,he,hin⟩:=h;obtain ⟨k1,k2,k3⟩:=key _ osb he rfl;refine ⟨some (vt e),_,(by have:=run_endLoop (P:=c.P) k2 (by rw[hrec];simp);rw[hrec] at this;exact this),?_⟩;have:=k3 (.loop { rec .done (some (vt e)) with state:=.exhausted }) rfl;rw[ha1] at this;rw[hrec] at this;have hq:vB c Q (yg e) { a with defers := { target:=.collected w.heap.size,args := #[] } :: a.defers } _:=⟨_,hexit e osb hin,this⟩
   cases e with
   |none=>exact wpIn_ret hq
   |some id=>exact wpIn_exit hq
end
end Go.Abs
namespace Go.Proofs.YtoffnnjbplgnaaaGreatDoor
open Go Go.Abs
open Go.Abs.Enc (enc)
theorem ag0{out:List ah}{s:Int}{z:Nat}{x:List UInt8}{ao:List (List UInt8)}(h:eb bj s x=none):fL (eb bj) dQ out s z (x::ao)=(out,z):=by rw[fL,h]
theorem ag1{out:List ah}{s:Int}{z:Nat}{x:List UInt8}{ao:List (List UInt8)}{q:ah×Int}(h:eb bj s x=some q):fL (eb bj) dQ out s z (x::ao)=if dQ out q.1=true then fL (eb bj) dQ (out++[q.1]) q.2 (z+x.length) ao else (out,z):=by rw[fL,h]
structure r0 (t:List UInt8) (k:Nat) (out:List ah) (s:Int) (z:Nat):Prop where
 eq:fL (eb bj) dQ [] 1 0 (dZ t)=fL (eb bj) dQ out s z ((dZ t).drop k)
 sum:0≤s∧s<1000003
 ok:∀ r∈out,bj r=true
 len:out.length≤60
 size:z+(gG k t).length=t.length
structure ub (t:List UInt8) (out:List ah) (z:Nat):Prop where
 eq:fL (eb bj) dQ [] 1 0 (dZ t)=(out,z)
 len:out.length≤60
 size:z≤t.length
theorem agw{t:List UInt8}{k:Nat}(hk:k<(dZ t).length):∃ w v,ec 10 (gG k t)=some (w,v)∧(dZ t)[k]=w++[10]∧gG (k+1) t=v∧gG k t=w++10::v:=by
 have hrd:=z8 (Nat.le_of_lt hk);cases h:ec 10 (gG k t) with
 |none=>rw[ze h] at hrd;have:=congrArg List.length hrd;simp at this;omega
 |some p =>
  obtain ⟨w,v⟩:=p;refine ⟨w,v,rfl,?_,Aa h,(uK h).1⟩;rw[vC h,zu3 hk] at hrd;exact (List.cons.inj hrd).1.symm
theorem G4(t:List UInt8):r0 t 0 [] 1 0:=⟨rfl,by omega,by simp,by simp,by simp[gG]⟩
theorem afS{t:List UInt8}{out:List ah}{s:Int}{z:Nat}(h:r0 t (dZ t).length out s z):ub t out z :=
 ⟨by rw[h.eq,List.drop_length,fL],h.len,by have:=h.size;omega⟩
theorem EF{t:List UInt8}{out:List ah}{z:Nat}(h:ub t out z):gW bj dQ t=(out,t.take z):=by rw[gW,h.eq]
theorem aeF{out:List ah}{r:ah}(h:dQ out r=true):out.length<60:=by
 simp only[dQ,zz0,decide_eq_true_eq] at h;exact h.1
theorem Bb(t:List UInt8)(ht:t.length≤281474976710656):aP Tryz.prog 15 [enc (aH.of t)] (.tuple [enc (gW bj dQ t).1,enc (aH.of (gW bj dQ t).2)]):=by
 refine aP.bM Tryz.func15 MJ Ol P0 (t7 rfl) (fun hwf W0 bI E1 =>?_);simp only[Cx,HD,bC];clear hwf;have h69:=KF t;have R:=y6 @tM (y6 @bA aw)
 repeat' ((first |(with_reducible refine .guard (fun hb =>?_) (fun hb =>?_) <;>try simp only[hb])|refine ab.aA (by decide +kernel) rfl fun K hK =>?_|(refine .av [0,2,3,4,5,6,7,8,9,10,12,13,28] hK ?_;clear hK K)|(with_reducible refine .done (hK _ ?_);clear hK K)|refine ab.of rfl ?_|(with_reducible refine ar.az (fun h =>?_) (fun h =>?_) <;>try simp only[h])) <;>try simp only[aB,R,simprocAttr])
 all_goals clear R
 refine .bG false [] [] [enc (aH.of t)] _ rfl h69 ⟨fun m y hy=>by simp[aq] at hy,fun m m' h=>by simp[ay,aq] at h⟩ ⟨.inl ⟨(gz _ _).symm,bg _ _,dH _⟩,trivial⟩ ?_ ?_
 ·rintro r os' ⟨rfl,rfl⟩;refine ⟨fun m y hy =>?_,fun m m' _ _ h=>h,fun m hm=>by simp[ay,aq] at hm,fun m hm _ =>?_,⟨rfl,fun h=>by cases h⟩⟩
  ·simp only[aq] at hy;split at hy
   ·cases hy;exact ⟨bg _ _,rfl,fun h=>by cases h⟩
   ·cases hy
  ·simp only[ay,aq] at hm;split at hm
   ·rename_i e;subst e;exact ⟨rfl,by decide⟩
   ·simp at hm
 rintro r os' ⟨rfl,rfl⟩
 try simp only[dp,zz9,zy9,al.aQ,gz,bp,I.aQ,I.dq,zz8,zy3,aZ,simprocAttr]
 refine .done (hK _ ?_);clear hK K;refine ab.sub (bt.K3 4 80 50 8 8 [] _ rfl rfl rfl (B:=aC [(0,enc (aH.of t)),(4,.ptr 4 []),(5,.ptr 5 []),(6,.ptr 6 []),(12,.func 122 [.ptr 1 []])] [(4,.box (.own 80 0)),(80,.b6 50 8 []),(1,.box (enc (aH.of t))),(5,.box (.int .i64 1)),(6,.box (.int .i64 0))]) ?_) ?_
 ·simp only[ez];refine bt.cF ?_ ?_ ?_ ?_ <;>simp[bT,bZ,bU,bB,ay,bJ,dz,I.only,I.bY,al.only,bg]
 refine ab.block (ab.agF (osb0:=eA t [] 1 0) (tsR:=[(4,.ptr 1000004 []),(5,.ptr 1000005 []),(6,.ptr 1000006 [])]) (ρ:=[(1999999,999999),(1000001,1),(1000004,4),(1000080,80),(1000005,5),(1000006,6)]) (g:=122) (caps0:=[.ptr 1 []]) (caps:=[.ptr 1000001 []]) (N:=(dZ t).length) (item:=qK t)
  (vl t (r0 t)) (vm t (r0 t)) (sN (ub t)) ⟨rfl,rfl⟩ (t7 rfl) (by simp only[aZ,simprocAttr]) (by simp[I.aQ,bp]) ?_ Dj (aea ht (G4 t)) (fun _=>rfl) rfl rfl rfl (fun o=>⟨?_,?_⟩) ?_ ?_ ?_ ?_ ?_ ?_ ?_)
 ·intro x hx;simp only[zy7] at hx;subst hx;exact ⟨rfl,rfl⟩
 ·intro n x hx;simp only[cn,eA,aq] at hx
  repeat' split at hx
  all_goals first | (cases hx;done) | (subst_vars;simp only[v6] at hx;subst hx;simp[cn,eA,ay,bp,aq,al.aQ,I.aQ,I.dq,gz,al.only,I.only,I.bY,bg,al.fm])
 ·intro a b ha hb;simp only[cn,eA,ay,aq] at ha hb
  repeat' split at ha
  all_goals first | (simp at ha;done) | skip
  all_goals (repeat' split at hb)
  all_goals first | (simp at hb;done) | (subst_vars;simp[bp])
 ·simp[oN,bJ,I.aQ,bp,I.only,eA,ay,aq]
 ·rintro k os ⟨out,s,z,rfl,_⟩;exact pV ..
 ·rintro e os ⟨_,u,out,s,z,rfl,_⟩;exact pV ..
 ·exact ⟨[],1,0,rfl,G4 t⟩
 ·rintro k osb hk ⟨out,s,z,rfl,hP⟩ W1 D1 E1 ah4 o1 o2;obtain ⟨w,v,hcut,hL,hnext,hrest⟩:=agw hk;have lE:qK t k=[enc (aH.of (w++[10]))]:=by
   rw[qK,zz2,zz5 hk,Option.getD_some,hL]
  have hdrop:(dZ t).drop k=(w++[10])::(dZ t).drop (k+1):=by rw[zu3 hk,hL]
  have hsz:=hP.size;rw[hrest] at hsz;have hll:(w++[10]).length+v.length=(w++10::v).length:=by simp;omega
  generalize hx:w++[10]=line at lE hdrop hll;have hlen:z+line.length+v.length=t.length:=by omega
  have h70:=Bk hP.sum (t:=line) (by omega);have hlt:=rF line;have hwz:IntKind.i64.wrap ((z:Int)+(line.length:Int))=((z+line.length:Nat):Int):=by rw[eX _ (by omega) (by omega)];rfl
  have hfo:nh out.length (some (.b6 50 8 (out.map enc)))=some (enc out):=uT 8 rfl rfl;have hpe:=hP.eq;rw[hdrop] at hpe;generalize hu:gG k t=u at *;rw[lE];simp only[we,cn,eA];have R:=y6 @bA aw
  repeat' ((first |(with_reducible refine .guard (fun hb =>?_) (fun hb =>?_) <;>try simp only[hb])|refine ab.aA (by decide +kernel) rfl fun K hK =>?_|(refine .av [0,2,3,4,5,6,7,8,9,10,12,13,28] hK ?_;clear hK K)|(with_reducible refine .done (hK _ ?_);clear hK K)|refine ab.of rfl ?_|(with_reducible refine ar.az (fun h =>?_) (fun h =>?_) <;>try simp only[h])) <;>try simp only[aB,R,simprocAttr])
  all_goals clear R
  refine ⟨by simp[],?_⟩;have stop:fL (eb bj) dQ [] 1 0 (dZ t)=(out,z)→∀ ts z1 z2 z3,IU o2 (vm t (r0 t) k) (sN (ub t)) (.exit 0)
    (aC ts ([(8,z1),(8,z2),(1999999,.dU o2),(1999999,z3)]++eA u out s z)):=fun h ts z1 z2 z3=>by
   refine ⟨eA u out s z,?_,rfl,u,out,s,z,rfl,h,hP.len,by omega⟩;intro n x hx;simp only[cn,eA,aq] at hx
   (repeat' split at hx) <;>first
    |(cases hx;done)
    |(subst_vars;simp only[v6] at hx;subst hx;simp[cn,eA,ay,aC,aq,al.only,I.only,bg,al.fm,oE])
  cases hq:eb bj s line with
  |none =>
   rw[ju,hq,mO] at h70;rw[ag0 hq] at hpe;have R:=y6 @fB (y6 @fb (y6 @bA aw))
   repeat' ((first |(with_reducible refine .guard (fun hb =>?_) (fun hb =>?_) <;>try simp only[hb])|refine ab.aA (by decide +kernel) rfl fun K hK =>?_|refine .lead _ (h70) ?_|(refine .av [0,2,3,4,5,6,7,8,9,10,12,13,28] hK ?_;clear hK K)|(with_reducible refine .done (hK _ ?_);clear hK K)|refine ab.of rfl ?_|(with_reducible refine ar.az (fun h =>?_) (fun h =>?_) <;>try simp only[h])) <;>try simp only[aB,R,simprocAttr])
   all_goals clear R
   exact stop hpe _ _ _ _
  |some q =>
   obtain ⟨r,n⟩:=q;obtain ⟨hok,_,hns⟩:=IF bj hq;simp only at hok hns;rw[ju,hq,mO] at h70;rw[ag1 hq] at hpe;simp only at hpe;have h71:=Bl out r (by have:=hP.len;omega) (fun q hq=>lM (hP.ok q hq)) (lM hok);cases hn:dQ out r
   ·rw[hn] at h71 hpe;rw[if_neg (by decide)] at hpe;have R:=y6 @hfo (y6 @fB (y6 @fb (y6 @bA aw)))
    repeat' ((first |(with_reducible refine .guard (fun hb =>?_) (fun hb =>?_) <;>try simp only[hb])|refine ab.aA (by decide +kernel) rfl fun K hK =>?_|refine .lead _ (h70) ?_|refine .flat _ (h71) rfl ?_|(refine .av [0,2,3,4,5,6,7,8,9,10,12,13,28] hK ?_;clear hK K)|(with_reducible refine .done (hK _ ?_);clear hK K)|refine ab.of rfl ?_|(with_reducible refine ar.az (fun h =>?_) (fun h =>?_) <;>try simp only[h])) <;>try simp only[aB,R,simprocAttr])
    all_goals clear R
    exact stop hpe _ _ _ _
   ·have hol:=aeF hn;rw[hn] at h71 hpe;rw[if_pos rfl] at hpe;have stOwn:∀ (A:af) n b m k m' k' rest,de A none n [] b (.own m k) rest (some (.own m' k'))=au rest (A.aM n (.box (.own m k))) :=
     fun _ _ _ m k m' k' _=>by rw[dS (s:=none) (v:=.own m k) (old:=.own m' k') rfl rfl rfl,ez]
    have hbs:iO 8 (some [enc r])=some (enc [r]):=si 8 r rfl;have hap:=fun (A:af) d rest=>Li (A:=A) (d:=d) 50 8 72 1000080 (l:=out.length) (es:=out) (ys:=[r]) (rest:=rest) rfl rfl (by simp) (by simp[maxLen];omega) (by simp;omega);have R:=y6 @hfo (y6 @hbs (y6 @hap (y6 @stOwn (y6 @hlt (y6 @hwz (y6 @fB (y6 @fb (y6 @tM (y6 @bA aw)))))))))
    repeat' ((first |(with_reducible refine .guard (fun hb =>?_) (fun hb =>?_) <;>try simp only[hb])|refine ab.aA (by decide +kernel) rfl fun K hK =>?_|refine .lead _ (h70) ?_|refine .flat _ (h71) rfl ?_|(refine .av [0,2,3,4,5,6,7,8,9,10,12,13,28] hK ?_;clear hK K)|(with_reducible refine .done (hK _ ?_);clear hK K)|refine ab.of rfl ?_|(with_reducible refine ar.az (fun h =>?_) (fun h =>?_) <;>try simp only[h])) <;>try simp only[aB,R,simprocAttr])
    all_goals clear R
    refine ⟨eA u (out++[r]) n (z+line.length),?_,out++[r],n,z+line.length,by rw[hu],⟨hpe,?_,?_,?_,?_⟩⟩
    ·intro n x hx;simp only[cn,eA,aq] at hx
     (repeat' split at hx) <;>first
      |(cases hx;done)
      |(subst_vars;simp only[v6] at hx;subst hx;simp[cn,eA,ay,aC,aq,al.only,I.only,bg,al.fm,oE,-List.map_append])
    ·rw[hns];exact lW hP.sum _
    ·intro q hq;rcases zy6.1 hq with h1 | h1
     ·exact hP.ok q h1
     ·rw[zy7.1 h1];exact hok
    ·simp;omega
    ·rw[hnext];exact hlen
 ·rintro os ⟨out,s,z,rfl,hP⟩;have hF:=afS hP;have hfo:nh out.length (some (.b6 50 8 (out.map enc)))=some (enc out):=uT 8 rfl rfl;have hsh:=tF (aH.of t) (j:=z) (by rw[aH.eJ];exact hF.size);rw[aH.eJ] at hsh;rw[EF hF];simp only[eA,dp,zz9,zy9,bp,al.aQ,I.aQ,gz,jt,di,mc,reduceIte,Nat.reduceEqDiff,zz8,zy3];have R:=y6 @hfo (y6 @hsh (y6 @bA aw))
  repeat' ((first |(with_reducible refine .guard (fun hb =>?_) (fun hb =>?_) <;>try simp only[hb])|refine ab.aA (by decide +kernel) rfl fun K hK =>?_|(refine .av [0,2,3,4,5,6,7,8,9,10,12,13,28] hK ?_;clear hK K)|(with_reducible refine .done (hK _ ?_);clear hK K)|refine ab.of rfl ?_|(with_reducible refine ar.az (fun h =>?_) (fun h =>?_) <;>try simp only[h])) <;>try simp only[aB,R,simprocAttr])
  all_goals clear R
  all_goals rfl
 ·rintro e os ⟨rfl,u,out,s,z,rfl,hF⟩;have hfo:nh out.length (some (.b6 50 8 (out.map enc)))=some (enc out):=uT 8 rfl rfl;have hsh:=tF (aH.of t) (j:=z) (by rw[aH.eJ];exact hF.size);rw[aH.eJ] at hsh;rw[EF hF];simp only[eA,dp,zz9,zy9,bp,al.aQ,I.aQ,gz,jt,yg,di,mc,reduceIte,Nat.reduceEqDiff,zz8,zy3];have R:=y6 @hfo (y6 @hsh (y6 @bA aw))
  repeat' ((first |(with_reducible refine .guard (fun hb =>?_) (fun hb =>?_) <;>try simp only[hb])|refine ab.aA (by decide +kernel) rfl fun K hK =>?_|(refine .av [0,2,3,4,5,6,7,8,9,10,12,13,28] hK ?_;clear hK K)|(with_reducible refine .done (hK _ ?_);clear hK K)|refine ab.of rfl ?_|(with_reducible refine ar.az (fun h =>?_) (fun h =>?_) <;>try simp only[h])) <;>try simp only[aB,R,simprocAttr])
  all_goals clear R
  all_goals rfl
def dD(a n:Int):Int:=(IntKind.i64.wrap (a.tmod n+n)).tmod n
theorem nW(a n:Int)(hn:n≠0):aP Tryz.prog 28 [enc a,enc n] (enc (dD a n)):=by
 refine aP.bM Tryz.func28 M4 OG Qi (t7 rfl) (fun hwf W0 bI E1 =>?_);simp only[CM,HW,bC,zz4];clear hwf;have R:=y6 @hn aw
 repeat' ((first |refine ab.aA (by decide +kernel) rfl fun K hK =>?_|(refine .av [0,1,4] hK ?_;clear hK K)|(with_reducible refine .done (hK _ ?_);clear hK K)|refine ab.of rfl ?_|(with_reducible refine ar.az (fun h =>?_) (fun h =>?_) <;>try simp only[h])) <;>try simp only[aB,R,simprocAttr])
 all_goals clear R
 all_goals rfl
theorem aes{a n:Int}(ha:-9223372036854775808≤a∧a≤9223372036854775807)(hn:0<n∧n≤4611686018427387904):dD a n=a%n:=by
 have h1:-n<a.tmod n∧a.tmod n<n:=⟨Int.lt_tmod_of_pos a hn.1,Int.tmod_lt_of_pos a hn.1⟩
 have h2:(a.tmod n+n).tmod n=a%n:=by
  rw[Int.tmod_eq_emod_of_nonneg (by omega),Int.add_emod_right];have:=Int.tmod_add_mul_tdiv a n
  conv=>rhs;rw[←this]
  rw[Int.add_mul_emod_self_left]
 have h3:=Int.emod_nonneg a (show n≠0 by omega);have h4:=Int.emod_lt_of_pos a hn.1;rw[dD,eX _ (by omega) (by omega),h2]
def dL.small(r:dL):Prop:=r.bD.length≤140737488351232∧r.cT.length≤140737488351232
def b7.small(r:b7):Prop:=r.cd.small∧r.copy.small
def dL.all(r:dL):List UInt8:=r.bD++r.cT
theorem dL.uk{r:dL}(h:r.small):r.all.length≤281474976710656:=by
 have:=h.1;have:=h.2;rw[dL.all,zz1];omega
theorem lA:I.agg [.ak ⟨#[]⟩,.ak ⟨#[]⟩]=enc (⟨[],[]⟩:dL):=rfl
theorem DZ:I.agg [.agg [.ak ⟨#[]⟩,.ak ⟨#[]⟩],.agg [.ak ⟨#[]⟩,.ak ⟨#[]⟩]]=enc (⟨⟨[],[]⟩,⟨[],[]⟩⟩:b7):=rfl
theorem pf:I.agg [enc (⟨[],[]⟩:dL),enc (⟨[],[]⟩:dL)]=enc (⟨⟨[],[]⟩,⟨[],[]⟩⟩:b7):=rfl
theorem fD:(∀ A n b rest (q r:dL),de A (some 2) n [] b (enc q) rest (some (enc r))=au rest (A.aM n (.box (enc q))))∧(∀ A n b rest (q r:b7),de A (some 4) n [] b (enc q) rest (some (enc r))=au rest (A.aM n (.box (enc q)))) ∧
  (∀ A n rest (q r:dL) (s:b7),de A (some 2) n [0] (enc s) (enc q) rest (some (enc r))=au rest (A.aM n (.box (enc (⟨q,s.copy⟩:b7)))))∧(∀ A n rest (q r:dL) (s:b7),de A (some 2) n [1] (enc s) (enc q) rest (some (enc r))=au rest (A.aM n (.box (enc (⟨s.cd,q⟩:b7))))) :=
 ⟨fun A n b rest q r=>by rw[dS (dH _) (by rw[eQ];rfl) ((cM _).trans (cM _).symm),ez],
  fun A n b rest q r=>by rw[dS (dH _) (by rw[eQ];rfl) ((cM _).trans (cM _).symm),ez],
  fun A n rest q r s=>by rw[dS (dH _) (by rw[eQ];rfl) ((cM _).trans (cM _).symm)];rfl,
  fun A n rest q r s=>by rw[dS (dH _) (by rw[eQ];rfl) ((cM _).trans (cM _).symm)];rfl⟩
theorem mZ:(∀ x:List UInt8,fi [.ak ⟨#[]⟩,.ak ⟨#[]⟩] [(0,enc (aH.of x))]=some [enc (aH.of x),enc (aH.of [])])∧(∀ x:List UInt8,I.agg [enc (aH.of x),enc (aH.of [])]=enc (⟨x,[]⟩:dL)) ∧
  (∀ p q:dL,fi [.agg [.ak ⟨#[]⟩,.ak ⟨#[]⟩],.agg [.ak ⟨#[]⟩,.ak ⟨#[]⟩]] [(0,enc p),(1,enc q)]=some [enc p,enc q])∧(∀ p q:dL,I.agg [enc p,enc q]=enc (⟨p,q⟩:b7)) ∧
  (∀ p q:dL,fi [enc (⟨[],[]⟩:dL),enc (⟨[],[]⟩:dL)] [(0,enc p),(1,enc q)]=some [enc p,enc q]) :=
 ⟨fun _=>rfl,fun _=>rfl,fun _ _=>rfl,fun _ _=>rfl,fun _ _=>rfl⟩
theorem rY(r:dL)(h:r.small):aP Tryz.prog 73 [enc r] (enc (aH.of r.all)):=by
 refine aP.bM Tryz.func73 Nn OW Qz (t7 rfl) (fun hwf W0 bI E1 =>?_);simp only[C2,If,bC];clear hwf;have ha:=fK r.bD r.cT (by have:=h.1;have:=h.2;omega);have R:=y6 @ha (y6 @bA aw)
 repeat' ((first |refine ab.aA (by decide +kernel) rfl fun K hK =>?_|(refine .av [0,1,2] hK ?_;clear hK K)|(with_reducible refine .done (hK _ ?_);clear hK K)|refine ab.of rfl ?_|(with_reducible refine ar.az (fun h =>?_) (fun h =>?_) <;>try simp only[h])) <;>try simp only[aB,R,simprocAttr])
 all_goals clear R
 all_goals rfl
def gh(r:b7):b7:=⟨⟨r.cd.all,[]⟩,⟨r.cd.all,[]⟩⟩
theorem Bf(r:b7)(h:r.small):aP Tryz.prog 20 [enc r] (enc (gh r)):=by
 refine aP.bM Tryz.func20 MZ OC Qe (t7 rfl) (fun hwf W0 bI E1 =>?_);simp only[c20,HS,bC];clear hwf;have f:=rY r.cd h.1;have R:=y6 @mZ (y6 @lA (y6 @pf (y6 @fD (y6 @bA aw))))
 repeat' ((first |refine ab.aA (by decide +kernel) rfl fun K hK =>?_|refine .flat _ (f) rfl ?_|(refine .av [0,1,2,3] hK ?_;clear hK K)|(with_reducible refine .done (hK _ ?_);clear hK K)|refine ab.of rfl ?_|(with_reducible refine ar.az (fun h =>?_) (fun h =>?_) <;>try simp only[h])) <;>try simp only[aB,R,simprocAttr])
 all_goals clear R
 all_goals rfl
def kN(r:b7)(copy:Bool):b7:=if copy then ⟨r.cd,⟨[],[]⟩⟩ else ⟨⟨[],[]⟩,r.copy⟩
theorem xd(r:b7)(b:Bool):aP Tryz.prog 24 [enc r,enc b] (enc (kN r b)):=by
 refine aP.bM Tryz.func24 M2 OE Qg (t7 rfl) (fun hwf W0 bI E1 =>?_);simp only[CK,HU,bC,zz4];clear hwf;cases b
 ·have R:=y6 @lA (y6 @pf (y6 @fD (y6 @bA aw)))
  repeat' ((first |refine ab.aA (by decide +kernel) rfl fun K hK =>?_|(refine .av [0,1,2,4,5] hK ?_;clear hK K)|(with_reducible refine .done (hK _ ?_);clear hK K)|refine ab.of rfl ?_|(with_reducible refine ar.az (fun h =>?_) (fun h =>?_) <;>try simp only[h])) <;>try simp only[aB,R,simprocAttr])
  all_goals clear R
  all_goals rfl
 ·have R:=y6 @lA (y6 @pf (y6 @fD (y6 @bA aw)))
  repeat' ((first |refine ab.aA (by decide +kernel) rfl fun K hK =>?_|(refine .av [0,1,2,4,5] hK ?_;clear hK K)|(with_reducible refine .done (hK _ ?_);clear hK K)|refine ab.of rfl ?_|(with_reducible refine ar.az (fun h =>?_) (fun h =>?_) <;>try simp only[h])) <;>try simp only[aB,R,simprocAttr])
  all_goals clear R
  all_goals rfl
def iY(r:b7):b7×List ah:=(⟨⟨(oF bj dQ r.cd.all r.copy.all).2,[]⟩,⟨(oF bj dQ r.cd.all r.copy.all).2,[]⟩⟩,(oF bj dQ r.cd.all r.copy.all).1)
theorem Jh(t:List UInt8):(gW bj dQ t).2.length≤t.length:=by rw[gW];simp;omega
theorem oS(r:b7)(h:r.small):aP Tryz.prog 18 [enc r] (.tuple [enc (iY r).1,enc (iY r).2]):=by
 refine aP.bM Tryz.func18 MW Oz Qb (t7 rfl) (fun hwf W0 bI E1 =>?_);simp only[CG,HP,bC];clear hwf;have f1:=rY r.cd h.1;have f2:=rY r.copy h.2;have g1:=Bb r.cd.all (dL.uk h.1);have g2:=Bb r.copy.all (dL.uk h.2);have l1:=Jh r.cd.all;have l2:=Jh r.copy.all;have:=dL.uk h.1;have:=dL.uk h.2;have h74:=fun (x:List UInt8) (hx:x.length≤281474976710656)=>KG (aH.of x) (by rw[aH.eJ];exact hx);simp only[iY,oF];generalize gW bj dQ r.cd.all=p at *;generalize gW bj dQ r.copy.all=q at *;by_cases hlt:p.1.length<q.1.length
 ·have hc:decide ((q.1.length:Int)>(p.1.length:Int))=true:=decide_eq_true (by omega);have h74':=h74 q.2 (by omega);simp only[if_pos hlt];have R:=y6 @hc (y6 @mZ (y6 @lA (y6 @pf (y6 @fD (y6 @bA aw)))))
  repeat' ((first |refine ab.aA (by decide +kernel) rfl fun K hK =>?_|refine .flat _ (f1) rfl ?_|refine .lead _ (g1) ?_|refine .flat _ (f2) rfl ?_|refine .lead _ (g2) ?_|refine .flat _ (h74') rfl ?_|(refine .av [0,1,2,3,4,5,6,7,8,27] hK ?_;clear hK K)|(with_reducible refine .done (hK _ ?_);clear hK K)|refine ab.of rfl ?_|(with_reducible refine ar.az (fun h =>?_) (fun h =>?_) <;>try simp only[h])) <;>try simp only[aB,R,simprocAttr])
  all_goals clear R
  all_goals rfl
 ·have hc:decide ((q.1.length:Int)>(p.1.length:Int))=false:=decide_eq_false (by omega);have h74':=h74 p.2 (by omega);simp only[if_neg hlt];have R:=y6 @hc (y6 @mZ (y6 @lA (y6 @pf (y6 @fD (y6 @bA aw)))))
  repeat' ((first |refine ab.aA (by decide +kernel) rfl fun K hK =>?_|refine .flat _ (f1) rfl ?_|refine .lead _ (g1) ?_|refine .flat _ (f2) rfl ?_|refine .lead _ (g2) ?_|refine .flat _ (h74') rfl ?_|(refine .av [0,1,2,3,4,5,6,7,8,27] hK ?_;clear hK K)|(with_reducible refine .done (hK _ ?_);clear hK K)|refine ab.of rfl ?_|(with_reducible refine ar.az (fun h =>?_) (fun h =>?_) <;>try simp only[h])) <;>try simp only[aB,R,simprocAttr])
  all_goals clear R
  all_goals rfl
end Go.Proofs.YtoffnnjbplgnaaaGreatDoor
namespace Go.Abs
open Go Go.RowKit Go.ChangeShapes
open Enc (enc)
def Bw(P:Program)(u:TypeId)(n:Nat)(S:I→Prop):Prop:=P.cellsOf u=n ∧
 ∀ {H:Type} {enc0:TypeId×Value→H} {w:World} {fuel:Nat} {cs:List Value} {x:DataW H×List MemPlace},DataW.trod enc0 P w 0 (fun _=>true) true fuel u cs=some x→(∀ k∈x.1.weights P u,k≤reachBytes)→∃ v,S v∧ai w (kK w) cq v cs
theorem lh.br{P:Program}{u:TypeId}{α:Type}[Enc α]{B:α→Prop}(h:lh P u α B):Bw P u (Enc.sz α) fun v=>∃ a:α,B a∧v=enc a :=
 ⟨h.cells,fun hx hw=>by obtain ⟨a,hB,ha⟩:=h.oG hx hw;exact ⟨enc a,⟨a,hB,rfl⟩,ha⟩⟩
def tg(P:Program):Nat→List (TypeId×Nat)→List (Nat×(I→Prop))→Prop
 |_,[],[]=>True
 |o,(u,off)::l,(n,S)::Ss=>off=o∧Bw P u n S∧tg P (o+n) l Ss
 |_,_,_=>False
theorem Ei{P:Program}{H:Type}{enc0:TypeId×Value→H}{w:World}{m:Nat}{cs:List Value} : ∀ (l:List (TypeId×Nat)) (Ss:List (Nat×(I→Prop))) (o:Nat),tg P o l Ss→cs.length=o+tN Ss →
  (∀ (i:Nat) (u:TypeId) (off:Nat),l[i]?=some (u,off)→∃ y,DataW.trod enc0 P w 0 (fun _=>true) true m u ((cs.drop off).take (P.cellsOf u))=some y∧∀ k∈y.1.weights P u,k≤reachBytes)→∃ vs,qk Ss vs∧aK w (kK w) cq vs (cs.drop o)
 | [],[],o,_,hl,_=>⟨[],trivial,by simp only[aK];exact zv9 (by simp only[tN] at hl;omega)⟩
 |(u,off)::l,(n,S)::Ss,o,h,hl,hf=>by
  obtain ⟨rfl,h2,h3⟩:=h;obtain ⟨y,hy,hyw⟩:=hf 0 u off rfl;obtain ⟨v,hv1,hv2⟩:=h2.2 hy hyw;obtain ⟨vs,k1,k2⟩:=Ei l Ss (off+n) h3 (by simp only[tN] at hl;omega) fun i u' o' hi=>hf (i+1) u' o' hi;refine ⟨v::vs,⟨hv1,k1⟩,?_⟩;simp only[aK];rw[h2.1] at hv2;exact ⟨_,(cs.drop off).drop n,(zw1 n _).symm,hv2,by rw[List.drop_drop];exact k2⟩
 | [],_::_,_,h,_,_=>h.elim
 |_::_,[],_,h,_,_=>by simp[tg] at h
theorem afE{P:Program}{t:TypeId}{H:Type}{enc0:TypeId×Value→H}{w:World}{fuel:Nat}{cs:List Value}{x:DataW H×List MemPlace}(l:List (TypeId×Nat))(Ss:List (Nat×(I→Prop)))(ht:vq P t l=true)(hok:tg P 0 l Ss)(hc:P.cellsOf t=tN Ss)(h:DataW.trod enc0 P w 0 (fun _=>true) true fuel t cs=some x)(hw:∀ k∈x.1.weights P t,k≤reachBytes) :
  ∃ vs,qk Ss vs∧ai w (kK w) cq (.agg vs) cs:=by
 obtain ⟨hl,m,hf⟩:=ahn ht h hw;obtain ⟨vs,k1,k2⟩:=Ei l Ss 0 hok (by rw[hl,hc];omega) hf;exact ⟨vs,k1,by simpa only[ai,List.drop_zero] using k2⟩
theorem GR{P:Program}{t:TypeId}{α:Type}[Enc α]{B:α→Prop}{H:Type}{enc0:TypeId×Value→H}{w:World}{er:Nat}{v:Value}{d:DataW H}{p:List MemPlace}(ho:lh P t α B)(hA:Enc.gA α=false)(hst:(match P.underlying t with | some (.slice _) | some (.int _) | some .bool | some .string=>true | _=>false)=true)(ae:Value.okWide P w .any er t v)
  (h:DataW.Trod enc0 P w 0 (fun _=>true) true t v d p) (hwt:∀ k∈d.weights P t,k≤reachBytes):∃ (a:α),B a∧∃ (cs:List Value),bm (enc a) v cs∧ai w (kK w) cq (enc a) cs:=by
 obtain ⟨fuel,h⟩:=h;have hone:v.cells.toList=[v]:=by
  unfold Value.okWide at ae;split at hst
  ·rename_i e ht;rw[ht] at ae;simp only[Cell.okWide,ht] at ae;cases v <;>simp_all[Cell.ok,Value.cells]
  ·rename_i e ht;rw[ht] at ae;simp only[Cell.okWide,ht] at ae;cases v <;>simp_all[Cell.ok,Value.cells]
  ·rename_i ht;rw[ht] at ae;simp only[Cell.okWide,ht] at ae;cases v <;>simp_all[Cell.ok,Value.cells]
  ·rename_i ht;rw[ht] at ae;simp only[Cell.okWide,ht] at ae;cases v <;>simp_all[Cell.ok,Value.cells]
  ·cases hst
 rw[hone] at h;obtain ⟨a,hB,ha⟩:=ho.oG h hwt;exact ⟨a,hB,[v],by simp[bm,Enc.agg,hA],ha⟩
end Go.Abs
namespace Go.Proofs.YtoffnnjbplgnaaaGreatDoor
open Go Go.Abs Go.ChangeShapes Go.WideShapes Go.RowKit
open Go.Abs.Enc (enc)
theorem Tryz.own:ownKnob Tryz.prog.godebug=none:=by kernel_rfl
theorem Tryz.adM:laidOutB Tryz.prog=true:=by kernel_rfl
theorem Gq:qi Tryz.prog 3 Int:=afD (by kernel_rfl) (by kernel_rfl)
theorem uv:lh Tryz.prog 3 Int fun _=>True:=Gq.GP
theorem L7:Tryz.prog.bytesOf 3=8:=by kernel_rfl
theorem BP:lh Tryz.prog 32 (List Int) fun l=>l.length*8≤reachBytes:=by
 have h:=GQ (P:=Tryz.prog) (t:=32) (e:=3) (by kernel_rfl) uv (by kernel_rfl);exact ⟨h.cells,h.rj,fun hx hw=>by
  obtain ⟨a,⟨-,h2⟩,h3⟩:=h.oG hx hw;rw[L7] at h2;exact ⟨a,h2,h3⟩⟩
theorem agQ{w:World}{D:aO}{E:aU}{x y:I}{a b:Value}(hx:∃ cs,bm x a cs∧ai w D E x cs)(hy:∃ cs,bm y b cs∧ai w D E y cs):aD w D E [x,y] [a,b]:=by
 obtain ⟨c1,h1,h2⟩:=hx;obtain ⟨c2,h3,h4⟩:=hy;simp only[aD];exact ⟨a,[b],c1,rfl,h1,h2,b,[],c2,rfl,h3,h4,rfl⟩
def kT : List (String × DataW Unit) := [("math/bits.deBruijn32tab", Rows.laid_math_bits_deBruijn32tab), ("math/bits.deBruijn64tab", Rows.laid_math_bits_deBruijn64tab), ("internal/strconv.uint64pow10", Rows.laid_internal_strconv_uint64pow10), ("strconv.ErrRange", Rows.laid_strconv_ErrRange), ("strconv.ErrSyntax", Rows.laid_strconv_ErrSyntax)]
def JY:List Int:=[1,10,100,1000,10000,100000,1000000,10000000,100000000,1000000000,10000000000,100000000000,1000000000000,10000000000000,100000000000000,1000000000000000,10000000000000000,100000000000000000,1000000000000000000,10000000000000000000]
theorem abZ : Tryz.prog.globalNamed "internal/strconv.uint64pow10" = some 3 := by kernel_rfl
theorem ahs:(Tryz.prog.globals[3]?).map (·.type)=some 256:=by kernel_rfl
theorem abY : Tryz.prog.globalNamed "internal/bytealg.MaxLen" = some 0 := by kernel_rfl
theorem Iw:((begin Tryz.prog (fun _ _=>0) default).world.heap[0]?).bind Obj.row?=some (#[.int .i64 0],3):=by kernel_rfl
theorem ab1 : Tryz.prog.globalNamed "strconv.ErrSyntax" = some 1 := by kernel_rfl
theorem ab0 : Tryz.prog.globalNamed "strconv.ErrRange" = some 2 := by kernel_rfl
theorem JE:(Tryz.prog.globals[1]?).map (·.type)=some 199∧(Tryz.prog.globals[2]?).map (·.type)=some 199:=⟨by kernel_rfl,by kernel_rfl⟩
theorem Fl:(match Tryz.prog.underlying 199 with | some (.interface _)=>true | _=>false)=true:=by kernel_rfl
theorem aem {W : World} (hsh : W.ShapedOpen Tryz.prog) : ∃ v, W.var? Tryz.prog "internal/bytealg.MaxLen" = some v ∧ vv .int v := by
 obtain ⟨m,hm⟩:=cell_of_shapedOpen_int (k:=.i64) hsh (show 0<Tryz.prog.globals.size from of_decide_eq_true (by kernel_rfl)) Iw rfl (by kernel_rfl) (by kernel_rfl) (by kernel_rfl);obtain ⟨cs,hh,hs,_⟩:=hsh.1 0 _ _ (show 0<Tryz.prog.globals.size from of_decide_eq_true (by kernel_rfl)) Iw;refine ⟨cs,?_,m,?_⟩
 ·unfold World.var?;rw[abY];simp only[zu4];revert hh;cases hb:W.heap[0]? with
  |none=>intro hh;simp at hh
  |some o =>
   intro hh;cases o <;>simp[] at hh
   simp[hh]
 ·have h1:cs.size=1:=hs;have hcell:W.cell? ⟨0,0,none⟩=cs[0]?:=by
   unfold World.cell?;revert hh;cases hb:W.heap[0]? with
   |none=>intro hh;simp at hh
   |some o =>
    intro hh;cases o <;>simp[] at hh
    rw[←hh.1];rfl
  rw[hcell] at hm;apply Array.ext
  ·simp[h1]
  ·intro i h2 h3;obtain rfl:i=0:=by simp at h3;omega
   have:=(zy8.1 hm).2;simpa using this
theorem Eb {W : World} (h : laidMet Tryz.prog kT W) {n : String} {text : List UInt8} {g : Nat} (hn : (n, DataW.iface "*errors.errorString" (.ptr (.agg [.lit (.string text)]))) ∈ kT) (hg : Tryz.prog.globalNamed n = some g) (ht : (Tryz.prog.globals[g]?).map (·.type) = some 199) :
  ∃ v,W.var? Tryz.prog n=some v∧vv .qB v:=by
 obtain ⟨g',t',cs,fuel,p,hg',ht',hvar,hd⟩:=Lib.laidMet.reads h hn;obtain rfl:=Option.some.inj (hg.symm.trans hg');obtain rfl:=Option.some.inj (ht.symm.trans ht');cases hi:Tryz.prog.underlying 199 with
 |none=>have:=Fl;rw[hi] at this;cases this
 |some d =>
  cases d <;>(try (have:=Fl;rw[hi] at this;cases this;done))
  obtain ⟨_,u,v,hcs,_,_⟩:=iface_of_trod hi hd;refine ⟨cs,hvar,u,v,?_⟩;apply Array.ext';simpa using hcs
theorem afn{W:World}(h:laidMetH Tryz.prog kT W)(hsh:W.ShapedOpen Tryz.prog):fw Tryz.prog W (fun _=>False):=by
 rw[MakeChecks.laidMetH_plain _ _ _ (by kernel_rfl)] at h;intro q hq g hg;refine ⟨id,?_⟩;simp only[pn,zx7,List.not_mem_nil,or_false] at hq;rcases hq with rfl | rfl | rfl | rfl
 ·obtain ⟨g', t', cs, fuel, p, hg', ht', hvar, hd⟩ := Lib.laidMet.reads h (n := "internal/strconv.uint64pow10") (d := Rows.laid_internal_strconv_uint64pow10) (by simp [kT])
  obtain rfl:=Option.some.inj (abZ.symm.trans hg');obtain rfl:=Option.some.inj (ahs.symm.trans ht');have hd':DataW.trod (fun _=>()) Tryz.prog W 0 (fun _=>true) false fuel 256 cs.toList=some (Lib.tabData .u64 JY,p):=hd;have hc:=Lib.cells_of_tab (n:=20) (e:=227) (adp (by kernel_rfl)) (by kernel_rfl) (by kernel_rfl) (by kernel_rfl) hd';refine ⟨cs,hvar,?_⟩
  show cs=FG
  have:cs=(JY.map fun z=>Value.int .u64 z).toArray:=by rw[←hc]
  rw[this];rfl
 ·exact aem hsh
 ·exact Eb h (n := "strconv.ErrSyntax") (text := [105, 110, 118, 97, 108, 105, 100, 32, 115, 121, 110, 116, 97, 120]) (by simp [kT, Rows.laid_strconv_ErrSyntax]) ab1 JE.1
 ·exact Eb h (n := "strconv.ErrRange") (text := [118, 97, 108, 117, 101, 32, 111, 117, 116, 32, 111, 102, 32, 114, 97, 110, 103, 101]) (by simp [kT, Rows.laid_strconv_ErrRange]) ab0 JE.2
theorem agE{H:Type}{enc0:TypeId×Value→H}{a:Assume}{C:Checked}{os:Os}{f:FuncId}{fn:Func}{s:ChangeSpec}{conds:List PathCond}{apart lC handsOn again:Bool}{X:World→Array Value→Prop}
  (hX:∀ (w w':World) (args:Array Value),w.heap=w'.heap→X w args→X w' args)
  (own:ownKnob C.prog.godebug=none) (started:os.Started) (noInit:C.prog.inits.idxOf? f=none) (hfn:C.prog.funcs[f]?=some fn)
  (witness:∃ (w:World) (tape:Tape) (i:Input),w.os=os∧(w.forCall tape i).Shaped C.prog∧i.vars=[]∧Input.okWide C.prog (w.forCall tape i) .any w.heap.size f i ∧
   ((s.pre enc0 C.prog fn conds apart (w.forCall tape i).memory i.args∧X (w.forCall tape i).memory i.args)∧sizedMet enc0 C.prog fn (OpenSpec.ofChange s) apart (w.forCall tape i).memory i.args)∧a.holds C.prog (lone (Frame.enter C.prog f i.args .normal) [] (w.forCall tape i)))
  (contract:∀ (W:World) (er:Nat) (args:Array Value) (ds gs:List (DataW H)) (before:List MemPlace),
   (∀ (j:Nat) t v,fn.params[j]?=some t→args[j]?=some v→Value.okWide C.prog W .any er t v) →
   DataW.Whole enc0 C.prog fn.params.toList s.vars apart W args.toList ds gs before →
   (DataW.weightsEach C.prog (fn.params.toList++s.plain.varTypes C.prog) (ds++gs)).all (· ≤ reachBytes)=true→X W args→W.ShapedOpen C.prog →
   Calls C.prog f args W fun e W'=>∃ v,e=.returned v∧s.post enc0 C.prog fn apart lC handsOn again W args v W') :
  ReturnsInHanded a C os f .any (fun w args=>(s.pre enc0 C.prog fn conds apart w args∧X w args)∧sizedMet enc0 C.prog fn (OpenSpec.ofChange s) apart w args) (s.post enc0 C.prog fn apart lC handsOn again):=by
 refine returnsInHanded_of_calls own started noInit witness ?_;intro w tape i _ hsh _ hok hpre _;obtain ⟨_,_,_,fn',hfn',_,_,_,_,hval⟩:=hok;have e:fn'=fn:=Option.some.inj (hfn'.symm.trans hfn);subst e;obtain ⟨⟨⟨ds,gs,before,hw,_⟩,hx⟩,hz⟩:=hpre;have hw':=DataW.Whole.of_heap (w':=w.forCall tape i) (by rfl) hw;refine (contract (w.forCall tape i) w.heap.size i.args ds gs before hval hw' (hz.weights hw) (hX _ _ _ (by rfl) hx) hsh).mono fun e W' ⟨v,he,hp⟩ =>?_;subst he;exact ChangeSpec.post_blind hp
end Go.Proofs.YtoffnnjbplgnaaaGreatDoor
namespace Go.Proofs.YtoffnnjbplgnaaaGreatDoor
open Go Go.Abs
open Go.Abs.Enc (enc)
def cN:ah:=default
theorem nd:I.agg [.agg [.int .i64 0,.int .i64 0],.int .i64 0,.int .i64 0,.int .i64 0,.agg [.int .i64 0,.int .i64 0],.ak ⟨#[]⟩]=enc cN:=rfl
theorem Js{A:af}{l:List ah} : lU A 8 (enc l)=some (l.map enc):=jR A 8 l rfl
theorem Jt{A:af}{n lo k:Nat}{xs:List ah}(ho:A.o n=some (.box (.agg (xs.map enc))))(hl:lo+k≤xs.length):lU A 8 (.view n [] 8 lo k)=some (((xs.drop lo).take k).map enc):=pU ho hl
theorem ee{k:Nat}{a:al}{m:Nat} : ay [(k,a)] m=true↔m=k:=by
 constructor
 ·intro h;simp only[ay,aq] at h;split at h
  ·assumption
  ·simp at h
 ·rintro rfl;simp[ay,aq]
theorem Fi{A:af}{k k':Nat}{c c':I}(h1:A.o k=some (.box c))(h2:∀ p,c.only p=true)(h1':A.o k'=some (.box c'))(h2':∀ p,c'.only p=true):∀ n x,aq [(k,.box c),(k',.box c')] n=some x→A.o n=some x∧x.only (ay [(k,.box c),(k',.box c')])=true∧x.fm=true:=fun n x h=>by
 simp only[aq] at h;split at h
 ·rename_i hn;subst hn;simp only[v6] at h;subst h;exact ⟨h1,h2 _,rfl⟩
 ·split at h
  ·rename_i hn;subst hn;simp only[v6] at h;subst h;exact ⟨h1',h2' _,rfl⟩
  ·cases h
theorem fR(p:Nat→Bool)(l:List ah):(I.agg (l.map enc)).only p=true:=by simp only[I.only];exact oE p l
def fJ(k:Nat)(l:List ah)(m:Nat):List (Nat×al):=[(k,.box (.agg ((l++List.replicate m cN).map enc)))]
def qt(l:List ah):cv:=fun r os'=>(l=[]∧(r=.nils 8∨r=.c0 8)∧os'=[])∨(l≠[]∧∃ m,r=.view 7 [] 8 0 l.length∧os'=fJ 7 l m)
theorem ua(l:List ah)(hl:l.length≤1000):ep Tryz.prog 93 [enc l] [] (qt l):=by
 refine ep.bM Tryz.func93 Dn Du DI (t7 rfl) (t7 rfl) (fun m hm=>by simp[ay,aq] at hm) (fun hwf W0 bI E1 =>?_);simp only[xE,zV,bC];refine .ew (by decide +kernel) fun K hK =>?_;simp only[yJ,aZ];refine .done (hK _ ?_);clear hK K;refine ab.seq (ab.seq ?_);by_cases hn:l=[]
 ·subst hn;refine .js (by decide +kernel) fun K hK =>?_;simp only[sH,aZ,Nat.reduceEqDiff,reduceIte];simp only[wT,List.isEmpty_nil,qX];refine .any rfl fun b _ =>?_
  try simp only[aZ]
  generalize (b==0)=t;cases t
  ·refine .done (hK _ ?_);clear hK K;try simp only[di]
   refine ab.iT ?_;simp only[ar,aZ,Nat.reduceEqDiff,reduceIte];refine ⟨fun h =>?_,fun h =>?_⟩
   ·cases h
   refine ab.skip ?_;try simp only[di]
   refine .ew (by decide +kernel) fun K hK =>?_;simp only[sI,aZ]
   try simp only[fM,nd,aZ,Nat.reduceEqDiff,reduceIte]
   refine .done (hK _ ?_);clear hK K;refine ab.ret ?_;simp only[ky];exact ⟨[],[.c0 8],yT,⟨⟨.c0 8,rfl,.inl ⟨rfl,rfl,rfl⟩⟩,trivial⟩,.inl ⟨rfl,.inr rfl,rfl⟩⟩
  ·refine .done (hK _ ?_);clear hK K;refine ab.iT ?_;simp only[ar,aZ,Nat.reduceEqDiff,reduceIte];refine ⟨fun h =>?_,fun h =>?_⟩
   ·refine .ew (by decide +kernel) fun K hK =>?_;simp only[yK,aZ];refine .done (hK _ ?_);clear hK K;refine ab.ret ?_;simp only[di,ky];exact ⟨[],[.nils 8],yT,⟨⟨.nils 8,rfl,.inl ⟨rfl,rfl,rfl⟩⟩,trivial⟩,.inl ⟨rfl,.inl rfl,rfl⟩⟩
   ·cases h
 ·have hu:kC (enc l)=false:=by rw[wT];simpa using hn
  refine .js (by decide +kernel) fun K hK =>?_;simp only[sH,aZ,Nat.reduceEqDiff,reduceIte]
  try simp only[hu,Gj _ l hn,aZ]
  refine .done (hK _ ?_);clear hK K;try simp only[di]
  refine ab.iT ?_;simp only[ar,aZ,Nat.reduceEqDiff,reduceIte];refine ⟨fun h =>?_,fun h =>?_⟩
  ·cases h
  refine ab.skip ?_;try simp only[di]
  refine .ew (by decide +kernel) fun K hK =>?_;simp only[sI,aZ]
  try simp only[fM,nd,aZ,Nat.reduceEqDiff,reduceIte]
  refine aY.xp cN rfl hn rfl (by omega) (by simp only[maxLen];omega) fun m =>?_
  try simp only[aZ,Nat.reduceEqDiff,reduceIte]
  refine .done (hK _ ?_);clear hK K;refine ab.ret ?_;simp only[ky];exact ⟨fJ 7 l m,[.view 7 [] 8 0 l.length],km rfl (fun p=>fR p _),⟨⟨_,rfl,.inl ⟨rfl,rfl,rfl⟩⟩,trivial⟩,.inr ⟨hn,m,rfl,rfl⟩⟩
def gO(l:List ah)(i:Nat)(g:ah):List ah:=l.take i++g::l.drop i
theorem ado{l:List ah}{i:Nat}(g:ah)(h:i≤l.length):(gO l i g).length=l.length+1:=by
 simp only[gO,zz1,zz6,zx5,zv3];omega
def Fs(l:List ah)(i:Nat)(g:ah)(k:Nat):cv:=fun r os' =>
 (∃ q,r=.view 1000000 [] 8 0 (l.length+1)∧os'=fJ 1000000 (gO l i g) q)∨∃ d q,(d=25∨d=40)∧r=.view d [] 8 0 (l.length+1)∧os'=fJ d (gO l i g) q++fJ 1000000 l k
theorem aec(l:List ah)(i q:Nat)(g:ah)(h:i<l.length)(xs:List ah)(hx:xs=l.take i++(List.replicate (l.length+1-i) cN++List.replicate q cN))(ys:List ah)(hy:ys=xs.take i++([g].take 1++xs.drop (i+1))) :
  ys.take (i+1)++((((l++List.replicate 0 cN).drop i).take (l.length-i)).take (l.length-i)++ys.drop (i+1+(l.length-i)))=gO l i g++List.replicate q cN:=by
 have e1:xs.take i=l.take i:=by rw[hx,zw4 (by rw[zz6];omega),List.take_take,Nat.min_self]
 have e2:xs.drop (i+1)=List.replicate (l.length-i+q) cN:=by
  have hl:(l.take i).length=i:=by rw[zz6];omega
  rw[hx,List.replicate_append_replicate,List.drop_append,hl,zv9 (by rw[hl];omega),zy3,List.drop_replicate]
  congr 1;omega
 have e3:ys=(l.take i++[g])++List.replicate (l.length-i+q) cN:=by rw[hy,e1,e2];simp
 have hl2:(l.take i++[g]).length=i+1:=by rw[zz1,zz6];simp;omega
 have e4:ys.take (i+1)=l.take i++[g]:=by rw[e3,←hl2,zu8]
 have e5:ys.drop (i+1+(l.length-i))=List.replicate q cN:=by
  rw[e3,List.drop_append,hl2,zv9 (by rw[hl2];omega),zy3,List.drop_replicate]
  congr 1;omega
 have e6:(((l++List.replicate 0 cN).drop i).take (l.length-i)).take (l.length-i)=l.drop i:=by
  rw[List.replicate_zero,zx2,List.take_take,Nat.min_self,zv8 (by rw[zv3];omega)]
 rw[e4,e5,e6];simp[gO]
theorem aeb(l:List ah)(i k:Nat)(g:ah)(h:i<l.length)(hk:1≤k)(xs:List ah)(hx:xs=l++List.replicate k cN)(ys:List ah)(hy:ys=xs.take (i+1)++(((xs.drop i).take (l.length+1-i)).take (l.length-i)++xs.drop (i+1+(l.length-i)))) :
  ys.take i++([g].take 1++ys.drop (i+1))=gO l i g++List.replicate (k-1) cN:=by
 have e1:((xs.drop i).take (l.length+1-i)).take (l.length-i)=l.drop i:=by
  rw[List.take_take,Nat.min_eq_left (by omega),hx,List.drop_append_of_le_length (by omega),zw4 (by rw[zv3];omega),zv8 (by rw[zv3];omega)]
 have e2:xs.drop (i+1+(l.length-i))=List.replicate (k-1) cN:=by
  rw[hx,List.drop_append,zv9 (by omega),zy3,List.drop_replicate]
  congr 1;omega
 have hl:(xs.take (i+1)).length=i+1:=by rw[zz6,hx,zz1];omega
 have e3:ys.take i=l.take i:=by
  rw[hy,zw4 (by omega),List.take_take,Nat.min_eq_left (by omega),hx,zw4 (by omega)]
 have e4:ys.drop (i+1)=l.drop i++List.replicate (k-1) cN:=by
  rw[hy,e1,e2];exact List.drop_left' hl
 rw[e3,e4];simp[gO]
theorem J0(l:List ah)(i:Nat)(g:ah)(k:Nat)(hi:i≤l.length)(hn:l≠[])(hlen:l.length≤1000) :
  ep Tryz.prog 101 [.view 1000000 [] 8 0 l.length,enc (i:Int),enc [g]] (fJ 1000000 l k) (Fs l i g k):=by
 refine ep.bM Tryz.func101 xF xI xQ (t7 rfl) (t7 rfl) (fun m hm=>by rw[ee.1 hm];exact zy1 _) (fun hwf W0 bI E1 =>?_);simp only[uz,wg,bC,zz4,Nat.reduceAdd];simp only[fJ];have hl0:0<l.length:=zv2.2 hn;have htot:((l++List.replicate k cN).map (enc (α:=ah))).length=l.length+k:=by simp
 refine .ew (by decide +kernel) fun K hK =>?_;simp only[uV,aZ];refine .done (hK _ ?_);clear hK K;obtain ⟨y,hy⟩:=aha (n:=1000000) (p:=[]) (sz:=8) hi (show l.length≤l.length+k by omega);refine .ew (by decide +kernel) fun K hK =>?_;simp only[uW,aZ,Nat.reduceEqDiff,reduceIte]
 try simp only[fM,htot,zw2,hy,aZ,reduceIte]
 refine .done (hK _ ?_);clear hK K;refine .ew (by decide +kernel) fun K hK =>?_;simp only[uX,aZ,Nat.reduceEqDiff,reduceIte]
 try simp only[typR,kD,lN,jW,aZ,Nat.reduceEqDiff,reduceIte,Int.reduceBNe,Int.reduceBEq]
 refine .done (hK _ ?_);clear hK K;refine ab.seq (ab.seq ?_);refine .js (by decide +kernel) fun K hK =>?_;simp only[uY,aZ,Nat.reduceEqDiff,reduceIte]
 try simp only[typR,kD,lN,jW,aZ,Nat.reduceEqDiff,reduceIte,Int.reduceBNe,Int.reduceBEq]
 refine .done (hK _ ?_);clear hK K;try simp only[di]
 refine ab.iT ?_;simp only[ar,aZ,Nat.reduceEqDiff,reduceIte];refine ⟨fun h =>?_,fun h =>?_⟩
 ·first | cases h | simp at h
 refine ab.skip ?_;try simp only[di]
 refine .ew (by decide +kernel) fun K hK =>?_;simp only[uZ,aZ,Nat.reduceEqDiff,reduceIte]
 try simp only[fM,aZ,Nat.reduceEqDiff,reduceIte]
 refine .done (hK _ ?_);clear hK K;refine ab.seq (ab.seq ?_);refine .js (by decide +kernel) fun K hK =>?_;simp only[u3,aZ,Nat.reduceEqDiff,reduceIte]
 try simp only[typR,kD,lN,jW,aZ,Nat.reduceEqDiff,reduceIte,Int.reduceBNe,Int.reduceBEq]
 refine .done (hK _ ?_);clear hK K;try simp only[di]
 have hA:∀ ts,(aC ts [(1000000,.box (.agg ((l++List.replicate k cN).map (enc (α:=ah)))))]).o 1000000=some (.box (.agg ((l++List.replicate k cN).map enc))):=fun _=>rfl;have hN:∀ ts (d:Nat),d≠1000000→(aC ts [(1000000,.box (.agg ((l++List.replicate k cN).map (enc (α:=ah)))))]).o d=none:=fun ts d hd=>by
  have:¬ d=1000000:=hd;simp[aC,aq,this]
 refine ab.iT ?_;simp only[ar,aZ,Nat.reduceEqDiff,reduceIte];refine ⟨fun h =>?_,fun h =>?_⟩
 ·have hil:i=l.length:=by
   have:(i:Int)=l.length:=by simpa using h
   omega
  subst hil;by_cases hk:k=0
  ·subst hk;refine .ew (by decide +kernel) fun K hK =>?_;simp only[sE,aZ,Nat.reduceEqDiff,reduceIte]
   try simp only[nd]
   refine aY.Le (esz:=8) cN rfl (xs:=l++List.replicate 0 cN) (ys:=[g]) (by simp) (hA _) (by simp) (by simp) (hN _ 25 (by decide)) (by simp;omega) (by simp[maxLen];omega) fun q =>?_;have hc:(l++List.replicate 0 cN).take l.length++([g]++List.replicate q cN)=gO l l.length g++List.replicate q cN:=by simp[gO]
   rw[hc]
   try simp only[List.length_singleton,aZ,Nat.reduceEqDiff,reduceIte]
   refine .done (hK _ ?_);clear hK K;refine ab.ret ?_;simp only[di,ky];exact ⟨fJ 25 (gO l l.length g) q++fJ 1000000 l 0,[.view 25 [] 8 0 (l.length+1)],Fi rfl (fun p=>fR p _) rfl (fun p=>fR p _),⟨⟨_,rfl,.inl ⟨rfl,rfl,rfl⟩⟩,trivial⟩,.inr ⟨25,q,.inl rfl,rfl,rfl⟩⟩
  ·refine .ew (by decide +kernel) fun K hK =>?_;simp only[sE,aZ,Nat.reduceEqDiff,reduceIte]
   try simp only[nd]
   rw[BI (esz:=8) _ rfl (xs:=l++List.replicate k cN) (ys:=[g]) (by simp) (hA _) (by simp;omega)];have hc:(l++List.replicate k cN).take l.length++([g]++(l++List.replicate k cN).drop (l.length+[g].length))=gO l l.length g++List.replicate (k-1) cN:=by
    simp[gO,List.drop_append]
   rw[hc]
   try simp only[List.length_singleton,aZ,Nat.reduceEqDiff,reduceIte]
   refine .done (hK _ ?_);clear hK K;refine ab.ret ?_;simp only[di,ky];exact ⟨fJ 1000000 (gO l l.length g) (k-1),[.view 1000000 [] 8 0 (l.length+1)],km rfl (fun p=>fR p _),⟨⟨_,rfl,.inl ⟨rfl,rfl,rfl⟩⟩,trivial⟩,.inl ⟨k-1,rfl,rfl⟩⟩
 have hlt:i<l.length:=by
  have:¬ (i:Int)=l.length:=by simpa using h
  omega
 refine ab.skip ?_;try simp only[di]
 refine ab.seq (ab.seq ?_);refine .js (by decide +kernel) fun K hK =>?_;simp only[EP,aZ,Nat.reduceEqDiff,reduceIte]
 try simp only[aeQ,List.length_singleton,aZ,Nat.reduceEqDiff,reduceIte]
 rw[NN (xs:=l++List.replicate k cN) (hA _)]
 try simp only[aZ,Nat.reduceEqDiff,reduceIte]
 rw[eX _ (by simp;omega) (by simp;omega)];refine .done (hK _ ?_);clear hK K;try simp only[di]
 have hgt:decide ((((l++List.replicate k cN).length-0:Nat):Int)<(l.length:Int)+((1:Nat):Int))=decide (k=0):=by
  by_cases hk:k=0 <;>simp[hk] <;>omega
 simp only[hgt];by_cases hk:k=0
 ·subst hk;refine ab.iT ?_;simp only[ar,aZ,Nat.reduceEqDiff,reduceIte];refine ⟨fun h =>?_,fun h =>?_⟩
  ·have htot0:((l++List.replicate 0 cN).map (enc (α:=ah))).length=l.length:=by simp
   refine .ew (by decide +kernel) fun K hK =>?_;simp only[ER,aZ,Nat.reduceEqDiff,reduceIte]
   try simp only[fM,htot0,zw2,wI (show i≤l.length by omega) hl0,nd,aeJ,aZ,Nat.reduceEqDiff,reduceIte]
   rw[eX ((l.length:Int)+((1:Nat):Int)) (by omega) (by omega),eX ((l.length:Int)+((1:Nat):Int)-i) (by omega) (by omega)];have hm:(l.length:Int)+((1:Nat):Int)-i=((l.length+1-i:Nat):Int):=by omega
   rw[hm];refine aY.Lo (esz:=8) cN rfl (xs:=l++List.replicate 0 cN) (hA _) (by simp;omega) (by omega) (by simp;omega) (hN _ 40 (by decide)) (by omega) (by simp only[maxLen];omega) fun q =>?_;obtain ⟨xs,hxs⟩:∃ xs,xs=l.take i++(List.replicate (l.length+1-i) cN++List.replicate q cN):=⟨_,rfl⟩
   have hxs':(l++List.replicate 0 cN).take i++(List.replicate (l.length+1-i) cN++List.replicate q cN)=xs:=by rw[hxs,zw4 (by omega)]
   have hxl:xs.length=l.length+1+q:=by rw[hxs];simp;omega
   have hle:i+(l.length+1-i)=l.length+1:=by omega
   rw[hxs',hle]
   try simp only[aZ,Nat.reduceEqDiff,reduceIte]
   refine .done (hK _ ?_);clear hK K;have hxm:(xs.map (enc (α:=ah))).length=l.length+1+q:=by rw[zz3];exact hxl
   have hA2:∀ ts,(aC ts [(40,.box (.agg (xs.map (enc (α:=ah))))),(1000000,.box (.agg ((l++List.replicate 0 cN).map (enc (α:=ah)))))]).o 40=some (.box (.agg (xs.map enc))):=fun _=>rfl;refine .ew (by decide +kernel) fun K hK =>?_;simp only[EH,aZ,Nat.reduceEqDiff,reduceIte]
   try simp only[fM,hxm,zw2,nQ (show i≤l.length+1 by omega) (show l.length+1≤l.length+1+q by omega) (show i<l.length+1+q by omega),oB,aZ,Nat.reduceEqDiff,reduceIte]
   rw[Js,qx (xs:=xs) (c:=1) (hA2 _) (by omega) (by simp;omega)];obtain ⟨ys,hys⟩:∃ ys,ys=xs.take i++([g].take 1++xs.drop (i+1)):=⟨_,rfl⟩
   have hyl:ys.length=l.length+1+q:=by rw[hys];simp;omega
   rw[←hys]
   try simp only[aZ]
   refine .done (hK _ ?_);clear hK K;have hym:(ys.map (enc (α:=ah))).length=l.length+1+q:=by rw[zz3];exact hyl
   have hA3:∀ ts z,(aC ts [(40,.box (.agg (ys.map (enc (α:=ah))))),(40,z),(1000000,.box (.agg ((l++List.replicate 0 cN).map (enc (α:=ah)))))]).o 40=some (.box (.agg (ys.map enc))):=fun _ _=>rfl;have hA4:∀ ts z,(aC ts [(40,.box (.agg (ys.map (enc (α:=ah))))),(40,z),(1000000,.box (.agg ((l++List.replicate 0 cN).map (enc (α:=ah)))))]).o 1000000=some (.box (.agg ((l++List.replicate 0 cN).map enc))):=fun _ _=>rfl;refine .ew (by decide +kernel) fun K hK =>?_;simp only[EI,aZ,Nat.reduceEqDiff,reduceIte];rw[eX ((i:Int)+((1:Nat):Int)) (by omega) (by omega)];have hi1:(i:Int)+((1:Nat):Int)=((i+1:Nat):Int):=by omega
   try simp only[fM,hym,htot0,hi1,zw2,zy5,nQ (show i+1≤l.length+1 by omega) (show l.length+1≤l.length+1+q by omega) (show i+1<l.length+1+q by omega),nQ (show i≤l.length by omega) (zy1 l.length) hlt,oB,aZ,Nat.reduceEqDiff,reduceIte]
   have hd1:l.length+1-(i+1)=l.length-i:=by omega
   rw[hd1,Jt (xs:=l++List.replicate 0 cN) (hA4 _ _) (by simp;omega),qx (xs:=ys) (c:=l.length-i) (hA3 _ _) (by omega) (by simp)];rw[aec l i q g hlt xs hxs ys hys]
   try simp only[aZ]
   refine .done (hK _ ?_);clear hK K;refine .ew (by decide +kernel) fun K hK =>?_;simp only[EJ,aZ,Nat.reduceEqDiff,reduceIte];refine .done (hK _ ?_);clear hK K;refine ab.ret ?_;simp only[di,ky];exact ⟨fJ 40 (gO l i g) q++fJ 1000000 l 0,[.view 40 [] 8 0 (l.length+1)],Fi rfl (fun p=>fR p _) rfl (fun p=>fR p _),⟨⟨_,rfl,.inl ⟨rfl,rfl,rfl⟩⟩,trivial⟩,.inr ⟨40,q,.inr rfl,rfl,rfl⟩⟩
  ·simp at h
 ·refine ab.iT ?_;simp only[ar,aZ,Nat.reduceEqDiff,reduceIte];refine ⟨fun h =>?_,fun h =>?_⟩
  ·simp at h;omega
  refine ab.skip ?_;try simp only[di]
  have hk1:1≤k:=by omega
  have hn1:(l.length:Int)+((1:Nat):Int)=((l.length+1:Nat):Int):=by omega
  refine .ew (by decide +kernel) fun K hK =>?_;simp only[EK,aZ,Nat.reduceEqDiff,reduceIte];rw[eX ((l.length:Int)+((1:Nat):Int)) (by omega) (by omega)]
  try simp only[fM,htot,hn1,zw2,wI (show l.length+1≤l.length+k by omega) (show 0<l.length+k by omega),aZ,Nat.reduceEqDiff,reduceIte]
  refine .done (hK _ ?_);clear hK K;have hi1:(i:Int)+((1:Nat):Int)=((i+1:Nat):Int):=by omega
  have hd1:l.length+1-(i+1)=l.length-i:=by omega
  refine ab.seq (ab.seq ?_);refine .js (by decide +kernel) fun K hK =>?_;simp only[EL,aZ,Nat.reduceEqDiff,reduceIte];rw[eX ((i:Int)+((1:Nat):Int)) (by omega) (by omega)]
  try simp only[fM,htot,hi1,hd1,zw2,nQ (show i+1≤l.length+1 by omega) (show l.length+1≤l.length+k by omega) (show i+1<l.length+k by omega),afk,aZ,Nat.reduceEqDiff,reduceIte]
  refine .ext (.bool false) rfl (ahT (tS:=23) (tR:=4) (e:=50) Tryz.func143 (by kernel_rfl) (by kernel_rfl) (by kernel_rfl) (by kernel_rfl) (by kernel_rfl) (by kernel_rfl) (hA _) rfl ?_ (by decide) (EA (by intro h;have:=congrArg List.length h;rw[zz1,List.length_replicate,zv1] at this;omega) rfl)) ?_
  ·show I.sizes ((l++List.replicate k cN).map enc)≠0
   rw[I.iJ (sz:=8) _ (fun e he=>by obtain ⟨x,_,rfl⟩:=zx4.1 he;rw[gK];rfl)];rw[htot];omega
  try simp only[aZ,Nat.reduceEqDiff,reduceIte]
  refine .done (hK _ ?_);clear hK K;try simp only[di]
  refine ab.iT ?_;simp only[ar,aZ,Nat.reduceEqDiff,reduceIte];refine ⟨fun h =>?_,fun h =>?_⟩
  case neg.refine_2.refine_2.refine_2=>cases h
  have hd2:l.length+1-i=l.length+1-i:=rfl;obtain ⟨xs,hxs⟩:∃ xs,xs=l++List.replicate k cN:=⟨_,rfl⟩
  have hxl:xs.length=l.length+k:=by rw[hxs];simp
  have hxm:(xs.map (enc (α:=ah))).length=l.length+k:=by rw[zz3];exact hxl
  rw[←hxs];have hB:∀ ts,(aC ts [(1000000,.box (.agg (xs.map (enc (α:=ah)))))]).o 1000000=some (.box (.agg (xs.map enc))):=fun _=>rfl;refine .ew (by decide +kernel) fun K hK =>?_;simp only[EM,aZ,Nat.reduceEqDiff,reduceIte];rw[eX ((i:Int)+((1:Nat):Int)) (by omega) (by omega)]
  try simp only[fM,hxm,hi1,hd1,zw2,zy5,nQ (show i+1≤l.length+1 by omega) (show l.length+1≤l.length+k by omega) (show i+1<l.length+k by omega),nQ (show i≤l.length+1 by omega) (show l.length+1≤l.length+k by omega) (show i<l.length+k by omega),oB,aZ,Nat.reduceEqDiff,reduceIte]
  rw[Jt (xs:=xs) (hB _) (by omega),qx (xs:=xs) (c:=l.length-i) (hB _) (by omega) (by simp;omega)];obtain ⟨ys,hys⟩:∃ ys,ys=xs.take (i+1)++(((xs.drop i).take (l.length+1-i)).take (l.length-i)++xs.drop (i+1+(l.length-i))):=⟨_,rfl⟩
  have hyl:ys.length=l.length+k:=by rw[hys];simp;omega
  have hym:(ys.map (enc (α:=ah))).length=l.length+k:=by rw[zz3];exact hyl
  rw[←hys]
  try simp only[aZ]
  refine .done (hK _ ?_);clear hK K;have hC:∀ ts z,(aC ts [(1000000,.box (.agg (ys.map (enc (α:=ah))))),(1000000,z)]).o 1000000=some (.box (.agg (ys.map enc))):=fun _ _=>rfl;refine .ew (by decide +kernel) fun K hK =>?_;simp only[EN,aZ,Nat.reduceEqDiff,reduceIte]
  try simp only[fM,hym,zw2,nQ (show i≤l.length+1 by omega) (show l.length+1≤l.length+k by omega) (show i<l.length+k by omega),oB,aZ,Nat.reduceEqDiff,reduceIte]
  rw[Js,qx (xs:=ys) (c:=1) (hC _ _) (by omega) (by simp;omega)];rw[aeb l i k g hlt hk1 xs hxs ys hys]
  try simp only[aZ]
  refine .done (hK _ ?_);clear hK K;refine .ew (by decide +kernel) fun K hK =>?_;simp only[EO,aZ,Nat.reduceEqDiff,reduceIte];refine .done (hK _ ?_);clear hK K;refine ab.ret ?_;simp only[di,ky];exact ⟨fJ 1000000 (gO l i g) (k-1),[.view 1000000 [] 8 0 (l.length+1)],km rfl (fun p=>fR p _),⟨⟨_,rfl,.inl ⟨rfl,rfl,rfl⟩⟩,trivial⟩,.inl ⟨k-1,rfl,rfl⟩⟩
def fy(a b:Int):Int:=if a<b then -1 else if a>b then 1 else 0
def iP(a b:Item):Int:=if fy a.aI b.aI≠0 then fy a.aI b.aI else fy a.no b.no
def gj(a b:Item):Bool:=decide (a.aI<b.aI∨(a.aI=b.aI∧a.no<b.no))
theorem Dy(a b:Int):(a<b∧fy a b=-1)∨(a=b∧fy a b=0)∨(b<a∧fy a b=1):=by
 simp only[fy]
 (repeat' split) <;>omega
theorem Dz(a b:Item):(gj a b=true∧iP a b=-1)∨(a=b∧iP a b=0)∨(gj b a=true∧iP a b=1):=by
 obtain ⟨m,n⟩:=a;obtain ⟨m',n'⟩:=b;simp only[iP,gj,decide_eq_true_eq,Item.mk.injEq];rcases Dy m m' with ⟨h,e⟩ | ⟨h,e⟩ | ⟨h,e⟩ <;>rw[e]
 ·simp;omega
 ·rcases Dy n n' with ⟨h2,e2⟩ | ⟨h2,e2⟩ | ⟨h2,e2⟩ <;>rw[e2] <;>simp <;>omega
 ·simp;omega
theorem sh(a:Item):gj a a=false:=by simp only[gj,decide_eq_false_iff_not];omega
theorem xv{a b c:Item}(h:gj a b=true)(k:gj b c=true):gj a c=true:=by
 simp only[gj,decide_eq_true_eq] at *;omega
theorem DA(a b:Item):decide (iP a b<0)=gj a b:=by
 rcases Dz a b with ⟨h,e⟩ | ⟨rfl,e⟩ | ⟨h,e⟩
 ·rw[e,h];rfl
 ·rw[e,sh];rfl
 ·rw[e];cases k:gj a b
  ·rfl
  ·have:=xv k h;rw[sh] at this;cases this
theorem Ps(a b:Item):(iP a b==0)=decide (a=b):=by
 rcases Dz a b with ⟨h,e⟩ | ⟨rfl,e⟩ | ⟨h,e⟩
 ·rw[e,decide_eq_false (fun k=>by rw[k,sh] at h;cases h)];rfl
 ·rw[e];simp
 ·rw[e,decide_eq_false (fun k=>by rw[k,sh] at h;cases h)];rfl
theorem Be(n:Int):aP Tryz.prog 175 [enc n] (enc false):=by
 refine aP.bM Tryz.func175 MV Oy Qa (t7 rfl) (fun hwf W0 bI E1 =>?_);simp only[c175,HO,bC];clear hwf;have q:(n != n)=false:=by simp
 have R:=y6 @q aw
 repeat' ((first |refine ab.aA (by decide +kernel) rfl fun K hK =>?_|(refine .av [0,2] hK ?_;clear hK K)|(with_reducible refine .done (hK _ ?_);clear hK K)|refine ab.of rfl ?_|(with_reducible refine ar.az (fun h =>?_) (fun h =>?_) <;>try simp only[h])) <;>try simp only[aB,R,simprocAttr])
 all_goals clear R
 all_goals rfl
theorem Bd(a b:Int):aP Tryz.prog 161 [enc a,enc b] (enc (fy a b)):=by
 refine aP.bM Tryz.func161 MS Ou P6 (t7 rfl) (fun hwf W0 bI E1 =>?_);simp only[CD,HK,bC,zz4];clear hwf;have f1:=Be a;have f2:=Be b;simp only[fy];cases q1:decide (a<b)
 ·rw[if_neg (of_decide_eq_false q1)];cases q2:decide (a>b)
  ·rw[if_neg (of_decide_eq_false q2)];have R:=y6 @q1 (y6 @q2 aw)
   repeat' ((first |refine ab.aA (by decide +kernel) rfl fun K hK =>?_|refine .flat _ (f1) rfl ?_|refine .flat _ (f2) rfl ?_|(refine .av [0,1,4,5,6,11,12,13,16,19] hK ?_;clear hK K)|(with_reducible refine .done (hK _ ?_);clear hK K)|refine ab.of rfl ?_|(with_reducible refine ar.az (fun h =>?_) (fun h =>?_) <;>try simp only[h])) <;>try simp only[aB,R,simprocAttr])
   all_goals clear R
   all_goals rfl
  ·rw[if_pos (of_decide_eq_true q2)];have R:=y6 @q1 (y6 @q2 aw)
   repeat' ((first |refine ab.aA (by decide +kernel) rfl fun K hK =>?_|refine .flat _ (f1) rfl ?_|refine .flat _ (f2) rfl ?_|(refine .av [0,1,4,5,6,11,12,13,16,19] hK ?_;clear hK K)|(with_reducible refine .done (hK _ ?_);clear hK K)|refine ab.of rfl ?_|(with_reducible refine ar.az (fun h =>?_) (fun h =>?_) <;>try simp only[h])) <;>try simp only[aB,R,simprocAttr])
   all_goals clear R
   all_goals rfl
 ·rw[if_pos (of_decide_eq_true q1)];have R:=y6 @q1 aw
  repeat' ((first |refine ab.aA (by decide +kernel) rfl fun K hK =>?_|refine .flat _ (f1) rfl ?_|refine .flat _ (f2) rfl ?_|(refine .av [0,1,4,5,6,11,12,13,16,19] hK ?_;clear hK K)|(with_reducible refine .done (hK _ ?_);clear hK K)|refine ab.of rfl ?_|(with_reducible refine ar.az (fun h =>?_) (fun h =>?_) <;>try simp only[h])) <;>try simp only[aB,R,simprocAttr])
  all_goals clear R
  all_goals rfl
theorem Kq(a b:Int):aP Tryz.prog 160 [enc [a,b]] (enc (if a≠0 then a else b)):=by
 refine aP.bM Tryz.func160 MR Ot P5 (t7 rfl) (fun hwf W0 bI E1 =>?_);simp only[CC,HJ,bC];clear hwf;have h0:∀ A,jY A 1 ((0:Nat):Int) (enc [a,b])=some (.ref (enc a)):=fun A=>gB (A:=A) (l:=[a,b]) (k:=0) 1 (by simp) rfl;have h1:∀ A,jY A 1 ((1:Nat):Int) (enc [a,b])=some (.ref (enc b)):=fun A=>gB (A:=A) (l:=[a,b]) (k:=1) 1 (by simp) rfl;have hl:([a,b]:List Int).length=2:=rfl;obtain ⟨l,hll⟩:∃ l,l=[a,b]:=⟨_,rfl⟩
 rw[←hll] at h0 h1 hl ⊢;have R:=aw
 repeat' ((first |refine ab.aA (by decide +kernel) rfl fun K hK =>?_|(refine .av [0,2,3,5,6,7,8,9,14] hK ?_;clear hK K)|(with_reducible refine .done (hK _ ?_);clear hK K)|refine ab.of rfl ?_|(with_reducible refine ar.az (fun h =>?_) (fun h =>?_) <;>try simp only[h])) <;>try simp only[aB,R,simprocAttr])
 all_goals clear R
 refine ab.loop (fun i:Nat=>aC [(0,enc l),(3,.int .i64 0),(6,enc l),(7,.int .i64 (l.length:Int)),(8,.int .i64 (i:Int))] []) (fun i=>i≤2∧(0<i→a=0)∧(1<i→b=0)) (fun i=>2-i) 0 ⟨by omega,by omega,by omega⟩ ?_ ?_
 ·refine bt.cF ?_ ?_ ?_ ?_ <;>simp[bT,bZ,bU,bB,bJ,I.only,bg]
  all_goals rfl
 rintro i ⟨hi,k0,k1⟩;have hw:=eO (i:=i) (by omega);by_cases e0:i=0
 ·have hc:=ga (show i<l.length by omega);have he:∀ A,jY A 1 (i:Int) (enc l)=some (.ref (enc a)):=fun A=>by rw[e0];exact h0 A
  cases q:(a != 0)
  ·have R:=y6 @hc (y6 @he (y6 @q (y6 @hw aw)))
   repeat' ((first |refine ab.aA (by decide +kernel) rfl fun K hK =>?_|(refine .av [0,2,3,5,6,7,8,9,14] hK ?_;clear hK K)|(with_reducible refine .done (hK _ ?_);clear hK K)|refine ab.of rfl ?_|(with_reducible refine ar.az (fun h =>?_) (fun h =>?_) <;>try simp only[h])) <;>try simp only[aB,R,simprocAttr])
   all_goals clear R
   refine ⟨i+1,⟨by omega,fun _=>by simpa using q,by omega⟩,by omega,?_⟩;refine bt.cF ?_ ?_ ?_ ?_ <;>simp[bT,bZ,bU,bB,bJ,I.only,bg]
   all_goals rfl
  ·have ha:a≠0:=by simpa using q
   rw[if_pos ha];have R:=y6 @hc (y6 @he (y6 @q (y6 @hw aw)))
   repeat' ((first |refine ab.aA (by decide +kernel) rfl fun K hK =>?_|(refine .av [0,2,3,5,6,7,8,9,14] hK ?_;clear hK K)|(with_reducible refine .done (hK _ ?_);clear hK K)|refine ab.of rfl ?_|(with_reducible refine ar.az (fun h =>?_) (fun h =>?_) <;>try simp only[h])) <;>try simp only[aB,R,simprocAttr])
   all_goals clear R
   all_goals rfl
 have ha:¬ a≠0:=fun h=>h (k0 (by omega));by_cases e1:i=1
 ·have hc:=ga (show i<l.length by omega);have he:∀ A,jY A 1 (i:Int) (enc l)=some (.ref (enc b)):=fun A=>by rw[e1];exact h1 A
  cases q:(b != 0)
  ·have R:=y6 @hc (y6 @he (y6 @q (y6 @hw aw)))
   repeat' ((first |refine ab.aA (by decide +kernel) rfl fun K hK =>?_|(refine .av [0,2,3,5,6,7,8,9,14] hK ?_;clear hK K)|(with_reducible refine .done (hK _ ?_);clear hK K)|refine ab.of rfl ?_|(with_reducible refine ar.az (fun h =>?_) (fun h =>?_) <;>try simp only[h])) <;>try simp only[aB,R,simprocAttr])
   all_goals clear R
   refine ⟨i+1,⟨by omega,fun _=>k0 (by omega),fun _=>by simpa using q⟩,by omega,?_⟩;refine bt.cF ?_ ?_ ?_ ?_ <;>simp[bT,bZ,bU,bB,bJ,I.only,bg]
   all_goals rfl
  ·rw[if_neg ha];have R:=y6 @hc (y6 @he (y6 @q (y6 @hw aw)))
   repeat' ((first |refine ab.aA (by decide +kernel) rfl fun K hK =>?_|(refine .av [0,2,3,5,6,7,8,9,14] hK ?_;clear hK K)|(with_reducible refine .done (hK _ ?_);clear hK K)|refine ab.of rfl ?_|(with_reducible refine ar.az (fun h =>?_) (fun h =>?_) <;>try simp only[h])) <;>try simp only[aB,R,simprocAttr])
   all_goals clear R
   all_goals rfl
 have hc:=gM (show ¬ i<l.length by omega);rw[if_neg ha,k1 (by omega)];have R:=y6 @hc aw
 repeat' ((first |refine ab.aA (by decide +kernel) rfl fun K hK =>?_|(refine .av [0,2,3,5,6,7,8,9,14] hK ?_;clear hK K)|(with_reducible refine .done (hK _ ?_);clear hK K)|refine ab.of rfl ?_|(with_reducible refine ar.az (fun h =>?_) (fun h =>?_) <;>try simp only[h])) <;>try simp only[aB,R,simprocAttr])
 all_goals clear R
 all_goals rfl
theorem Kj(a b:Item):aP Tryz.prog 140 [enc a,enc b] (enc (iP a b)):=by
 refine aP.bM Tryz.func140 ME Og PW (t7 rfl) (fun hwf W0 bI E1 =>?_);simp only[Ct,Hz,bC,zz4];clear hwf;have f1:=Bd a.aI b.aI;have f2:=Bd a.no b.no;have f3:=Kq (fy a.aI b.aI) (fy a.no b.no);have hbs:iO 1 (some [.int .i64 (fy a.aI b.aI),.int .i64 (fy a.no b.no)])=some (enc [fy a.aI b.aI,fy a.no b.no]):=xB (ys:=[fy a.aI b.aI,fy a.no b.no]) 1 rfl;have R:=y6 @hbs aw
 repeat' ((first |refine ab.aA (by decide +kernel) rfl fun K hK =>?_|refine .flat _ (f1) rfl ?_|refine .flat _ (f2) rfl ?_|refine .flat _ (f3) rfl ?_|(refine .av [0,1,2,3,4] hK ?_;clear hK K)|(with_reducible refine .done (hK _ ?_);clear hK K)|refine ab.of rfl ?_|(with_reducible refine ar.az (fun h =>?_) (fun h =>?_) <;>try simp only[h])) <;>try simp only[aB,R,simprocAttr])
 all_goals clear R
 all_goals rfl
theorem A8(x:ah)(a:Item):aP Tryz.prog 139 [enc x,enc a] (enc (iP x.bw a)):=by
 refine aP.bM Tryz.func139 MC Oe PU (t7 rfl) (fun hwf W0 bI E1 =>?_);simp only[Cr,Hx,bC,zz4];clear hwf;have R:=aw
 repeat' ((first |refine ab.aA (by decide +kernel) rfl fun K hK =>?_|refine .flat _ (Kj x.bw a) rfl ?_|(refine .av [0,1,2,3,4] hK ?_;clear hK K)|(with_reducible refine .done (hK _ ?_);clear hK K)|refine ab.of rfl ?_|(with_reducible refine ar.az (fun h =>?_) (fun h =>?_) <;>try simp only[h])) <;>try simp only[aB,R,simprocAttr])
 all_goals clear R
 all_goals rfl
theorem ahJ(x y:Nat)(h:x+y<9223372036854775807):IntKind.i64.wrap ((x:Int)+(y:Int))=((x+y:Nat):Int):=by rw[eX _ (by omega) (by omega)];omega
theorem ahK{n:Nat}(h:n≤9223372036854775807):IntKind.i64.wrap (n:Int)=(n:Int):=eX _ (by omega) (by omega)
theorem zk(x:Nat):Int.fdiv (x:Int) (2^min (Int.toNat 1) IntKind.u64.bits)=((x / 2:Nat):Int):=by
 have:min (Int.toNat 1) IntKind.u64.bits=1:=rfl;rw[this]
 show Int.fdiv (x:Int) 2=_
 rw[Int.fdiv_eq_ediv_of_nonneg _ (by decide)];rfl
theorem Ga(x:Nat):Int.fdiv (x:Int) (2^min 1 IntKind.u64.bits)=((x / 2:Nat):Int):=zk x
theorem aen{x:Nat}(h:x<9223372036854775807):IntKind.u64.wrap (x:Int)=(x:Int):=by
 simp only[IntKind.wrap,IntKind.bits,IntKind.signed];simp;omega
theorem F9:((0:Int)≤1)=True:=by simp
abbrev mV(l:List ah):Prop:=l.Pairwise fun a b=>dY a b=true
def fT(l:List ah)(a:Item):Nat:=l.findIdx fun x => !gj x.bw a
def jD(l:List ah)(a:Item):Bool:=l.any fun x=>decide (x.bw=a)
theorem afM(l:List ah)(a:Item):fT l a≤l.length:=List.findIdx_le_length
theorem Ay{l:List ah}(h:mV l){i j:Nat}(hij:i<j)(hj:j<l.length):gj (l[i]'(by omega)).bw l[j].bw=true:=List.pairwise_iff_getElem.1 h i j (by omega) hj hij
theorem zO{l:List ah}{a:Item}{i:Nat}(hi:i≤l.length)(h1:∀ k (h:k<l.length),k<i→gj l[k].bw a=true)(h2:∀ h:i<l.length,gj l[i].bw a=false):fT l a=i:=by
 simp only[fT];by_cases hlt:i<l.length
 ·refine (List.findIdx_eq hlt).2 ⟨by rw[h2 hlt];rfl,fun j hj =>?_⟩;rw[h1 j (by omega) hj];rfl
 ·have e:i=l.length:=by omega
  rw[e];refine List.findIdx_eq_length.2 fun x hx =>?_;obtain ⟨k,hk,rfl⟩:=List.getElem_of_mem hx;rw[h1 k hk (by omega)];rfl
theorem yR{l:List ah}(hs:mV l)(a:Item):jD l a=true↔∃ h:fT l a<l.length,(l[fT l a]).bw=a:=by
 constructor
 ·intro h;simp only[jD,List.any_eq_true,decide_eq_true_eq] at h;obtain ⟨x,hx,rfl⟩:=h;obtain ⟨k,hk,rfl⟩:=List.getElem_of_mem hx;have h1:fT l l[k].bw=k:=zO (by omega) (fun j hj hjk=>Ay hs hjk hk) (fun _=>sh _);exact ⟨by omega,by simp only[h1]⟩
 ·rintro ⟨h1,h2⟩;simp only[jD,List.any_eq_true,decide_eq_true_eq];exact ⟨_,zv4 h1,h2⟩
theorem Kh(l:List ah)(a:Item)(hs:mV l)(hl:l.length≤1000):aP Tryz.prog 138 [enc l,enc a,.func 139 []] (.tuple [enc (fT l a:Int),enc (jD l a)]):=by
 refine aP.bM Tryz.func138 MB Od PT (t7 rfl) (fun hwf W0 bI E1 =>?_);simp only[Cq,Hw,bC,zz4,Nat.reduceAdd];clear hwf;have R:=aw
 repeat' ((first |(with_reducible refine .guard (fun hb =>?_) (fun hb =>?_) <;>try simp only[hb])|refine ab.aA (by decide +kernel) rfl fun K hK =>?_|(refine .av [0,1,2,4,6,7,8,9,10,11,17,31] hK ?_;clear hK K)|(with_reducible refine .done (hK _ ?_);clear hK K)|refine ab.of rfl ?_|(with_reducible refine ar.az (fun h =>?_) (fun h =>?_) <;>try simp only[h])) <;>try simp only[aB,R,simprocAttr])
 all_goals clear R
 refine ab.loop (fun s:Nat×Nat=>aC [(0,enc l),(2,.func 139 []),(4,.ptr 4 []),(8,.int .i64 l.length),(9,.int .i64 s.1),(10,.int .i64 s.2)] [(4,.box (enc a))]) (fun s=>s.1≤s.2∧s.2≤l.length∧(∀ k (h:k<l.length),k<s.1→gj l[k].bw a=true)∧∀ k (h:k<l.length),s.2≤k→gj l[k].bw a=false) (fun s=>s.2-s.1) (0,l.length) ⟨zv6 _,zy1 _,fun k _ hk=>by omega,fun k h1 h2=>by simp only at h2;omega⟩ ?_ ?_
 ·refine bt.cF ?_ ?_ ?_ ?_ <;>simp[bT,bZ,bU,bB,ay,bJ,dz,I.only,I.bY,al.only,bg]
  all_goals rfl
 rintro ⟨i,j⟩ ⟨h1,h2,h3,h4⟩;simp only at h1 h2 h3 h4 ⊢;by_cases hlt:i<j
 ·have hc:=ga hlt;have w1:=ahJ i j (by omega);have w2:=aen (x:=i+j) (by omega);obtain ⟨h,hh⟩:∃ h,h=(i+j) / 2:=⟨_,rfl⟩
  have w5:=ahK (n:=h) (by omega);have hhl:h<l.length:=by omega
  have he:=fun A=>gB (A:=A) 8 hhl rfl;have hn:=DA l[h].bw a;have hw:=eO (i:=h) (by omega);have f139:=A8 l[h] a;rcases hb:gj l[h].bw a
  ·rw[hb] at hn;have hlo:∀ k (h':k<l.length),h≤k→gj l[k].bw a=false:=fun k hkl hk=>by
    cases hbk:gj l[k].bw a with
    |false=>rfl
    |true =>
     by_cases e:k=h
     ·subst e;rw[hb] at hbk;cases hbk
     ·have:=xv (Ay hs (show h<k by omega) hkl) hbk;rw[this] at hb;cases hb
   clear hb;generalize l[h]=r at *;have R:=y6 @hc (y6 @w1 (y6 @w2 (y6 @w5 (y6 @he (y6 @hn (y6 @hw (y6 @Ga (y6 @zk (y6 @F9 (y6 @iR aw))))))))))
   repeat' ((first |(with_reducible refine .guard (fun hb =>?_) (fun hb =>?_) <;>try simp only[hb])|refine ab.aA (by decide +kernel) rfl fun K hK =>?_|refine .flat _ (f139) rfl ?_|(refine .av [0,1,2,4,6,7,8,9,10,11,17,31] hK ?_;clear hK K)|(with_reducible refine .done (hK _ ?_);clear hK K)|refine ab.of rfl ?_|(with_reducible refine ar.az (fun h =>?_) (fun h =>?_) <;>try simp only[h])) <;>try simp only[aB,R,←hh,zz8,simprocAttr])
   all_goals clear R
   refine ⟨(i,h),⟨by simp only;omega,by simp only;omega,h3,hlo⟩,by simp only;omega,?_⟩;clear hlo;refine bt.cF ?_ ?_ ?_ ?_ <;>simp[bT,bZ,bU,bB,ay,bJ,dz,I.only,I.bY,al.only,bg]
   all_goals rfl
  ·rw[hb] at hn;have hhi:∀ k (h':k<l.length),k<h+1→gj l[k].bw a=true:=fun k hkl hk=>by
    by_cases e:k=h
    ·subst e;exact hb
    ·cases hbk:gj l[k].bw a with
     |true=>rfl
     |false =>
      have:=xv (Ay hs (show k<h by omega) hhl) hb;rw[this] at hbk;cases hbk
   clear hb;generalize l[h]=r at *;have R:=y6 @hc (y6 @w1 (y6 @w2 (y6 @w5 (y6 @he (y6 @hn (y6 @hw (y6 @Ga (y6 @zk (y6 @F9 (y6 @iR aw))))))))))
   repeat' ((first |(with_reducible refine .guard (fun hb =>?_) (fun hb =>?_) <;>try simp only[hb])|refine ab.aA (by decide +kernel) rfl fun K hK =>?_|refine .flat _ (f139) rfl ?_|(refine .av [0,1,2,4,6,7,8,9,10,11,17,31] hK ?_;clear hK K)|(with_reducible refine .done (hK _ ?_);clear hK K)|refine ab.of rfl ?_|(with_reducible refine ar.az (fun h =>?_) (fun h =>?_) <;>try simp only[h])) <;>try simp only[aB,R,←hh,zz8,simprocAttr])
   all_goals clear R
   refine ⟨(h+1,j),⟨by simp only;omega,h2,hhi,h4⟩,by simp only;omega,?_⟩;clear hhi;refine bt.cF ?_ ?_ ?_ ?_ <;>simp[bT,bZ,bU,bB,ay,bJ,dz,I.only,I.bY,al.only,bg]
   all_goals rfl
 ·have hij:i=j:=by omega
  subst hij;have hc:=gM hlt;have hp:fT l a=i:=zO h2 h3 fun h=>h4 i h (zy1 _);have hh:=yR hs a;rw[hp];by_cases hil:i<l.length
  ·have hc2:=ga hil;have he:=fun A=>gB (A:=A) 8 hil rfl;have hz:=Ps l[i].bw a;have hhz:jD l a=decide (l[i].bw=a):=by
    rw[Bool.eq_iff_iff,hh,decide_eq_true_eq];constructor
    ·rintro ⟨_,e⟩;simp only[hp] at e;exact e
    ·intro e;exact ⟨by omega,by simp only[hp];exact e⟩
   have f139:=A8 l[i] a;rw[hhz];clear hhz h3 h4;generalize l[i]=r at *;have R:=y6 @hc (y6 @hc2 (y6 @he (y6 @hz (y6 @iR aw))))
   repeat' ((first |(with_reducible refine .guard (fun hb =>?_) (fun hb =>?_) <;>try simp only[hb])|refine ab.aA (by decide +kernel) rfl fun K hK =>?_|refine .flat _ (f139) rfl ?_|(refine .av [0,1,2,4,6,7,8,9,10,11,17,31] hK ?_;clear hK K)|(with_reducible refine .done (hK _ ?_);clear hK K)|refine ab.of rfl ?_|(with_reducible refine ar.az (fun h =>?_) (fun h =>?_) <;>try simp only[h])) <;>try simp only[aB,R,zz8,simprocAttr])
   all_goals clear R
   all_goals rfl
  ·have hc2:=gM hil;have hhz:jD l a=false:=by
    cases q:jD l a
    ·rfl
    ·obtain ⟨h,_⟩:=hh.1 q;omega
   rw[hhz];have R:=y6 @hc (y6 @hc2 aw)
   repeat' ((first |(with_reducible refine .guard (fun hb =>?_) (fun hb =>?_) <;>try simp only[hb])|refine ab.aA (by decide +kernel) rfl fun K hK =>?_|(refine .av [0,1,2,4,6,7,8,9,10,11,17,31] hK ?_;clear hK K)|(with_reducible refine .done (hK _ ?_);clear hK K)|refine ab.of rfl ?_|(with_reducible refine ar.az (fun h =>?_) (fun h =>?_) <;>try simp only[h])) <;>try simp only[aB,R,simprocAttr])
   all_goals clear R
   all_goals rfl
theorem KJ(l:List ah)(a:Item)(hs:mV l)(hl:l.length≤1000):aP Tryz.prog 94 [enc (⟨l⟩:iL),enc a] (.tuple [enc (fT l a:Int),enc (jD l a)]):=by
 have hF:=Kh l a hs hl;refine aP.bM Tryz.func94 ND Pa QN (t7 rfl) (fun hwf W0 bI E1 =>?_);simp only[Dd,Iu,bC,zz4];clear hwf;have R:=aw
 repeat' ((first |refine ab.aA (by decide +kernel) rfl fun K hK =>?_|refine .lead _ (hF) ?_|(refine .av [0,1,2,3,4,5] hK ?_;clear hK K)|(with_reducible refine .done (hK _ ?_);clear hK K)|refine ab.of rfl ?_|(with_reducible refine ar.az (fun h =>?_) (fun h =>?_) <;>try simp only[h])) <;>try simp only[aB,R,simprocAttr])
 all_goals clear R
 all_goals rfl
def np(x:ah):List ah→Nat→Int
 | [],_=>-1
 |r::l,i=>if x=r then (i:Int) else np x l (i+1)
theorem Fo(x:ah):∀ (l:List ah) (i:Nat),decide (np x l i≥0)=decide (x∈l)
 | [],i=>by simp[np]
 |r::l,i=>by
  rw[np];by_cases h:x=r
  ·rw[if_pos h];subst h;simp
  ·rw[if_neg h,Fo x l (i+1)];simp[h]
theorem Kp(l:List ah)(x:ah)(hl:l.length≤4000000000000):aP Tryz.prog 159 [enc l,enc x] (enc (np x l 0)):=by
 refine aP.bM Tryz.func159 MQ Oq P4 (t7 rfl) (fun hwf W0 bI E1 =>?_);simp only[CB,HI,bC,zz4];clear hwf;have R:=aw
 repeat' ((first |refine ab.aA (by decide +kernel) rfl fun K hK =>?_|(refine .av [0,1,3,4,5,7,8,9,16] hK ?_;clear hK K)|(with_reducible refine .done (hK _ ?_);clear hK K)|refine ab.of rfl ?_|(with_reducible refine ar.az (fun h =>?_) (fun h =>?_) <;>try simp only[h])) <;>try simp only[aB,R,simprocAttr])
 all_goals clear R
 refine ab.loop (fun i:Nat=>aC [(0,enc l),(3,.ptr 3 []),(7,.int .i64 l.length),(8,.int .i64 i)] [(3,.box (enc x))]) (fun i=>i≤l.length∧np x l 0=np x (l.drop i) i) (fun i=>l.length-i) 0 ⟨zv6 _,by simp⟩ ?_ ?_
 ·refine bt.cF ?_ ?_ ?_ ?_ <;>simp[bT,bZ,bU,bB,ay,bJ,dz,I.only,al.only,bg]
  all_goals rfl
 rintro i ⟨hi,heq⟩;rw[heq];by_cases hlt:i<l.length
 ·have hlc:=ga hlt;have he:=fun A=>gB (A:=A) 8 hlt rfl;have hw:=eO (i:=i) (by omega);have hd:=zu3 hlt;rw[hd,np] at heq ⊢;generalize l[i]=r at *;by_cases q:x=r
  ·rw[if_pos q];have q1:decide (x=r)=true:=decide_eq_true q;have R:=y6 @hlc (y6 @he (y6 @hw (y6 @q1 aw)))
   repeat' ((first |refine ab.aA (by decide +kernel) rfl fun K hK =>?_|(refine .av [0,1,3,4,5,7,8,9,16] hK ?_;clear hK K)|(with_reducible refine .done (hK _ ?_);clear hK K)|refine ab.of rfl ?_|(with_reducible refine ar.az (fun h =>?_) (fun h =>?_) <;>try simp only[h])) <;>try simp only[aB,R,simprocAttr])
   all_goals clear R
   all_goals rfl
  ·rw[if_neg q] at heq ⊢;have q1:decide (x=r)=false:=decide_eq_false q;have R:=y6 @hlc (y6 @he (y6 @hw (y6 @q1 aw)))
   repeat' ((first |refine ab.aA (by decide +kernel) rfl fun K hK =>?_|(refine .av [0,1,3,4,5,7,8,9,16] hK ?_;clear hK K)|(with_reducible refine .done (hK _ ?_);clear hK K)|refine ab.of rfl ?_|(with_reducible refine ar.az (fun h =>?_) (fun h =>?_) <;>try simp only[h])) <;>try simp only[aB,R,simprocAttr])
   all_goals clear R
   refine ⟨i+1,⟨by omega,rfl⟩,by omega,?_⟩;clear hd heq;refine bt.cF ?_ ?_ ?_ ?_ <;>simp[bT,bZ,bU,bB,ay,bJ,dz,I.only,al.only,bg]
   all_goals rfl
 ·have hlc:=gM hlt;rw[zv9 (by omega),np];have R:=y6 @hlc aw
  repeat' ((first |refine ab.aA (by decide +kernel) rfl fun K hK =>?_|(refine .av [0,1,3,4,5,7,8,9,16] hK ?_;clear hK K)|(with_reducible refine .done (hK _ ?_);clear hK K)|refine ab.of rfl ?_|(with_reducible refine ar.az (fun h =>?_) (fun h =>?_) <;>try simp only[h])) <;>try simp only[aB,R,simprocAttr])
  all_goals clear R
  all_goals rfl
theorem Kf(l:List ah)(x:ah)(hl:l.length≤4000000000000):aP Tryz.prog 136 [enc l,enc x] (enc (decide (x∈l))):=by
 refine aP.bM Tryz.func136 Mz Ob PR (t7 rfl) (fun hwf W0 bI E1 =>?_);simp only[Co,Hu,bC,zz4];clear hwf;have f:=Kp l x hl;have h:=Fo x l 0;have R:=y6 @h aw
 repeat' ((first |refine ab.aA (by decide +kernel) rfl fun K hK =>?_|refine .flat _ (f) rfl ?_|(refine .av [0,1,3,4] hK ?_;clear hK K)|(with_reducible refine .done (hK _ ?_);clear hK K)|refine ab.of rfl ?_|(with_reducible refine ar.az (fun h =>?_) (fun h =>?_) <;>try simp only[h])) <;>try simp only[aB,R,simprocAttr])
 all_goals clear R
 all_goals rfl
def iZ(l:List ah):Item:=match l.getLast? with
 |none=>⟨-1,0⟩
 |some a=>a.bw
theorem ahq(l:List ah)(r:ah):jS l r=(decide (r.bw=⟨(iZ l).aI,(iZ l).no+1⟩)||(!decide (r.aI≤(iZ l).aI) && !(r.no != 0))):=by
 have e:∀ p:Item,decide ((r.aI=p.aI∧r.no=p.no+1)∨(p.aI<r.aI∧r.no=0))=(decide (r.bw=⟨p.aI,p.no+1⟩)||(!decide (r.aI≤p.aI) && !(r.no != 0))):=fun p=>by
  rw[Bool.eq_iff_iff];simp[ah.bw]
 rcases h:l.getLast? with _ | a
 ·have h1:jS l r=decide ((r.aI=-1∧r.no=1)∨(-1<r.aI∧r.no=0)):=by rw[jS,h]
  have h2:iZ l=⟨-1,0⟩:=by rw[iZ,h]
  rw[h1,h2];exact e ⟨-1,0⟩
 ·have h1:jS l r=decide ((r.aI=a.aI∧r.no=a.no+1)∨(a.aI<r.aI∧r.no=0)):=by rw[jS,h]
  have h2:iZ l=a.bw:=by rw[iZ,h]
  rw[h1,h2];exact e a.bw
def kM(l:List ah):Bool:=fW (fun out r=>bj r&&jS out r) [] l&&decide (l.length≤60)
theorem K4{aS:List ah→ah→Bool}{l:List ah}{i:Nat}(h:i<l.length):fW aS (l.take i) (l.drop i)=(aS (l.take i) l[i]&&fW aS (l.take (i+1)) (l.drop (i+1))):=by
 rw[zu3 h,fW,←lX h]
theorem DY:I.agg [enc (⟨0,0⟩:Item),.int .i64 0,.int .i64 0,.int .i64 0,enc (⟨0,0⟩:Item),.ak ⟨#[]⟩]=enc (default:ah):=rfl
theorem Jy:(∀ A n b rest (q r:Item),de A (some 2) n [] b (enc q) rest (some (enc r))=au rest (A.aM n (.box (enc q))))∧fi [.int .i64 0,.int .i64 0] [(0,.int .i64 (-1))]=some [.int .i64 (-1),.int .i64 0]∧I.agg [.int .i64 (-1),.int .i64 0]=enc (⟨-1,0⟩:Item) ∧
  (∀ (x:Item),(I.agg [.int .i64 x.aI,.int .i64 (x.no+1)])=enc (⟨x.aI,x.no+1⟩:Item)) :=
 ⟨fun A n b rest q r=>by rw[dS (dH _) (by rw[eQ];rfl) ((cM _).trans (cM _).symm),ez],rfl,rfl,fun _=>rfl⟩
theorem afP{l:List ah}{i:Nat}(h:i<l.length):iZ (l.take (i+1))=l[i].bw:=by
 rw[iZ,lX h,List.getLast?_concat]
theorem afQ{l:List ah}(h:∀ r∈l,bj r=true):-1≤(iZ l).aI∧(iZ l).aI≤5∧0≤(iZ l).no∧(iZ l).no≤9999:=by
 rw[iZ];cases e:l.getLast? with
 |none=>simp
 |some a =>
  have:=nw (ny (h a (List.mem_of_getLast? e)));simp only[ah.bw];omega
theorem Br(l:List ah)(hl:l.length≤4000000000000):aP Tryz.prog 92 [enc (⟨l⟩:iL)] (enc (kM l)):=by
 refine aP.bM Tryz.func92 NC O9 QM (t7 rfl) (fun hwf W0 bI E1 =>?_);simp only[Dc,It,bC];clear hwf;have R:=aw
 repeat' ((first |(with_reducible refine .guard (fun hb =>?_) (fun hb =>?_) <;>try simp only[hb])|refine ab.aA (by decide +kernel) rfl fun K hK =>?_|(refine .av [0,1,2,3,4,5,7,8,9,10,16,19,49] hK ?_;clear hK K)|(with_reducible refine .done (hK _ ?_);clear hK K)|refine ab.of rfl ?_|(with_reducible refine ar.az (fun h =>?_) (fun h =>?_) <;>try simp only[h])) <;>try simp only[aB,R,simprocAttr])
 all_goals clear R
 refine ab.loop (fun i:Nat=>aC [(1,.ptr 1 []),(7,enc l),(8,.int .i64 l.length),(9,.int .i64 i)] [(1,.box (enc (⟨l⟩:iL)))]) (fun i=>i≤l.length∧(∀ r∈l.take i,bj r=true)∧kM l=(fW (fun out r=>bj r&&jS out r) (l.take i) (l.drop i)&&decide (l.length≤60))) (fun i=>l.length-i) 0 ⟨zv6 _,by simp,rfl⟩ ?_ ?_
 ·refine bt.cF ?_ ?_ ?_ ?_ <;>simp[bT,bZ,bU,bB,ay,bJ,dz,I.only,al.only,bg]
  all_goals rfl
 rintro i ⟨hi,hk,heq⟩;rw[heq];by_cases hlt:i<l.length
 ·have hlc:=ga hlt;have he:=fun A=>gB (A:=A) 8 hlt rfl;have hw:=eO (i:=i) (by omega);have hnx:=zC hlt hk;have hpi:=afQ hk;have hst:=ahq (l.take i) l[i];rw[K4 hlt] at heq ⊢;have hpz:i=0→iZ (l.take i)=⟨-1,0⟩:=fun e=>by subst e;rfl
  have hps:∀ h:0<i,iZ (l.take i)=(l[i-1]'(by omega)).bw:=fun h=>by
   have:=afP (l:=l) (i:=i-1) (by omega)
   rwa [show i-1+1=i by omega] at this
  generalize l[i]=r at *;have f80:=qe r;cases q1:bj r
  ·rw[q1] at f80;have R:=y6 @hlc (y6 @he (y6 @hw (y6 @fB (y6 @fb aw))))
   repeat' ((first |(with_reducible refine .guard (fun hb =>?_) (fun hb =>?_) <;>try simp only[hb])|refine ab.aA (by decide +kernel) rfl fun K hK =>?_|refine .flat _ (f80) rfl ?_|(refine .av [0,1,2,3,4,5,7,8,9,10,16,19,49] hK ?_;clear hK K)|(with_reducible refine .done (hK _ ?_);clear hK K)|refine ab.of rfl ?_|(with_reducible refine ar.az (fun h =>?_) (fun h =>?_) <;>try simp only[h])) <;>try simp only[aB,R,simprocAttr])
   all_goals clear R
   all_goals rfl
  rw[q1] at f80;generalize iZ (l.take i)=p at *;have hww:IntKind.i64.wrap (p.no+1)=p.no+1:=eX _ (by omega) (by omega);rw[hst] at heq ⊢;by_cases hz:0<i
  ·have hgt:decide ((i:Int)>0)=true:=decide_eq_true (by omega);have hpe:=fun A=>gB (A:=A) (l:=l) (k:=i-1) 8 (by omega) rfl;have hw1:IntKind.i64.wrap ((i:Int)-1)=((i-1:Nat):Int):=by rw[eX _ (by omega) (by omega)];omega
   have hpm:=(hps hz).symm;clear hps hpz hst;generalize l[i-1]=q at *;cases c1:decide (r.bw=⟨p.aI,p.no+1⟩) <;>cases c2:decide (r.aI≤p.aI) <;>cases c3:(r.no != 0)
   all_goals
    rw[c1,c2,c3] at heq;have R:=y6 @hlc (y6 @he (y6 @hw (y6 @hgt (y6 @hpm (y6 @hpe (y6 @hw1 (y6 @hww (y6 @c1 (y6 @c2 (y6 @c3 (y6 @DY (y6 @fB (y6 @su (y6 @fb (y6 @Jy (y6 @qn aw))))))))))))))))
    repeat' ((first |(with_reducible refine .guard (fun hb =>?_) (fun hb =>?_) <;>try simp only[hb])|refine ab.aA (by decide +kernel) rfl fun K hK =>?_|refine .flat _ (f80) rfl ?_|(refine .av [0,1,2,3,4,5,7,8,9,10,16,19,49] hK ?_;clear hK K)|(with_reducible refine .done (hK _ ?_);clear hK K)|refine ab.of rfl ?_|(with_reducible refine ar.az (fun h =>?_) (fun h =>?_) <;>try simp only[h])) <;>try simp only[aB,R,simprocAttr])
    all_goals clear R
    all_goals first
     |rfl
     |(refine ⟨i+1,⟨by omega,hnx q1,by rfl⟩,by omega,?_⟩;clear heq hnx;(refine bt.cF ?_ ?_ ?_ ?_ <;>simp[bT,bZ,bU,bB,ay,bJ,dz,I.only,al.only,bg]);all_goals rfl)
  ·have hgt:decide ((i:Int)>0)=false:=decide_eq_false (by omega);have hpm:=(hpz (by omega)).symm;clear hps hpz hst;cases c1:decide (r.bw=⟨p.aI,p.no+1⟩) <;>cases c2:decide (r.aI≤p.aI) <;>cases c3:(r.no != 0)
   all_goals
    rw[c1,c2,c3] at heq;have R:=y6 @hlc (y6 @he (y6 @hw (y6 @hgt (y6 @hpm (y6 @hww (y6 @c1 (y6 @c2 (y6 @c3 (y6 @DY (y6 @fB (y6 @su (y6 @fb (y6 @Jy (y6 @qn aw))))))))))))))
    repeat' ((first |(with_reducible refine .guard (fun hb =>?_) (fun hb =>?_) <;>try simp only[hb])|refine ab.aA (by decide +kernel) rfl fun K hK =>?_|refine .flat _ (f80) rfl ?_|(refine .av [0,1,2,3,4,5,7,8,9,10,16,19,49] hK ?_;clear hK K)|(with_reducible refine .done (hK _ ?_);clear hK K)|refine ab.of rfl ?_|(with_reducible refine ar.az (fun h =>?_) (fun h =>?_) <;>try simp only[h])) <;>try simp only[aB,R,simprocAttr])
    all_goals clear R
    all_goals first
     |rfl
     |(refine ⟨i+1,⟨by omega,hnx q1,by rfl⟩,by omega,?_⟩;clear heq hnx;(refine bt.cF ?_ ?_ ?_ ?_ <;>simp[bT,bZ,bU,bB,ay,bJ,dz,I.only,al.only,bg]);all_goals rfl)
 ·have hlc:=gM hlt;rw[zv9 (by omega),fW];have hle:decide ((l.length:Int)≤60)=decide (l.length≤60):=by rw[decide_eq_decide];omega
  have R:=y6 @hlc (y6 @hle aw)
  repeat' ((first |(with_reducible refine .guard (fun hb =>?_) (fun hb =>?_) <;>try simp only[hb])|refine ab.aA (by decide +kernel) rfl fun K hK =>?_|(refine .av [0,1,2,3,4,5,7,8,9,10,16,19,49] hK ?_;clear hK K)|(with_reducible refine .done (hK _ ?_);clear hK K)|refine ab.of rfl ?_|(with_reducible refine ar.az (fun h =>?_) (fun h =>?_) <;>try simp only[h])) <;>try simp only[aB,R,simprocAttr])
  all_goals clear R
  all_goals rfl
theorem AK(l:List ah)(m:Nat):(l++List.replicate m cN).take l.length=l:=zu8
theorem qf(l:List ah)(hl:l.length≤1000):aP Tryz.prog 93 [enc l] (enc l):=by
 refine aP.bM Tryz.func93 Dn Du DI (t7 rfl) (fun hwf W0 bI E1 =>?_);simp only[xE,zV,bC];refine .ew (by decide +kernel) fun K hK =>?_;simp only[yJ,aZ,simprocAttr];refine .done (hK _ ?_);clear hK K;refine ab.seq (ab.seq ?_);by_cases hn:l=[]
 ·subst hn;refine .js (by decide +kernel) fun K hK =>?_;simp only[sH,aZ,simprocAttr];simp only[wT,List.isEmpty_nil,qX];refine .any rfl fun b _ =>?_
  try simp only[aZ,simprocAttr]
  generalize (b==0)=t;cases t
  ·refine .done (hK _ ?_);clear hK K;try simp only[di]
   refine ab.iT ?_;simp only[ar,aZ,simprocAttr];refine ⟨fun h =>?_,fun h =>?_⟩
   ·cases h
   refine ab.skip ?_;try simp only[di,simprocAttr]
   refine .ew (by decide +kernel) fun K hK =>?_;simp only[sI,aZ,simprocAttr]
   try simp only[fM,nd,aZ,simprocAttr]
   refine .done (hK _ ?_);clear hK K;refine ab.ret ?_;simp only[aZ,simprocAttr]
   all_goals rfl
  ·refine .done (hK _ ?_);clear hK K;refine ab.iT ?_;simp only[ar,aZ,simprocAttr];refine ⟨fun h =>?_,fun h =>?_⟩
   ·refine .ew (by decide +kernel) fun K hK =>?_;simp only[yK,aZ,simprocAttr];refine .done (hK _ ?_);clear hK K;refine ab.ret ?_;simp only[di,aZ,simprocAttr]
    all_goals rfl
   ·cases h
 ·have hu:kC (enc l)=false:=by rw[wT];simpa using hn
  refine .js (by decide +kernel) fun K hK =>?_;simp only[sH,aZ,simprocAttr]
  try simp only[hu,Gj _ l hn,aZ,simprocAttr]
  refine .done (hK _ ?_);clear hK K;try simp only[di]
  refine ab.iT ?_;simp only[ar,aZ,simprocAttr];refine ⟨fun h =>?_,fun h =>?_⟩
  ·cases h
  refine ab.skip ?_;try simp only[di,simprocAttr]
  refine .ew (by decide +kernel) fun K hK =>?_;simp only[sI,aZ,simprocAttr]
  try simp only[fM,nd,aZ,simprocAttr]
  refine aY.xp cN rfl hn rfl (by omega) (by simp only[maxLen];omega) fun m =>?_
  try simp only[aZ,simprocAttr]
  refine .done (hK _ ?_);clear hK K;refine ab.ret ?_;simp only[aZ,simprocAttr]
  try simp only[oj (α:=ah) (sz:=8) rfl,AK,aZ,simprocAttr]
def Fq(g:ah):cv:=fun r os'=>∃ q,r=.view 25 [] 8 0 1∧os'=fJ 25 [g] q
theorem Jj(A:af):j9 A 8 (some (.int .i64 0)) none none (.c0 8)=some (.slice 8 [])∧j9 A 8 (some (.int .i64 0)) none none (.nils 8)=some (.slice 8 []):=by
 constructor <;>simp[j9,jO,jj]
theorem J1(x:I)(hx:x=.nils 8∨x=.c0 8)(g:ah):ep Tryz.prog 101 [x,enc (0:Int),enc [g]] [] (Fq g):=by
 rcases hx with rfl | rfl
 ·refine ep.bM Tryz.func101 xF xI xQ (t7 rfl) (t7 rfl) (fun m hm=>by simp[ay,aq] at hm) (fun hwf W0 bI E1 =>?_);simp only[uz,wg,bC,zz4,Nat.reduceAdd];refine .ew (by decide +kernel) fun K hK =>?_;simp only[uV,aZ];refine .done (hK _ ?_);clear hK K;refine .ew (by decide +kernel) fun K hK =>?_;simp only[uW,aZ,Nat.reduceEqDiff,reduceIte]
  try simp only[zw2,(Jj _).2,aZ]
  refine .done (hK _ ?_);clear hK K;refine .ew (by decide +kernel) fun K hK =>?_;simp only[uX,aZ,Nat.reduceEqDiff,reduceIte]
  try simp only[typR,kD,lN,jW,aZ,Nat.reduceEqDiff,reduceIte,Int.reduceBNe,Int.reduceBEq]
  refine .done (hK _ ?_);clear hK K;refine ab.seq (ab.seq ?_);refine .js (by decide +kernel) fun K hK =>?_;simp only[uY,aZ,Nat.reduceEqDiff,reduceIte]
  try simp only[typR,kD,lN,jW,aZ,Nat.reduceEqDiff,reduceIte,Int.reduceBNe,Int.reduceBEq]
  refine .done (hK _ ?_);clear hK K;try simp only[di]
  refine ab.iT ?_;simp only[ar,aZ,Nat.reduceEqDiff,reduceIte];refine ⟨fun h =>?_,fun h =>?_⟩
  ·first | cases h | simp at h
  refine ab.skip ?_;try simp only[di]
  refine .ew (by decide +kernel) fun K hK =>?_;simp only[uZ,aZ,Nat.reduceEqDiff,reduceIte]
  try simp only[typR,kD,lN,jW,aZ,Nat.reduceEqDiff,reduceIte,Int.reduceBNe,Int.reduceBEq]
  refine .done (hK _ ?_);clear hK K;refine ab.seq (ab.seq ?_);refine .js (by decide +kernel) fun K hK =>?_;simp only[u3,aZ,Nat.reduceEqDiff,reduceIte,Int.reduceBEq]
  try simp only[typR,kD,lN,jW,aZ,Nat.reduceEqDiff,reduceIte,Int.reduceBNe,Int.reduceBEq]
  refine .done (hK _ ?_);clear hK K;try simp only[di]
  refine ab.iT ?_;simp only[ar,aZ,Nat.reduceEqDiff,reduceIte];refine ⟨fun h =>?_,fun h =>?_⟩
  case refine_2.refine_2=>first | cases h | simp at h
  refine .ew (by decide +kernel) fun K hK =>?_;simp only[sE,aZ,Nat.reduceEqDiff,reduceIte]
  try simp only[nd]
  refine aY.Lf (esz:=8) cN (l:=[g]) rfl (by simp) rfl (by simp) (by simp[maxLen]) fun q =>?_
  try simp only[aZ,Nat.reduceEqDiff,reduceIte]
  refine .done (hK _ ?_);clear hK K;refine ab.ret ?_;simp only[di,ky];exact ⟨fJ 25 [g] q,[.view 25 [] 8 0 1],km rfl (fun p=>fR p _),⟨⟨_,rfl,.inl ⟨rfl,rfl,rfl⟩⟩,trivial⟩,q,rfl,rfl⟩
 ·refine ep.bM Tryz.func101 xF xI xQ (t7 rfl) (t7 rfl) (fun m hm=>by simp[ay,aq] at hm) (fun hwf W0 bI E1 =>?_);simp only[uz,wg,bC,zz4,Nat.reduceAdd];refine .ew (by decide +kernel) fun K hK =>?_;simp only[uV,aZ];refine .done (hK _ ?_);clear hK K;refine .ew (by decide +kernel) fun K hK =>?_;simp only[uW,aZ,Nat.reduceEqDiff,reduceIte]
  try simp only[zw2,(Jj _).1,aZ]
  refine .done (hK _ ?_);clear hK K;refine .ew (by decide +kernel) fun K hK =>?_;simp only[uX,aZ,Nat.reduceEqDiff,reduceIte]
  try simp only[typR,kD,lN,jW,aZ,Nat.reduceEqDiff,reduceIte,Int.reduceBNe,Int.reduceBEq]
  refine .done (hK _ ?_);clear hK K;refine ab.seq (ab.seq ?_);refine .js (by decide +kernel) fun K hK =>?_;simp only[uY,aZ,Nat.reduceEqDiff,reduceIte]
  try simp only[typR,kD,lN,jW,aZ,Nat.reduceEqDiff,reduceIte,Int.reduceBNe,Int.reduceBEq]
  refine .done (hK _ ?_);clear hK K;try simp only[di]
  refine ab.iT ?_;simp only[ar,aZ,Nat.reduceEqDiff,reduceIte];refine ⟨fun h =>?_,fun h =>?_⟩
  ·first | cases h | simp at h
  refine ab.skip ?_;try simp only[di]
  refine .ew (by decide +kernel) fun K hK =>?_;simp only[uZ,aZ,Nat.reduceEqDiff,reduceIte]
  try simp only[typR,kD,lN,jW,aZ,Nat.reduceEqDiff,reduceIte,Int.reduceBNe,Int.reduceBEq]
  refine .done (hK _ ?_);clear hK K;refine ab.seq (ab.seq ?_);refine .js (by decide +kernel) fun K hK =>?_;simp only[u3,aZ,Nat.reduceEqDiff,reduceIte,Int.reduceBEq]
  try simp only[typR,kD,lN,jW,aZ,Nat.reduceEqDiff,reduceIte,Int.reduceBNe,Int.reduceBEq]
  refine .done (hK _ ?_);clear hK K;try simp only[di]
  refine ab.iT ?_;simp only[ar,aZ,Nat.reduceEqDiff,reduceIte];refine ⟨fun h =>?_,fun h =>?_⟩
  case refine_2.refine_2=>first | cases h | simp at h
  refine .ew (by decide +kernel) fun K hK =>?_;simp only[sE,aZ,Nat.reduceEqDiff,reduceIte]
  try simp only[nd]
  refine aY.xp (esz:=8) cN (l:=[g]) rfl (by simp) rfl (by simp) (by simp[maxLen]) fun q =>?_
  try simp only[aZ,Nat.reduceEqDiff,reduceIte]
  refine .done (hK _ ?_);clear hK K;refine ab.ret ?_;simp only[di,ky];exact ⟨fJ 25 [g] q,[.view 25 [] 8 0 1],km rfl (fun p=>fR p _),⟨⟨_,rfl,.inl ⟨rfl,rfl,rfl⟩⟩,trivial⟩,q,rfl,rfl⟩
theorem dG.mE{aG:Bool}{ρ:List (Nat×Nat)}{k:Nat}{x:al}{os0:List (Nat×al)}{r c:I}(h1:∀ p,c.only p=true)(h2:aG=true→c.dI=true)(h3:r.only (ay [(k,.box c)])=true)(h4:aG=true→r.dI=true):dG aG ρ [(k,x)] os0 r [(k,.box c)]:=by
 refine ⟨fun m x h =>?_,fun m m' h h' _ =>?_,fun m h =>?_,fun m h h' =>?_,h3,h4⟩
 ·simp only[aq] at h;split at h
  ·simp only[v6] at h;subst h;exact ⟨h1 _,rfl,h2⟩
  ·cases h
 ·rw[ee.1 h,ee.1 h']
 ·rw[ee.1 h];exact ee.2 rfl
 ·rw[ee.1 h] at h';have:ay [(k,x)] k=true:=ee.2 rfl;rw[this] at h';cases h'
theorem dG.rQ{aG:Bool}{ρ:List (Nat×Nat)}{k k' d d':Nat}{x:al}{os0:List (Nat×al)}{r c c':I}(hk:bp ρ k=d)(hk':bp ρ k'=d')(hd:d≠d')(hne:k≠k')(h1:∀ p,c.only p=true)(h2:aG=true→c.dI=true)(h1':∀ p,c'.only p=true)(h2':aG=true→c'.dI=true)
  (h3:r.only (ay [(k,.box c),(k',.box c')])=true) (h4:aG=true→r.dI=true) (h5:aq os0 d=none) (h6:d<1000000):dG aG ρ [(k',x)] os0 r [(k,.box c),(k',.box c')]:=by
 have rQ:∀ m,ay [(k,al.box c),(k',al.box c')] m=true→m=k∨m=k':=fun m h=>by
  simp only[ay,aq] at h;split at h
  ·rename_i e;exact .inl e
  ·split at h
   ·rename_i e;exact .inr e
   ·cases h
 refine ⟨fun m y h =>?_,fun m m' h h' e =>?_,fun m h =>?_,fun m h h' =>?_,h3,h4⟩
 ·simp only[aq] at h;split at h
  ·simp only[v6] at h;subst h;exact ⟨h1 _,rfl,h2⟩
  ·split at h
   ·simp only[v6] at h;subst h;exact ⟨h1' _,rfl,h2'⟩
   ·cases h
 ·rcases rQ m h with rfl | rfl <;>rcases rQ m' h' with rfl | rfl
  ·rfl
  ·rw[hk,hk'] at e;exact absurd e hd
  ·rw[hk,hk'] at e;exact absurd e.symm hd
  ·rfl
 ·rw[ee.1 h];simp[ay,aq,Ne.symm hne]
 ·rcases rQ m h with rfl | rfl
  ·rw[hk];exact ⟨h5,h6⟩
  ·have:ay [(m,x)] m=true:=ee.2 rfl;rw[this] at h';cases h'
def iN(l:List ah)(r:ah):List ah×Int :=
 if kM l=false then ([],81) else if bj r=false then ([],80)
 else if jD l r.bw=true then (if l.getD (fT l r.bw) default=r then (l,0) else ([],82))
 else if (bR l r.aI:Int)<r.no then ([],83) else if l.length=60 then ([],2) else (gO l (fT l r.bw) r,0)
theorem r6{aS:List ah→ah→Bool} : ∀ {l out:List ah},fW (fun out r=>bj r&&aS out r) out l=true↔(∀ r∈l,bj r=true)∧fW aS out l=true
 | [],_=>by simp[fW]
 |r::l,out=>by
  simp only[fW,zz0,r6 (l:=l),zx7,forall_eq_or_imp];constructor
  ·rintro ⟨⟨h1,h2⟩,h3,h4⟩;exact ⟨⟨h1,h3⟩,h2,h4⟩
  ·rintro ⟨⟨h1,h3⟩,h2,h4⟩;exact ⟨⟨h1,h2⟩,h3,h4⟩
structure KL (l:List ah):Prop where
 ok:∀ r∈l,bj r=true
 Jw:mV l
 len:l.length≤60
 step:fW jS [] l=true
theorem zB{r:ah}(h:bj r=true):0≤r.aI∧0≤r.no:=by have:=nw (ny h);omega
theorem BX{l:List ah}(h:kM l=true):KL l:=by
 simp only[kM,zz0,decide_eq_true_eq] at h;obtain ⟨h1,h2⟩:=h;obtain ⟨h3,h4⟩:=r6.1 h1;refine ⟨h3,?_,h2,h4⟩;have:=BZ l [] trivial (fun r hr=>zB (h3 r hr)) h4 List.Pairwise.nil;simpa using this
theorem im:(∀ A n b rest,de A (some 1) n [] b (.agg [.nils 8]) rest (some (.agg [.nils 8]))=au rest (A.aM n (.box (.agg [.nils 8])))) ∧
  (∀ A n b rest m p lo k,de A (some 1) n [] b (.agg [.view m p 8 lo k]) rest (some (.agg [.nils 8]))=au rest (A.aM n (.box (.agg [.view m p 8 lo k])))) ∧
  (∀ A n b rest (l:List ah),de A (some 1) n [] b (.agg [enc l]) rest (some (.agg [.nils 8]))=au rest (A.aM n (.box (.agg [enc l])))) ∧
  (∀ l:List ah,fi [.nils 8] [(0,enc l)]=some [enc l])∧(∀ m p lo k,fi [.nils 8] [(0,.view m p 8 lo k)]=some [.view m p 8 lo k])∧(∀ l:List ah,bS (some 1) (.agg [enc l])=true)∧bS (some 1) (.agg [.nils 8])=true∧(∀ m p lo k,bS (some 1) (.agg [.view m p 8 lo k])=true) :=
 ⟨fun A n b rest=>by rw[dS (s:=some 1) (v:=.agg [.nils 8]) (old:=.agg [.nils 8]) rfl rfl rfl,ez],fun A n b rest m p lo k=>by rw[dS (s:=some 1) (v:=.agg [.view m p 8 lo k]) (old:=.agg [.nils 8]) rfl rfl rfl,ez],
  fun A n b rest l=>by rw[dS (s:=some 1) (v:=.agg [enc l]) (old:=.agg [.nils 8]) rfl rfl rfl,ez],fun _=>rfl,fun _ _ _ _=>rfl,fun _=>rfl,rfl,fun _ _ _ _=>rfl⟩
theorem Kz(l:List ah)(r:ah)(hl:l.length≤4000000000000):aP Tryz.prog 44 [enc (⟨l⟩:iL),enc r] (.tuple [enc (⟨(iN l r).1⟩:iL),enc (iN l r).2]):=by
 refine aP.bM Tryz.func44 Na OM Qo (t7 rfl) (fun hwf W0 bI E1 =>?_);simp only[CS,H4,bC,zz4];clear hwf;have f92:=Br l hl;simp only[iN];cases q1:kM l
 ·rw[q1] at f92;simp only[if_true];have R:=y6 @im aw
  repeat' ((first |(with_reducible refine .guard (fun hb =>?_) (fun hb =>?_) <;>try simp only[hb])|refine ab.aA (by decide +kernel) rfl fun K hK =>?_|refine .flat _ (f92) rfl ?_|(refine .av [0,1,2,3,4,5,6,7,8,13,25,40,43,56] hK ?_;clear hK K)|(with_reducible refine .done (hK _ ?_);clear hK K)|refine ab.of rfl ?_|(with_reducible refine ar.az (fun h =>?_) (fun h =>?_) <;>try simp only[h])) <;>try simp only[aB,R,simprocAttr])
  all_goals clear R
  all_goals rfl
 rw[q1] at f92;have hb:=BX q1;have f80:=qe r;simp only[Bool.true_eq_false,if_false];cases q2:bj r
 ·rw[q2] at f80;simp only[if_true];have R:=y6 @im aw
  repeat' ((first |(with_reducible refine .guard (fun hb =>?_) (fun hb =>?_) <;>try simp only[hb])|refine ab.aA (by decide +kernel) rfl fun K hK =>?_|refine .flat _ (f92) rfl ?_|refine .flat _ (f80) rfl ?_|(refine .av [0,1,2,3,4,5,6,7,8,13,25,40,43,56] hK ?_;clear hK K)|(with_reducible refine .done (hK _ ?_);clear hK K)|refine ab.of rfl ?_|(with_reducible refine ar.az (fun h =>?_) (fun h =>?_) <;>try simp only[h])) <;>try simp only[aB,R,simprocAttr])
  all_goals clear R
  all_goals rfl
 rw[q2] at f80;simp only[Bool.true_eq_false,if_false];have hlen:=hb.len;have f94:=KJ l r.bw hb.Jw (by omega);have hpl:=afM l r.bw;have hcl:=qf l (by omega);cases q3:jD l r.bw
 rotate_left
 ·rw[q3] at f94;obtain ⟨hp,hat⟩:=(yR hb.Jw r.bw).1 q3;simp only[if_true];have hg:l.getD (fT l r.bw) default=l[fT l r.bw]:=by simp[zz2,hp]
  rw[hg];have he:=fun A=>gB (A:=A) 8 hp rfl;generalize l[fT l r.bw]=x at *;generalize fT l r.bw=p at *;by_cases q4:x=r
  ·have q4':decide (x=r)=true:=decide_eq_true q4;rw[if_pos q4];have R:=y6 @he (y6 @q4' (y6 @im aw))
   repeat' ((first |(with_reducible refine .guard (fun hb =>?_) (fun hb =>?_) <;>try simp only[hb])|refine ab.aA (by decide +kernel) rfl fun K hK =>?_|refine .flat _ (f92) rfl ?_|refine .flat _ (f80) rfl ?_|refine .lead _ (f94) ?_|refine .lead _ (hcl) ?_|(refine .av [0,1,2,3,4,5,6,7,8,13,25,40,43,56] hK ?_;clear hK K)|(with_reducible refine .done (hK _ ?_);clear hK K)|refine ab.of rfl ?_|(with_reducible refine ar.az (fun h =>?_) (fun h =>?_) <;>try simp only[h])) <;>try simp only[aB,R,simprocAttr])
   all_goals clear R
   all_goals rfl
  ·have q4':decide (x=r)=false:=decide_eq_false q4;rw[if_neg q4];have R:=y6 @he (y6 @q4' (y6 @im aw))
   repeat' ((first |(with_reducible refine .guard (fun hb =>?_) (fun hb =>?_) <;>try simp only[hb])|refine ab.aA (by decide +kernel) rfl fun K hK =>?_|refine .flat _ (f92) rfl ?_|refine .flat _ (f80) rfl ?_|refine .lead _ (f94) ?_|refine .lead _ (hcl) ?_|(refine .av [0,1,2,3,4,5,6,7,8,13,25,40,43,56] hK ?_;clear hK K)|(with_reducible refine .done (hK _ ?_);clear hK K)|refine ab.of rfl ?_|(with_reducible refine ar.az (fun h =>?_) (fun h =>?_) <;>try simp only[h])) <;>try simp only[aB,R,simprocAttr])
   all_goals clear R
   all_goals rfl
 rw[q3] at f94;simp only[zy0,if_false];have hin:qI l:=fun x hx=>lM (hb.ok x hx);have f100:=qd l hl hin;have hix:=vr l (lM q2);by_cases q5:(bR l r.aI:Int)<r.no
 ·have q5':decide ((bR l r.aI:Int)<r.no)=true:=decide_eq_true q5;rw[if_pos q5];have R:=y6 @hix (y6 @q5' (y6 @oO (y6 @im aw)))
  repeat' ((first |(with_reducible refine .guard (fun hb =>?_) (fun hb =>?_) <;>try simp only[hb])|refine ab.aA (by decide +kernel) rfl fun K hK =>?_|refine .flat _ (f92) rfl ?_|refine .flat _ (f80) rfl ?_|refine .lead _ (f94) ?_|refine .lead _ (f100) ?_|(refine .av [0,1,2,3,4,5,6,7,8,13,25,40,43,56] hK ?_;clear hK K)|(with_reducible refine .done (hK _ ?_);clear hK K)|refine ab.of rfl ?_|(with_reducible refine ar.az (fun h =>?_) (fun h =>?_) <;>try simp only[h])) <;>try simp only[aB,R,simprocAttr])
  all_goals clear R
  all_goals rfl
 have q5':decide ((bR l r.aI:Int)<r.no)=false:=decide_eq_false q5;rw[if_neg q5];by_cases q6:l.length=60
 ·have q6':((l.length:Int)==60)=true:=by rw[beq_iff_eq];omega
  rw[if_pos q6];have R:=y6 @hix (y6 @q5' (y6 @q6' (y6 @oO (y6 @im aw))))
  repeat' ((first |(with_reducible refine .guard (fun hb =>?_) (fun hb =>?_) <;>try simp only[hb])|refine ab.aA (by decide +kernel) rfl fun K hK =>?_|refine .flat _ (f92) rfl ?_|refine .flat _ (f80) rfl ?_|refine .lead _ (f94) ?_|refine .lead _ (f100) ?_|(refine .av [0,1,2,3,4,5,6,7,8,13,25,40,43,56] hK ?_;clear hK K)|(with_reducible refine .done (hK _ ?_);clear hK K)|refine ab.of rfl ?_|(with_reducible refine ar.az (fun h =>?_) (fun h =>?_) <;>try simp only[h])) <;>try simp only[aB,R,simprocAttr])
  all_goals clear R
  all_goals rfl
 have q6':((l.length:Int)==60)=false:=by rw[beq_eq_false_iff_ne];omega
 rw[if_neg q6];have hbs:iO 8 (some [enc r])=some (enc [r]):=si 8 r rfl;have R:=y6 @hix (y6 @q5' (y6 @q6' (y6 @hbs (y6 @oO (y6 @im aw)))))
 repeat' ((first |(with_reducible refine .guard (fun hb =>?_) (fun hb =>?_) <;>try simp only[hb])|(refine ab.ik (gs:=yw) [101] [(2,[2]),(3,[3]),(4,[4]),(62,[2])] [0,1,3,4,5,2,6,7,8,9] (by decide +kernel) (dB.of (by simp[gn,bJ,kp,I.only])) fun K hK =>?_;simp only[gE,yw,zw6,zw7,R,simprocAttr])|refine ab.aA (by decide +kernel) rfl fun K hK =>?_|refine .flat _ (f92) rfl ?_|refine .flat _ (f80) rfl ?_|refine .lead _ (f94) ?_|refine .lead _ (f100) ?_|(refine .av [0,1,2,3,4,5,6,7,8,13,25,40,43,56] hK ?_;clear hK K)|(with_reducible refine .done (hK _ ?_);clear hK K)|refine ab.of rfl ?_|(with_reducible refine ar.az (fun h =>?_) (fun h =>?_) <;>try simp only[h])) <;>try simp only[aB,R,simprocAttr])
 all_goals clear R
 obtain ⟨ao,hL⟩:∃ ao,ao=gO l (fT l r.bw) r:=⟨_,rfl⟩
 have hLn:l.length+1=ao.length:=by rw[hL,ado r hpl]
 have hfin:∀ q,jB 8 0 (l.length+1) (some ((ao++List.replicate q cN).map enc))=some (enc ao):=fun q=>by
  rw[oj (α:=ah) (sz:=8) rfl,hLn,AK]
 refine .bG [(7,64)] [enc l] (qt l) rfl (ua l (by omega)) fj.nil ⟨.inl ⟨(gz _ _).symm,bg _ _,dH _⟩,trivial⟩ ?_ ?_
 ·rintro x os' (⟨_,h | h,rfl⟩ | ⟨_,k,rfl,rfl⟩)
  ·subst h;exact dG.nil (fun _=>rfl) (fun h=>by cases h)
  ·subst h;exact dG.nil (fun _=>rfl) (fun h=>by cases h)
  ·exact dG.qV (fun p=>fR p _) (fun h=>by cases h) rfl (fun h=>by cases h) rfl (by decide)
 rintro x os' (⟨hn,h,rfl⟩ | ⟨hn,k,rfl,rfl⟩)
 ·have hren:x.aQ (bp [(7,64)])=x∧x.cm=true∧∀ q,x.only q=true:=by rcases h with rfl | rfl <;>exact ⟨by simp only[I.aQ],rfl,fun _=>rfl⟩
  have hren2:x.aQ (bp [(25,68)])=x:=by rcases h with rfl | rfl <;>simp only[I.aQ]
  have hpos:fT l r.bw=0:=by rw[hn];rfl
  rw[hren.1,hpos]
  try simp only[iH,zy3,aw,aZ,simprocAttr]
  refine .bG [(25,68)] [x,enc (0:Int),enc [r]] (Fq r) rfl (J1 x h r) fj.nil ⟨.inl ⟨hren2.symm,hren.2.2 _,hren.2.1⟩,.inl ⟨rfl,rfl,rfl⟩,.inl ⟨(gz _ _).symm,bg _ _,dH _⟩,trivial⟩ ?_ ?_
  ·rintro x os' ⟨k,rfl,rfl⟩;exact dG.qV (fun p=>fR p _) (fun h=>by cases h) rfl (fun h=>by cases h) rfl (by decide)
  ·rintro x os' ⟨k,rfl,rfl⟩;have hLg:[r]=ao:=by rw[hL,hpos,hn];rfl
   have hf1:=hfin k;rw[hn] at hf1;simp only[zv1,zz4] at hf1;rw[hLg]
   try simp only[fJ,iH,jt,zz8,zy3,im,aZ,simprocAttr]
   refine .done (hK _ ?_);clear hK K;refine ab.ret ?_;simp only[aZ,simprocAttr]
   try simp only[hf1,im,aZ,simprocAttr]
   rw[←hL];rfl
 ·try simp only[fJ,iH,jt,zz8,zy3,aw,aZ,simprocAttr]
  refine .qZ false [(1000000,64),(25,68),(40,69)] (fJ 1000000 l k) [.view 1000000 [] 8 0 l.length,enc (fT l r.bw:Int),enc [r]] (Fs l (fT l r.bw) r k) rfl (J0 l (fT l r.bw) r k hpl hn (by omega)) ⟨?_,?_⟩ ⟨.inl ⟨?_,?_,rfl⟩,.inl ⟨rfl,rfl,rfl⟩,.inl ⟨(gz _ _).symm,bg _ _,dH _⟩,trivial⟩ ?_ ?_
  ·intro n x h;simp only[fJ,aq] at h;split at h
   ·rename_i hn';subst hn';simp only[v6] at h;subst h;exact ⟨by simp only[iH,jt,aZ,simprocAttr],fR _ _,rfl⟩
   ·cases h
  ·intro a b ha hb _;rw[Go.Abs.ee.1 ha,Go.Abs.ee.1 hb]
  ·try simp only[iH,simprocAttr]
  ·exact Go.Abs.ee.2 rfl
  ·rintro x os' (⟨q,rfl,rfl⟩ | ⟨d,q,rfl | rfl,rfl,rfl⟩)
   ·exact dG.mE (fun p=>fR p _) (fun h=>by cases h) rfl (fun h=>by cases h)
   ·exact dG.rQ rfl rfl (by decide) (by decide) (fun p=>fR p _) (fun h=>by cases h) (fun p=>fR p _) (fun h=>by cases h) rfl (fun h=>by cases h) rfl (by decide)
   ·exact dG.rQ rfl rfl (by decide) (by decide) (fun p=>fR p _) (fun h=>by cases h) (fun p=>fR p _) (fun h=>by cases h) rfl (fun h=>by cases h) rfl (by decide)
  ·rintro x os' (⟨q,rfl,rfl⟩ | ⟨d,q,rfl | rfl,rfl,rfl⟩)
   all_goals
    rw[←hL];have hf1:=hfin q
    try simp only[fJ,iH,jt,zz8,zy3,im,aZ,simprocAttr]
    refine .done (hK _ ?_);clear hK K;refine ab.ret ?_;simp only[aZ,simprocAttr]
    try simp only[hf1,im,aZ,simprocAttr]
    rw[←hL];rfl
end Go.Proofs.YtoffnnjbplgnaaaGreatDoor
namespace Go.Proofs.YtoffnnjbplgnaaaGreatDoor
open Go Go.Abs Go.Shelf Go.RowKit Go.Sort Go.Proofs
open Go.Abs.Enc (enc)
def adZ:Go.Shelf.Ren:=⟨fun | 122=>161 | 215=>175 | n=>n,fun | 3=>3 | 4=>4 | n=>n,fun | n=>n⟩
theorem adY:Go.Proofs.Lays.n122 Tryz.prog adZ := {
 mixed:=by kernel_rfl
 f122:=Tryz.func161.trans (congrArg some (by kernel_rfl))
 f215:=Tryz.func175.trans (congrArg some (by kernel_rfl))
 t3:=Tryz.underlying3
 a3:=Tryz.isAgg3
 z3:=Tryz.sizeOf3
 v3:=Tryz.zeroValue3
 t4:=Tryz.underlying4
 a4:=Tryz.isAgg4
 z4:=Tryz.sizeOf4
 v4:=Tryz.zeroValue4 }
def y9:Go.Shelf.Ren:=⟨fun | 6=>141 | 15=>163 | 14=>162 | 28=>184 | 29=>185 | 20=>176 | 21=>177 | 22=>178 | 23=>179 | 24=>180 | 25=>181 | 26=>182 | 27=>183 | 46=>199 | 47=>200 | 48=>201 | 49=>202 | 50=>203 | 57=>213 | n=>n,fun | 22=>23 | 24=>50 | 25=>188 | 3=>3 | 39=>208 | 0=>0 | 53=>225 | 55=>227 | 4=>4 | 46=>219 | 45=>218 | 50=>144 | 5=>5 | 9=>9 | 66=>243 | 70=>247 | 76=>258 | 77=>259 | n=>n,fun | n=>n⟩
theorem FN:Go.Proofs.SlLaysF0.n6 Tryz.prog y9 := {
 mixed:=by kernel_rfl
 f6 := ⟨ "slices.SortFunc[[]pinfold/api.Record,pinfold/api.Record]", by decide, Tryz.func141.trans (congrArg some (by kernel_rfl))⟩
 f14 := ⟨ "slices.pdqsortCmpFunc[pinfold/api.Record]", by decide, Tryz.func162.trans (congrArg some (by kernel_rfl))⟩
 f15:=Tryz.func163.trans (congrArg some (by kernel_rfl))
 f20 := ⟨ "slices.insertionSortCmpFunc[pinfold/api.Record]", by decide, Tryz.func176.trans (congrArg some (by kernel_rfl))⟩
 f21 := ⟨ "slices.heapSortCmpFunc[pinfold/api.Record]", by decide, Tryz.func177.trans (congrArg some (by kernel_rfl))⟩
 f22 := ⟨ "slices.breakPatternsCmpFunc[pinfold/api.Record]", by decide, Tryz.func178.trans (congrArg some (by kernel_rfl))⟩
 f23 := ⟨ "slices.choosePivotCmpFunc[pinfold/api.Record]", by decide, Tryz.func179.trans (congrArg some (by kernel_rfl))⟩
 f24 := ⟨ "slices.reverseRangeCmpFunc[pinfold/api.Record]", by decide, Tryz.func180.trans (congrArg some (by kernel_rfl))⟩
 f25 := ⟨ "slices.partialInsertionSortCmpFunc[pinfold/api.Record]", by decide, Tryz.func181.trans (congrArg some (by kernel_rfl))⟩
 f26 := ⟨ "slices.partitionEqualCmpFunc[pinfold/api.Record]", by decide, Tryz.func182.trans (congrArg some (by kernel_rfl))⟩
 f27 := ⟨ "slices.partitionCmpFunc[pinfold/api.Record]", by decide, Tryz.func183.trans (congrArg some (by kernel_rfl))⟩
 f28:=Tryz.func184.trans (congrArg some (by kernel_rfl))
 f29:=Tryz.func185.trans (congrArg some (by kernel_rfl))
 f46 := ⟨ "slices.siftDownCmpFunc[pinfold/api.Record]", by decide, Tryz.func199.trans (congrArg some (by kernel_rfl))⟩
 f47:=Tryz.func200.trans (congrArg some (by kernel_rfl))
 f48:=Tryz.func201.trans (congrArg some (by kernel_rfl))
 f49 := ⟨ "slices.medianAdjacentCmpFunc[pinfold/api.Record]", by decide, Tryz.func202.trans (congrArg some (by kernel_rfl))⟩
 f50 := ⟨ "slices.medianCmpFunc[pinfold/api.Record]", by decide, Tryz.func203.trans (congrArg some (by kernel_rfl))⟩
 f57 := ⟨ "slices.order2CmpFunc[pinfold/api.Record]", by decide, Tryz.func213.trans (congrArg some (by kernel_rfl))⟩
 t0:=Tryz.underlying0
 a0:=Tryz.isAgg0
 z0:=Tryz.sizeOf0
 v0:=Tryz.zeroValue0
 t3:=Tryz.underlying3
 a3:=Tryz.isAgg3
 z3:=Tryz.sizeOf3
 v3:=Tryz.zeroValue3
 t4:=Tryz.underlying4
 a4:=Tryz.isAgg4
 z4:=Tryz.sizeOf4
 v4:=Tryz.zeroValue4
 t5:=Tryz.underlying5
 a5:=Tryz.isAgg5
 z5:=Tryz.sizeOf5
 v5:=Tryz.zeroValue5
 t9:=Tryz.underlying9
 a9:=Tryz.isAgg9
 z9:=Tryz.sizeOf9
 v9:=Tryz.zeroValue9
 t22:=Tryz.underlying23
 a22:=Tryz.isAgg23
 z22:=Tryz.sizeOf23
 v22:=Tryz.zeroValue23
 t25:=Tryz.underlying188
 a25:=Tryz.isAgg188
 z25:=Tryz.sizeOf188
 v25:=Tryz.zeroValue188
 t39:=Tryz.underlying208
 a39:=Tryz.isAgg208
 z39:=Tryz.sizeOf208
 v39:=Tryz.zeroValue208
 t45:=Tryz.underlying218
 a45:=Tryz.isAgg218
 z45:=Tryz.sizeOf218
 v45:=Tryz.zeroValue218
 t46:=Tryz.underlying219
 a46:=Tryz.isAgg219
 z46:=Tryz.sizeOf219
 v46:=Tryz.zeroValue219
 t50:=Tryz.underlying144
 a50:=Tryz.isAgg144
 z50:=Tryz.sizeOf144
 v50:=Tryz.zeroValue144
 t53:=Tryz.underlying225
 a53:=Tryz.isAgg225
 z53:=Tryz.sizeOf225
 v53:=Tryz.zeroValue225
 t55:=Tryz.underlying227
 a55:=Tryz.isAgg227
 z55:=Tryz.sizeOf227
 v55:=Tryz.zeroValue227
 t66:=Tryz.underlying243
 a66:=Tryz.isAgg243
 z66:=Tryz.sizeOf243
 v66:=Tryz.zeroValue243
 t70:=Tryz.underlying247
 a70:=Tryz.isAgg247
 z70:=Tryz.sizeOf247
 v70:=Tryz.zeroValue247
 t76:=Tryz.underlying258
 a76:=Tryz.isAgg258
 z76:=Tryz.sizeOf258
 v76:=Tryz.zeroValue258
 t77:=Tryz.underlying259
 a77:=Tryz.isAgg259
 z77:=Tryz.sizeOf259
 v77:=Tryz.zeroValue259 }
theorem Pr(a b:Int):Lib.compareInt a b=fy a b:=by
 unfold Lib.compareInt fy
 (repeat' split) <;>first | rfl | omega
theorem Pu(a b:Int)(W:World):Calls Tryz.prog 161 #[.int .i64 a,.int .i64 b] W fun e w'=>e=.returned (.int .i64 (fy a b))∧w'=W:=by
 have h:=Any.cmp_Compare_int adY a b W;rw[Pr] at h;exact h
theorem afF(a b:Int)(W:World)(aL:Nat)(hb:W.heap[aL]?=some (.cells #[.int .i64 a,.int .i64 b] 3)):Calls Tryz.prog 160 #[.slice (some ⟨aL,0,none⟩) 2 2] W fun e w'=>e=.returned (.int .i64 (if a≠0 then a else b))∧w'=W:=by
 go_enter Tryz.func160,Tryz.ntmps160
 go_wp2
 go_loopw [8] (fun i wr=>∃ j:Nat,j≤2∧i=.int .i64 j∧wr=W∧(0<j→a=0)∧(1<j→b=0)) (fun i _=>2-(RowKit.intOf i).toNat)
 case atStart =>
  exact ⟨0,by omega,rfl,rfl,by omega,by omega⟩
 case round =>
  obtain ⟨j,hj,rfl,rfl,h0,h1⟩:=hrel;have c0:wr.cell? ⟨aL,0,none⟩=some (.int .i64 a):=by simp[World.cell?,hb]
  have c1:wr.cell? ⟨aL,1,none⟩=some (.int .i64 b):=by simp[World.cell?,hb]
  have hj3:j=0∨j=1∨j=2:=by omega
  rcases hj3 with rfl | rfl | rfl
  ·by_cases ha:a=0
   ·subst ha
    go_wp2
    refine ⟨⟨1,?_⟩,?_⟩ <;>simp[RowKit.intOf]
   ·go_wp2
    go_ret
    exact ⟨rfl,rfl⟩
  ·have ha:a=0:=h0 (by omega);by_cases hb0:b=0
   ·subst hb0
    go_wp2
    refine ⟨⟨2,?_⟩,?_⟩ <;>simp[RowKit.intOf,ha]
   ·go_wp2
    go_ret
    exact ⟨by first | rfl | simp[ha],rfl⟩
  ·have ha:a=0:=h0 (by omega);have hb0:b=0:=h1 (by omega)
   go_wp2
   go_ret
   exact ⟨by first | rfl | simp[ha,hb0],rfl⟩
theorem Kk:aP Tryz.prog 141 [enc ([]:List ah),.func 142 []] (.tuple []):=by
 refine ⟨by kernel_rfl,fun w D vs _ hD ae =>?_⟩;simp only[aD] at ae;obtain ⟨u,rest,cs',rfl,hp,hr',hv2⟩:=ae;obtain ⟨a,cap,h1,_⟩:=hr';have h2:cs'=[u]:=hp;rw[h1] at h2;obtain rfl:u=.slice a 0 cap:=by simpa using h2.symm
 obtain ⟨f,rest2,cs2,rfl,hp2,hr2,rfl⟩:=hv2;simp only[ai] at hr2;obtain ⟨vs2,e2,e3⟩:=hr2;have h3:cs2=[f]:=hp2;rw[e2] at h3;simp only[aD] at e3;subst e3;obtain rfl:f=.func (.func 142) #[] #[]:=by
  have:=h3.symm;simp only[zx6,and_true] at this;rw[this];rfl
 refine (AnyF.slices_SortFunc_none (P:=Tryz.prog) (ρ:=y9) { FN with } a cap (.func (.func 142) #[] #[]) w).mono ?_;rintro e w' ⟨rfl,rfl⟩;exact ⟨.tuple #[],D,rfl,⟨[],rfl,rfl⟩,⟨rfl,rfl,rfl,zy1 _,fun _ _=>rfl⟩,hD,fun _ _ h _=>h⟩
theorem xe:aP Tryz.prog 95 [enc ([]:List ah)] (enc (⟨[]⟩:iL)):=by
 refine aP.bM Tryz.func95 xG xJ xR (t7 rfl) (fun hwf W0 bI E1 =>?_);simp only[uA,wi,bC];clear hwf;have h1:=qf [] (by simp);have R:=y6 @im (y6 @iR aw)
 repeat' ((first |refine ab.aA (by decide +kernel) rfl fun K hK =>?_|refine .lead _ (h1) ?_|refine .flat _ (Kk) rfl ?_|(refine .av [0,2,3] hK ?_;clear hK K)|(with_reducible refine .done (hK _ ?_);clear hK K)|refine ab.of rfl ?_|(with_reducible refine ar.az (fun h =>?_) (fun h =>?_) <;>try simp only[h])) <;>try simp only[aB,R,simprocAttr])
 all_goals clear R
 all_goals rfl
end Go.Proofs.YtoffnnjbplgnaaaGreatDoor
namespace Go.Proofs.YtoffnnjbplgnaaaGreatDoor
open Go Go.Abs
open Go.Abs.Enc (enc)
theorem kE{l:List ah}(h:cS [] l=true):l.length≤60:=by
 have:=cW.len (by simp) ((mQ l []).1 h);simpa using this
theorem mR{l:List ah}(h:cS [] l=true):∀ r∈l,bj r=true:=cW.ok ((mQ l []).1 h)
def ed(r:b7)(l:List ah):Bool:=cS [] l&&decide (r.cd.all=bW 1 l)&&(List.range (l.length+1)).any fun i=>decide (r.copy.all=bW 1 (l.take i))
theorem K8{p:Nat→Bool}{n i:Nat}(hi:i<n)(h:∀ k,k<i→p k=false)(hp:p i=true):(List.range n).any p=true:=List.any_eq_true.2 ⟨i,by simpa using hi,hp⟩
theorem K7{p:Nat→Bool}{n:Nat}(h:∀ k,k<n→p k=false):(List.range n).any p=false:=by
 rw[List.any_eq_false];intro k hk;rw[h k (by simpa using hk)];decide
theorem Bp(r:b7)(h:r.small)(l:List ah)(hl:l.length≤4000000000000):aP Tryz.prog 87 [enc r,enc l] (enc (ed r l)):=by
 refine aP.bM Tryz.func87 Nz O6 QJ (t7 rfl) (fun hwf W0 bI E1 =>?_);simp only[C9,Iq,bC,zz4];clear hwf;have f98:=Bu l (by omega);have f1:=rY r.cd h.1;have f2:=rY r.copy h.2;simp only[ed];cases q1:cS [] l
 ·rw[q1] at f98;have R:=y6 @bA aw
  repeat' ((first |(with_reducible refine .guard (fun hb =>?_) (fun hb =>?_) <;>try simp only[hb])|refine ab.aA (by decide +kernel) rfl fun K hK =>?_|refine .flat _ (f98) rfl ?_|(refine .av [0,1,2,4,5,16,19,20,21,30] hK ?_;clear hK K)|(with_reducible refine .done (hK _ ?_);clear hK K)|refine ab.of rfl ?_|(with_reducible refine ar.az (fun h =>?_) (fun h =>?_) <;>try simp only[h])) <;>try simp only[aB,R,simprocAttr])
  all_goals clear R
  all_goals rfl
 rw[q1] at f98;have hok:=mR q1;have hln:=kE q1;have f135:=A7 l (by omega) hok;have hpre:=fun i=>A7 (l.take i) (by rw[zz6];omega) fun x hx=>hok x (zx9 hx);cases q2:decide (r.cd.all=bW 1 l)
 ·have R:=y6 @q2 (y6 @j8 (y6 @bA aw))
  repeat' ((first |(with_reducible refine .guard (fun hb =>?_) (fun hb =>?_) <;>try simp only[hb])|refine ab.aA (by decide +kernel) rfl fun K hK =>?_|refine .flat _ (f98) rfl ?_|refine .flat _ (f1) rfl ?_|refine .flat _ (f135) rfl ?_|(refine .av [0,1,2,4,5,16,19,20,21,30] hK ?_;clear hK K)|(with_reducible refine .done (hK _ ?_);clear hK K)|refine ab.of rfl ?_|(with_reducible refine ar.az (fun h =>?_) (fun h =>?_) <;>try simp only[h])) <;>try simp only[aB,R,simprocAttr])
  all_goals clear R
  all_goals rfl
 have hw0:=eO (i:=l.length) (by omega);have R:=y6 @q2 (y6 @hw0 (y6 @j8 (y6 @bA aw)))
 repeat' ((first |(with_reducible refine .guard (fun hb =>?_) (fun hb =>?_) <;>try simp only[hb])|refine ab.aA (by decide +kernel) rfl fun K hK =>?_|refine .flat _ (f98) rfl ?_|refine .flat _ (f1) rfl ?_|refine .flat _ (f135) rfl ?_|(refine .av [0,1,2,4,5,16,19,20,21,30] hK ?_;clear hK K)|(with_reducible refine .done (hK _ ?_);clear hK K)|refine ab.of rfl ?_|(with_reducible refine ar.az (fun h =>?_) (fun h =>?_) <;>try simp only[h])) <;>try simp only[aB,R,simprocAttr])
 all_goals clear R
 refine ab.loop (fun i:Nat=>aC [(1,enc l),(2,.ptr 2 []),(19,.int .i64 ((l.length+1:Nat):Int)),(20,.int .i64 i)] [(2,.box (enc r))]) (fun i=>i≤l.length+1∧∀ k,k<i→decide (r.copy.all=bW 1 (l.take k))=false) (fun i=>l.length+1-i) 0 ⟨zv6 _,fun k hk=>by omega⟩ ?_ ?_
 ·refine bt.cF ?_ ?_ ?_ ?_ <;>simp[bT,bZ,bU,bB,ay,bJ,dz,I.only,al.only,bg]
  all_goals rfl
 rintro i ⟨hi,hk⟩;by_cases hlt:i<l.length+1
 ·have hlc:=ga hlt;have hw:=eO (i:=i) (by omega);have hsl:=fun A=>wH (l:=l) (k:=i) A (esz:=8) rfl (by omega);have f135':=hpre i;cases q3:decide (r.copy.all=bW 1 (l.take i))
  ·have R:=y6 @hlc (y6 @hw (y6 @hsl (y6 @q3 (y6 @nL (y6 @bA aw)))))
   repeat' ((first |(with_reducible refine .guard (fun hb =>?_) (fun hb =>?_) <;>try simp only[hb])|refine ab.aA (by decide +kernel) rfl fun K hK =>?_|refine .flat _ (f2) rfl ?_|refine .flat _ (f135') rfl ?_|(refine .av [0,1,2,4,5,16,19,20,21,30] hK ?_;clear hK K)|(with_reducible refine .done (hK _ ?_);clear hK K)|refine ab.of rfl ?_|(with_reducible refine ar.az (fun h =>?_) (fun h =>?_) <;>try simp only[h])) <;>try simp only[aB,R,zw2,simprocAttr])
   all_goals clear R
   refine ⟨i+1,⟨by omega,fun k hk2 =>?_⟩,by omega,?_⟩
   ·by_cases e:k=i
    ·rw[e];exact q3
    ·exact hk k (by omega)
   ·clear hk;refine bt.cF ?_ ?_ ?_ ?_ <;>simp[bT,bZ,bU,bB,ay,bJ,dz,I.only,al.only,bg]
    all_goals rfl
  ·rw[K8 hlt hk q3];have R:=y6 @hlc (y6 @hw (y6 @hsl (y6 @q3 (y6 @nL (y6 @bA aw)))))
   repeat' ((first |(with_reducible refine .guard (fun hb =>?_) (fun hb =>?_) <;>try simp only[hb])|refine ab.aA (by decide +kernel) rfl fun K hK =>?_|refine .flat _ (f2) rfl ?_|refine .flat _ (f135') rfl ?_|(refine .av [0,1,2,4,5,16,19,20,21,30] hK ?_;clear hK K)|(with_reducible refine .done (hK _ ?_);clear hK K)|refine ab.of rfl ?_|(with_reducible refine ar.az (fun h =>?_) (fun h =>?_) <;>try simp only[h])) <;>try simp only[aB,R,zw2,simprocAttr])
   all_goals clear R
   all_goals rfl
 ·have hlc:=gM hlt;rw[K7 fun k hk2=>hk k (by omega)];have R:=y6 @hlc aw
  repeat' ((first |(with_reducible refine .guard (fun hb =>?_) (fun hb =>?_) <;>try simp only[hb])|refine ab.aA (by decide +kernel) rfl fun K hK =>?_|(refine .av [0,1,2,4,5,16,19,20,21,30] hK ?_;clear hK K)|(with_reducible refine .done (hK _ ?_);clear hK K)|refine ab.of rfl ?_|(with_reducible refine ar.az (fun h =>?_) (fun h =>?_) <;>try simp only[h])) <;>try simp only[aB,R,simprocAttr])
  all_goals clear R
  all_goals rfl
section
variable {α:Type} [Enc α] {P:Program} {hs:List FuncId} {Y:Value→List I→List (Nat×al)→cv→Prop} {K:af→Prop} {rest:List aF} {d e esz bytes:Nat}
def oV(esz:Nat)(v:I)(os:List (Nat×al))(l:List α)(S:List Nat):Prop:=(l=[]∧(v=.c0 esz∨v=.nils esz))∨∃ n q,n∈S∧v=.view n [] esz 0 l.length∧aq os n=some (.box (.agg ((l++q).map enc)))
theorem Lk{A:af}{w:I}(hw:w=.c0 esz∨w=.nils esz)(z:I){l:List α}(hsz:Enc.sz α=esz)(hl:l≠[])(hf:A.o d=none)(hb:l.length*bytes≤140737488355328)(hml:l.length≤maxLen) :
  ∃ p:Nat→Prop,eT A (some d) e esz bytes z (enc l) rest w=.any p fun m=>au rest ((A.aM d (.box (.agg (l.map enc++List.replicate m z)))).aR (some d) (.view d [] esz 0 l.length)):=by
 have hne:l.map (enc (α:=α))≠[]:=by simpa using hl
 have h1:du A esz w=some []:=by rcases hw with rfl | rfl <;>rfl
 refine ⟨fun m=>l.length+m≤maxLen,?_⟩;rcases hw with rfl | rfl <;>simp only[eT,h1,jR A esz l hsz,eI,if_neg hne,fE,hf,zv1,zz4,zz3,if_pos (y6 hb hml),zy3]
theorem Lj{A:af}(z:I)(hsz:Enc.sz α=esz){n l:Nat}{xs ys:List α}(hy:ys≠[])(ho:A.o n=some (.box (.agg (xs.map enc))))(hl:l≤xs.length)(hr:xs.length<l+ys.length)(hf:A.o d=none)(hb:(l+ys.length)*bytes≤140737488355328)(hml:l+ys.length≤maxLen) :
  ∃ p:Nat→Prop,eT A (some d) e esz bytes z (enc ys) rest (.view n [] esz 0 l)=.any p fun m=>au rest ((A.aM d (.box (.agg ((xs.take l).map enc++(ys.map enc++List.replicate m z))))).aR (some d) (.view d [] esz 0 (l+ys.length))):=by
 have h1:=pU (A:=A) (esz:=esz) (lo:=0) (k:=l) ho (by omega);have h2:(I.agg (xs.map (enc (α:=α)))).at []=some (.agg (xs.map enc)):=rfl;have h4:(xs.take l).length=l:=by rw[zz6];omega
 refine ⟨fun m=>l+ys.length+m≤maxLen,?_⟩;simp only[eT,h1,List.drop_zero,jR A esz ys hsz,eI];rw[if_neg (by simpa using hy)];simp only[ho,h2,zz3,zz4];rw[if_neg (by omega)];simp only[fE,hf,zz3,h4];rw[if_pos ⟨hb,hml⟩]
theorem ac7(z:α){ts:List (Nat×I)}{os:List (Nat×al)}{v:I}{l ys:List α}{S:List Nat}(hsz:Enc.sz α=esz)(hg:oV esz v os l S)(hf:aq os d=none)(hb:(l.length+ys.length)*bytes≤140737488355328)(hml:l.length+ys.length≤maxLen) :
  (∃ v' os',eT (aC ts os) (some d) e esz bytes (enc z) (enc ys) rest v=au rest (aC ((d,v')::ts) os')∧oV esz v' os' (l++ys) (d::S)∧∀ m,m∉d::S→aq os' m=aq os m) ∨
  (∃ p,∃ v':Nat→I,∃ os':Nat→List (Nat×al),eT (aC ts os) (some d) e esz bytes (enc z) (enc ys) rest v=.any p (fun m=>au rest (aC ((d,v' m)::ts) (os' m)))∧∀ k,oV esz (v' k) (os' k) (l++ys) (d::S)∧∀ m,m∉d::S→aq (os' k) m=aq os m):=by
 by_cases hy:ys=[]
 ·subst hy;rw[zx2];rcases hg with ⟨rfl,ae⟩ | ⟨n,q,hn,rfl,ho⟩
  ·rcases ae with rfl | rfl
   ·exact .inl ⟨.c0 esz,os,Ll _ hsz,.inl ⟨rfl,.inl rfl⟩,fun _ _=>rfl⟩
   ·refine .inl ⟨.nils esz,os,?_,.inl ⟨rfl,.inr rfl⟩,fun _ _=>rfl⟩;have h1:du (aC ts os) esz (.nils esz)=some []:=rfl;simp only[eT,h1,jR _ esz ([]:List α) hsz,eI,zy9,if_true];rfl
  ·refine .inl ⟨_,os,?_,.inr ⟨n,q,zu7 _ hn,rfl,ho⟩,fun _ _=>rfl⟩;have h1:=pU (A:=aC ts os) (esz:=esz) (lo:=0) (k:=l.length) ho (by simp);simp only[eT,h1,jR _ esz ([]:List α) hsz,eI,zy9,if_true];rfl
 ·rcases hg with ⟨rfl,ae⟩ | ⟨n,q,hn,rfl,ho⟩
  ·obtain ⟨p,h1⟩:=Lk (A:=aC ts os) (rest:=rest) (e:=e) ae (enc z) hsz hy hf (by simpa using hb) (by simpa using hml);refine .inr ⟨p,fun m=>.view d [] esz 0 ys.length,fun m=>(d,.box (.agg (ys.map enc++List.replicate m (enc z))))::os,h1,fun k=>⟨.inr ⟨d,List.replicate k z,zw9,by simp,?_⟩,fun m hm =>?_⟩⟩
   ·simp[aq]
   ·rw[dz,if_neg (fun h=>by rw[h] at hm;exact hm zw9)]
  ·by_cases hr:l.length+ys.length≤(l++q).length
   ·have h1:=BI (A:=aC ts os) (rest:=rest) (d:=some d) (e:=e) (bytes:=bytes) (esz:=esz) (enc z) hsz hy ho hr;have e1:(l++q).take l.length++(ys++(l++q).drop (l.length+ys.length))=(l++ys)++q.drop ys.length:=by simp[List.drop_append]
    rw[e1] at h1;refine .inl ⟨_,(n,.box (.agg (((l++ys)++q.drop ys.length).map enc)))::os,h1,.inr ⟨n,q.drop ys.length,zu7 _ hn,by simp,by simp[aq]⟩,fun m hm =>?_⟩;rw[dz,if_neg (fun h=>by rw[h] at hm;exact hm (zu7 _ hn))]
   ·obtain ⟨p,h1⟩:=Lj (A:=aC ts os) (rest:=rest) (d:=d) (e:=e) (bytes:=bytes) (esz:=esz) (enc z) hsz hy ho (by simp) (by omega) hf hb hml;refine .inr ⟨p,fun m=>.view d [] esz 0 (l.length+ys.length),fun m=>(d,.box (.agg (((l++q).take l.length).map enc++(ys.map enc++List.replicate m (enc z)))))::os,h1,fun k=>⟨.inr ⟨d,List.replicate k z,zw9,by simp,?_⟩,fun m hm =>?_⟩⟩
    ·simp[aq]
    ·rw[dz,if_neg (fun h=>by rw[h] at hm;exact hm zw9)]
theorem bQ.ac4(z:α){ts:List (Nat×I)}{os:List (Nat×al)}{v:I}{l ys:List α}{S:List Nat}(hsz:Enc.sz α=esz)(hg:oV esz v os l S)(hf:aq os d=none)(hb:(l.length+ys.length)*bytes≤140737488355328)(hml:l.length+ys.length≤maxLen)
  (h:∀ v' os',oV esz v' os' (l++ys) (d::S)→(∀ m,m∉d::S→aq os' m=aq os m)→bQ P Y hs K (au rest (aC ((d,v')::ts) os'))):bQ P Y hs K (eT (aC ts os) (some d) e esz bytes (enc z) (enc ys) rest v):=by
 rcases ac7 (rest:=rest) (e:=e) z hsz hg hf hb hml (ts:=ts) with ⟨v',os',h1,h2,h3⟩ | ⟨p,v',os',h1,h2⟩
 ·rw[h1];exact h v' os' h2 h3
 ·rw[h1];exact .any fun m _=>h _ _ (h2 m).1 (h2 m).2
theorem ac6{v:I}{os:List (Nat×al)}{l:List α}{S:List Nat}{A:af}(hsz:Enc.sz α=esz)(h:oV esz v os l S)(hA:∀ m∈S,A.o m=aq os m):bh true A v=some (enc l):=by
 rcases h with ⟨rfl,rfl | rfl⟩ | ⟨n,q,hn,rfl,ho⟩
 ·simp only[bh,hG,zy9,hsz]
 ·simp only[bh,hG,zy9,hsz]
 ·have h1:bh true A (.view n [] esz 0 l.length)=jB esz 0 l.length (some ((l++q).map enc)):=by
   rw[sB,hA n hn,ho];rfl
  rw[h1,oj hsz,zu8]
end
theorem ac5{l:List ah}{x:I}{os' os0:List (Nat×al)}{d:Nat}(h:qt l x os'):oV 8 (x.aQ (bp [(7,d)])) (dp [(7,d)] os'++os0) l [d]:=by
 rcases h with ⟨hn,rfl | rfl,rfl⟩ | ⟨hn,k,rfl,rfl⟩
 ·exact .inl ⟨hn,.inr rfl⟩
 ·exact .inl ⟨hn,.inl rfl⟩
 ·refine .inr ⟨d,List.replicate k cN,by simp,?_,?_⟩
  ·simp[I.aQ,bp]
  ·simp only[fJ,jt,zz9,zz8,aq,dp,bp,if_true,al.aQ,I.aQ]
def fU:b7:=⟨⟨[],[]⟩,⟨[],[]⟩⟩
theorem jX:I.agg [.agg [.ak ⟨#[]⟩,.ak ⟨#[]⟩],.agg [.ak ⟨#[]⟩,.ak ⟨#[]⟩]]=enc fU:=rfl
def mP(r:b7)(l s:List ah)(x:ah):b7×List ah×Int :=
 if x∈l then (r,l,0) else if (iN s x).2≠0 then (fU,[],(iN s x).2) else (⟨⟨r.cd.bD,r.cd.cT++db (dK 1 l) x⟩,r.copy⟩,l++[x],0)
theorem KX{s:List ah}{x:ah}(h:(iN s x).2=0):bj x=true:=by
 simp only[iN] at h;cases q:bj x
 ·rw[q] at h
  (repeat' split at h) <;>simp_all
 ·rfl
theorem Az:(∀ A n b rest (q:iL),de A (some 1) n [] b (enc q) rest (some (.agg [.nils 8]))=au rest (A.aM n (.box (enc q)))) ∧
  (∀ A n rest (r:b7) (x y:List UInt8),de A none n [0,1] (enc r) (enc (aH.of x)) rest (some (enc (aH.of y)))=au rest (A.aM n (.box (enc (⟨⟨r.cd.bD,x⟩,r.copy⟩:b7))))) :=
 ⟨fun A n b rest q=>by rw[dS (s:=some 1) (v:=enc q) (old:=.agg [.nils 8]) (dH _) rfl rfl,ez],
  fun A n rest r x y=>by rw[dS (s:=none) (v:=enc (aH.of x)) (old:=enc (aH.of y)) (dH _) rfl rfl];rfl⟩
theorem Bq(r:b7)(h:r.small)(l s:List ah)(hl:l.length≤60)(hok:∀ x∈l,bj x=true)(hsl:s.length≤60)(h95:aP Tryz.prog 95 [enc l] (enc (⟨s⟩:iL)))(x:ah) :
  aP Tryz.prog 88 [enc r,enc l,enc x] (.tuple [enc (mP r l s x).1,enc (mP r l s x).2.1,enc (mP r l s x).2.2]):=by
 refine aP.bM Tryz.func88 NA O7 QK (t7 rfl) (fun hwf W0 bI E1 =>?_);simp only[Da,Ir,bC,zz4,Nat.reduceAdd];clear hwf;have f136:=Kf l x (by omega);have f93:=qf l (by omega);have f44:=Kz s x (by omega);simp only[mP];cases q1:decide (x∈l)
 rotate_left
 ·rw[q1] at f136;rw[if_pos (of_decide_eq_true q1)];have R:=y6 @jX (y6 @fD (y6 @bA aw))
  repeat' ((first |refine ab.aA (by decide +kernel) rfl fun K hK =>?_|refine .flat _ (f136) rfl ?_|refine .lead _ (f93) ?_|(refine ab.ik (gs:=yH) [] [(3,[3]),(6,[6])] [0,1,2,3,4,5] (by decide +kernel) (dB.of (by simp[gn,bJ,kp,I.only,bg])) fun K hK =>?_;simp only[gE,yH,zw6,zw7,R,simprocAttr])|(refine .av [0,1,2,3,5,6,7,8,10,11,15,27] hK ?_;clear hK K)|(with_reducible refine .done (hK _ ?_);clear hK K)|refine ab.of rfl ?_|(with_reducible refine ar.az (fun h =>?_) (fun h =>?_) <;>try simp only[h])) <;>try simp only[aB,R,simprocAttr])
  all_goals clear R
  all_goals rfl
 rw[q1] at f136;rw[if_neg (of_decide_eq_false q1)];by_cases q2:(iN s x).2=0
 rotate_left
 ·have q2':((iN s x).2 != 0)=true:=by simpa using q2
  rw[if_pos q2];generalize iN s x=p at *;have R:=y6 @jX (y6 @q2' (y6 @Az (y6 @im (y6 @fD (y6 @bA aw)))))
  repeat' ((first |refine ab.aA (by decide +kernel) rfl fun K hK =>?_|refine .flat _ (f136) rfl ?_|refine .lead _ (h95) ?_|refine .lead _ (f44) ?_|(refine .av [0,1,2,3,5,6,7,8,10,11,15,27] hK ?_;clear hK K)|(with_reducible refine .done (hK _ ?_);clear hK K)|refine ab.of rfl ?_|(with_reducible refine ar.az (fun h =>?_) (fun h =>?_) <;>try simp only[h])) <;>try simp only[aB,R,simprocAttr])
  all_goals clear R
  all_goals rfl
 have q2':((iN s x).2 != 0)=false:=by simp[q2]
 rw[if_neg (by simp[q2])];have hx:=KX q2;have f137:=Kg l (by omega) hok;have hin:=rK l;have f81:=rZ (dK 1 l) hin x hx;have hll:=sW hin hx;have hadd:=fK r.cd.cT (db (dK 1 l) x) (by have:=h.1.2;omega);generalize iN s x=p at *;have hbs:iO 8 (some [enc x])=some (enc [x]):=si 8 x rfl;have R:=y6 @jX (y6 @q2' (y6 @hadd (y6 @Az (y6 @im (y6 @fD (y6 @bA aw))))))
 repeat' ((first |refine ab.aA (by decide +kernel) rfl fun K hK =>?_|refine .flat _ (f136) rfl ?_|refine .lead _ (h95) ?_|refine .lead _ (f44) ?_|refine .flat _ (f137) rfl ?_|refine .lead _ (f81) ?_|(refine .av [0,1,2,3,5,6,7,8,10,11,15,27] hK ?_;clear hK K)|(with_reducible refine .done (hK _ ?_);clear hK K)|refine ab.of rfl ?_|(with_reducible refine ar.az (fun h =>?_) (fun h =>?_) <;>try simp only[h])) <;>try simp only[aB,R,simprocAttr])
 all_goals clear R
 obtain ⟨r',hr'⟩:∃ r':b7,r'=⟨⟨r.cd.bD,r.cd.cT++db (dK 1 l) x⟩,r.copy⟩:=⟨_,rfl⟩
 rw[←hr'];refine ab.sub (bt.mr [3] 3 (x:=.ptr 3 []) (y:=.ref (enc r')) (ts':=[(1,enc l),(3,.ref (enc r')),(5,.ptr 5 []),(6,.ptr 6 [])]) (os':=[(6,.box (enc fU)),(5,.box (enc x))]) rfl ?_ ?_ ?_ ?_ ?_ ?_) ?_
 ·rw[ph];simp[mn,dM,aC,iU,aq,iR,jy]
 ·simp[dN,bB,al.only,I.only,I.bY,bg]
 ·simp[bT,hU,bJ,I.only,bg]
 ·simp[bZ,dN,aq]
 ·simp[bU,ay,aq,I.only,bg]
 ·simp[bB,al.only,bg]
 refine ab.sub (bt.mr [5] 5 (x:=.ptr 5 []) (y:=.ref (enc x)) (ts':=[(1,enc l),(3,.ref (enc r')),(5,.ref (enc x)),(6,.ptr 6 [])]) (os':=[(6,.box (enc fU))]) rfl ?_ ?_ ?_ ?_ ?_ ?_) ?_
 ·rw[ph];simp[mn,dM,aC,iU,aq,iR,jy]
 ·simp[dN,bB,al.only,bg]
 ·simp[bT,hU,bJ,I.only,bg]
 ·simp[bZ,dN,aq]
 ·simp[bU,ay,aq,I.only,bg]
 ·simp[bB,al.only,bg]
 have R:=y6 @hbs (y6 @fB (y6 @fD (y6 @bA aw)))
 repeat' ((first |refine ab.aA (by decide +kernel) rfl fun K hK =>?_|refine .flat _ (8 [0,1,3,4,2,5,6,7,8] [(3,[]),(5,[]),(6,[6])]) rfl ?_|(refine .av [0,1,2,3,5,6,7,8,10,11,15,27] hK ?_;clear hK K)|(with_reducible refine .done (hK _ ?_);clear hK K)|refine ab.of rfl ?_|(with_reducible refine ar.az (fun h =>?_) (fun h =>?_) <;>try simp only[h])) <;>try simp only[aB,R,simprocAttr])
 all_goals clear R
 refine ab.ik (gs:=yI) [] [(3,[]),(5,[]),(6,[6])] [0,1,3,4,2,5,6,7,8] (by decide +kernel) (dB.of (by simp[gn,bJ,I.only,bg])) fun K hK =>?_
 try simp only[gE,yI,zz9,zy9,zw6,zw7,hbs,aw,aZ,simprocAttr]
 refine .bG [(7,46)] [enc l] (qt l) rfl (ua l (by omega)) fj.nil ⟨.inl ⟨(gz _ _).symm,bg _ _,dH _⟩,trivial⟩ ?_ ?_
 ·rintro x os' (⟨_,h | h,rfl⟩ | ⟨_,k,rfl,rfl⟩)
  ·subst h;exact dG.nil (fun _=>rfl) (fun h=>by cases h)
  ·subst h;exact dG.nil (fun _=>rfl) (fun h=>by cases h)
  ·exact dG.qV (fun p=>fR p _) (fun h=>by cases h) rfl (fun h=>by cases h) rfl (by decide)
 intro y os' hp;have hg:=ac5 (d:=46) (os0:=[(6,.box (enc fU))]) hp;have h6:∀ m,m≠46→aq (dp [(7,46)] os'++[(6,al.box (enc fU))]) m=aq [(6,al.box (enc fU))] m:=by
  intro m hm;rcases hp with ⟨_,_,rfl⟩ | ⟨_,k,_,rfl⟩
  ·rfl
  ·simp only[fJ,dp,zz9,zy9,bp,if_true,zz8,zy3,aq,if_neg hm]
 generalize y.aQ (bp [(7,46)])=v at hg ⊢;generalize dp [(7,46)] os'++[(6,al.box (enc fU))]=os at hg h6 ⊢;have h49:aq os 49=none:=h6 49 (by decide)
 try simp only[fB,aZ,simprocAttr]
 refine bQ.ac4 (default:ah) (ys:=[x]) rfl hg h49 (by simp;omega) (by simp[maxLen];omega) fun v' os'' hg2 hk =>?_;have h66:aq os'' 6=some (.box (enc fU)):=by rw[hk 6 (by decide),h6 6 (by decide)];rfl
 try simp only[h66,fD,aZ,simprocAttr]
 have hf:∀ ts,bh true (aC ts ((6,.box (enc r'))::os'')) v'=some (enc (l++[x])):=fun ts=>ac6 rfl hg2 fun m hm=>by
  have:m≠6:=by
   simp only[zx7,List.not_mem_nil,or_false] at hm;omega
  simp[aC,aq,this]
 refine .done (hK _ ?_);clear hK K;refine ab.ret ?_;simp only[aZ,simprocAttr]
 try simp only[hf,aw,aZ,simprocAttr]
 all_goals rfl
def lg(r:b7)(l s:List ah)(x:ah):b7×List ah×Int:=if ed r l=false then (fU,[],84) else mP r l s x
theorem Ky(r:b7)(h:r.small)(l s:List ah)(hl:l.length≤4000000000000)(hsl:s.length≤60)(h95:ed r l=true→aP Tryz.prog 95 [enc l] (enc (⟨s⟩:iL)))(x:ah) :
  aP Tryz.prog 35 [enc r,enc l,enc x] (.tuple [enc (lg r l s x).1,enc (lg r l s x).2.1,enc (lg r l s x).2.2]):=by
 refine aP.bM Tryz.func35 M8 OK Qm (t7 rfl) (fun hwf W0 bI E1 =>?_);simp only[CQ,H0,bC,zz4,Nat.reduceAdd];clear hwf;have f:=Bp r h l hl;simp only[lg];cases q:ed r l
 ·rw[q] at f;have R:=y6 @jX (y6 @fD (y6 @bA aw))
  repeat' ((first |refine ab.aA (by decide +kernel) rfl fun K hK =>?_|refine .flat _ (f) rfl ?_|(refine .av [0,1,2,3,5,6,7,8,12] hK ?_;clear hK K)|(with_reducible refine .done (hK _ ?_);clear hK K)|refine ab.of rfl ?_|(with_reducible refine ar.az (fun h =>?_) (fun h =>?_) <;>try simp only[h])) <;>try simp only[aB,R,simprocAttr])
  all_goals clear R
  all_goals rfl
 rw[q] at f;have hw:cS [] l=true:=by simp only[ed,zz0] at q;exact q.1.1
 have f88:=Bq r h l s (kE hw) (mR hw) hsl (h95 q) x;simp only[Bool.true_eq_false,if_false];generalize mP r l s x=p at *;have R:=y6 @jX (y6 @fD (y6 @bA aw))
 repeat' ((first |refine ab.aA (by decide +kernel) rfl fun K hK =>?_|refine .flat _ (f) rfl ?_|refine .lead _ (f88) ?_|(refine .av [0,1,2,3,5,6,7,8,12] hK ?_;clear hK K)|(with_reducible refine .done (hK _ ?_);clear hK K)|refine ab.of rfl ?_|(with_reducible refine ar.az (fun h =>?_) (fun h =>?_) <;>try simp only[h])) <;>try simp only[aB,R,simprocAttr])
 all_goals clear R
 all_goals rfl
end Go.Proofs.YtoffnnjbplgnaaaGreatDoor
namespace Go.Proofs.YtoffnnjbplgnaaaGreatDoor
open Go Go.Abs Go.RowKit
open Go.Abs.Enc (enc)
def gx(p:List Int)(i:Nat)(n:Int):Int:=if p=[] then 0 else dD (p.getD (i%p.length) 0) n
theorem agp(i n:Nat):(i:Int).tmod (n:Int)=((i%n:Nat):Int):=rfl
theorem tY(p:List Int)(i:Nat)(n:Int)(hn:n≠0)(hi:i≤1000)(hp:p.length≤1000000000000000):aP Tryz.prog 121 [enc p,.int .i64 (i:Int),enc n] (enc (gx p i n)):=by
 refine aP.bM Tryz.func121 Mm N0 PH (t7 rfl) (fun hwf W0 bI E1 =>?_);simp only[Cg,Hl,bC,zz4,Nat.reduceAdd];clear hwf;simp only[gx];by_cases h:p=[]
 ·have q:((p.length:Int)==0)=true:=by rw[h];rfl
  rw[if_pos h];have R:=y6 @q aw
  repeat' ((first |refine ab.aA (by decide +kernel) rfl fun K hK =>?_|(refine .av [0,1,2,6,9] hK ?_;clear hK K)|(with_reducible refine .done (hK _ ?_);clear hK K)|refine ab.of rfl ?_|(with_reducible refine ar.az (fun h =>?_) (fun h =>?_) <;>try simp only[h])) <;>try simp only[aB,R,simprocAttr])
  all_goals clear R
  all_goals rfl
 ·have hpos:0<p.length:=zv2.2 h;have q:((p.length:Int)==0)=false:=by rw[beq_eq_false_iff_ne];omega
  have hnz:¬ (p.length:Int)=0:=by omega
  have hr:=agp i p.length;have hlt:i%p.length<p.length:=Nat.mod_lt _ hpos;have he:=fun A=>gB (A:=A) 1 hlt rfl;rw[if_neg h];have hg:p.getD (i%p.length) 0=p[i%p.length]:=by simp[zz2,hlt]
  rw[hg];generalize p[i%p.length]=x at *;have R:=y6 @q (y6 @hnz (y6 @hr (y6 @he (y6 @hn aw))))
  repeat' ((first |refine ab.aA (by decide +kernel) rfl fun K hK =>?_|(refine .av [0,1,2,6,9] hK ?_;clear hK K)|(with_reducible refine .done (hK _ ?_);clear hK K)|refine ab.of rfl ?_|(with_reducible refine ar.az (fun h =>?_) (fun h =>?_) <;>try simp only[h])) <;>try simp only[aB,R,simprocAttr])
  all_goals clear R
  all_goals rfl
end Go.Proofs.YtoffnnjbplgnaaaGreatDoor
namespace Go.Proofs.YtoffnnjbplgnaaaGreatDoor
open Go Go.Abs
open Go.Abs.Enc (enc)
def fV(u:List UInt8)(p:List Int)(i:Nat):List UInt8:=u.take (gx p i (u.length+1:Nat)).toNat
def iK(w:List UInt8)(p:List Int)(i:Nat):List UInt8:=if gx p (i+1) 2=1∧0<w.length then w.set (gx p (i+2) (w.length:Nat)).toNat 63 else w
def AO(r:dL)(p:List Int)(i:Nat):List UInt8:=r.bD++iK (fV r.cT p i) p i
def nU(r:dL)(p:List Int)(i:Nat):dL:=⟨AO r p i,[]⟩
theorem rI(w:List UInt8)(p:List Int)(i:Nat):(iK w p i).length=w.length:=by
 rw[iK];split <;>simp
theorem ur{p:List Int}{i:Nat}{n:Nat}(hn:0<n∧n≤4611686018427387904)(hp:∀ x∈p,-9223372036854775808≤x∧x≤9223372036854775807):0≤gx p i (n:Nat)∧gx p i (n:Nat)<n:=by
 rw[gx];by_cases h:p=[]
 ·rw[if_pos h];omega
 ·rw[if_neg h];have hpos:0<p.length:=zv2.2 h;have hlt:i%p.length<p.length:=Nat.mod_lt _ hpos;have hm:p.getD (i%p.length) 0∈p:=by simp only[zz2,zz5 hlt,Option.getD_some];exact zv4 hlt
  rw[aes (hp _ hm) (by omega)];exact ⟨Int.emod_nonneg _ (by omega),Int.emod_lt_of_pos _ (by omega)⟩
theorem B5:∀ l:List UInt8,o9 (l.map enc)=some l
 | []=>rfl
 |b::l=>by
  have h:=B5 l;rw[zz9]
  show (match I.int .u8 (b.toNat:Int),o9 (l.map enc) with | .int .u8 n,some l=>some (UInt8.ofNat n.toNat::l) | _,_=>none)=_
  rw[h]
  show some (UInt8.ofNat ((b.toNat:Int)).toNat::l)=_
  simp
theorem uu(l:List UInt8):mX (some (l.map enc))=some (enc (aH.of l)):=by
 rw[mX,B5];rfl
theorem wJ(A:af)(t:List UInt8):lU A 1 (enc (aH.of t))=some (t.map enc):=rfl
theorem wz(n:Nat):List.replicate n (I.int .u8 0)=(List.replicate n (0:UInt8)).map enc:=by rw[List.map_replicate];rfl
def rJ(sz z lo k:Nat):Option (List I)→Option (List I)
 |some fs=>if lo+k≤fs.length∧z=sz then some ((fs.drop lo).take k) else none
 |none=>none
theorem tL(A:af)(sz n z lo k:Nat)(p:List Nat):lU A sz (.view n p z lo k)=rJ sz z lo k (eC (dM p (A.o n))):=by
 show du A sz (.view n p z lo k)=_
 simp only[du,ly,gJ];cases dM p (A.o n) with
 |none=>rfl
 |some c=>cases c <;>rfl
theorem wL(l q:List UInt8){n:Nat}(h:n=l.length):rJ 1 1 0 n (some ((l++q).map enc))=some (l.map enc):=by
 subst h;simp only[rJ,zz3,List.drop_zero,←List.map_take,zu8];rw[if_pos ⟨by simp,trivial⟩]
theorem wK(A:af)(k n:Nat)(l:List UInt8)(hn:n=l.length)(h:A.o k=some (.box (.agg (l.map enc)))):du A 1 (.view k [] 1 0 n)=some (l.map enc):=by
 subst hn;have e:=pU (A:=A) (esz:=1) (lo:=0) (k:=l.length) h (by simp);rw[List.drop_zero,zv5] at e;exact e
theorem DG{A:af}{d:Option Nat}{z esz:Nat}{rest:List aF}{ys:List I} : mh A d esz (au rest) (.c0 z) (some ys)=au rest (A.aR d (.int .i64 0)):=rfl
theorem ahb{n:Nat}{p:List Nat}{sz k:Nat} : ka n p sz 0 k k (some (.int .i64 k)) none none=some (.c0 sz):=by
 simp only[ka,jj];rw[if_pos ⟨by omega,by omega,by omega⟩,if_pos (by omega)]
theorem Jk{A:af}{n k i:Nat}{xs:List UInt8}(hk:k=xs.length)(hi:i<k)(h:A.o n=some (.box (.agg (xs.map enc)))):j9 A 1 (some (.int .i64 i)) none none (.view n [] 1 0 k)=some (.view n [] 1 i (k-i)):=by
 subst hk;rw[As,h]
 show nP n [] 1 0 xs.length 1 _ none none (some (xs.map enc))=_
 rw[Au,zz3,nQ (by omega) (by omega) hi]
theorem Jl{A:af}{n k:Nat}{xs:List UInt8}(hk:k=xs.length)(h:A.o n=some (.box (.agg (xs.map enc)))):j9 A 1 (some (.int .i64 k)) none none (.view n [] 1 0 k)=some (.c0 1):=by
 subst hk;rw[As,h]
 show nP n [] 1 0 xs.length 1 _ none none (some (xs.map enc))=_
 rw[Au,zz3,ahb]
theorem uH{A:af}{d:Option Nat}{n k m:Nat}{rest:List aF}{a:List UInt8}(hk:k=a.length+m)(h:A.o n=some (.box (.agg ((List.replicate k (0:UInt8)).map enc)))) :
  mh A d 1 (au rest) (.view n [] 1 0 k) (some (a.map enc))=au rest ((A.aM n (.box (.agg ((a++List.replicate m (0:UInt8)).map enc)))).aR d (.int .i64 (a.length:Nat))):=by
 subst hk;rw[qx (c:=a.length) h (by simp) (by omega)];simp
theorem DF{A:af}{d:Option Nat}{n i m:Nat}{rest:List aF}{a b:List UInt8}(hi:i=a.length)(hm:m=b.length)(h:A.o n=some (.box (.agg ((a++List.replicate m (0:UInt8)).map enc)))) :
  mh A d 1 (au rest) (.view n [] 1 i m) (some (b.map enc))=au rest ((A.aM n (.box (.agg ((a++b).map enc)))).aR d (.int .i64 (b.length:Nat))):=by
 subst hi hm;rw[qx (c:=b.length) h (by simp) (by omega)];simp
theorem Bm(r:dL)(hr:r.small)(p:List Int)(i:Nat)(hi:i≤900)(hp:p.length≤100000000000000)(hpi:∀ x∈p,-9223372036854775808≤x∧x≤9223372036854775807):aP Tryz.prog 75 [enc r,enc p,.int .i64 (i:Int)] (enc (nU r p i)):=by
 obtain ⟨n1,hn1⟩:∃ n1:Nat,gx p i ((r.cT.length+1:Nat):Int)=(n1:Int):=zy2 (ur (by have:=hr.2;omega) hpi).1;have hn1l:n1≤r.cT.length:=by have:=(ur (p:=p) (i:=i) (n:=r.cT.length+1) (by have:=hr.2;omega) hpi).2;omega
 have hd:=hr.1;have hu:=hr.2;have e1:fV r.cT p i=r.cT.take n1:=by rw[fV,hn1];rfl
 have hnl:(r.cT.take n1).length=n1:=by rw[zz6];omega
 rw[nU,AO,e1];refine aP.bM Tryz.func75 Nq OY QB (t7 rfl) (fun hwf W0 bI E1 =>?_);simp only[c75,Ih,bC,zz4,Nat.reduceAdd];clear hwf;have f1:=tY p i ((r.cT.length+1:Nat):Int) (by omega) (by omega) (by omega);have f2:=tY p (i+1) 2 (by omega) (by omega) (by omega);have hss:=tF (aH.of r.cT) (j:=n1) (by rw[aH.eJ];exact hn1l);rw[aH.eJ] at hss;have hs2:=Ak (r.cT.take n1);have hl:=fun t=>rF t;have hw1:IntKind.i64.wrap (((r.cT.length:Nat):Int)+1)=((r.cT.length+1:Nat):Int):=by rw[eX _ (by omega) (by omega)];omega
 have hw2:IntKind.i64.wrap ((i:Int)+1)=((i+1:Nat):Int):=by rw[eX _ (by omega) (by omega)];omega
 have hw3:IntKind.i64.wrap ((i:Int)+2)=((i+2:Nat):Int):=by rw[eX _ (by omega) (by omega)];omega
 rw[hn1] at f1
 replace f2:aP Tryz.prog 121 [enc p,.int .i64 ((i+1:Nat):Int),.int .i64 2] (.int .i64 (gx p (i+1) 2)):=f2
 replace f1:aP Tryz.prog 121 [enc p,.int .i64 (i:Int),.int .i64 ((r.cT.length+1:Nat):Int)] (.int .i64 (n1:Int)):=f1
 obtain ⟨l2,hl2⟩:∃ l2,iK (r.cT.take n1) p i=l2:=⟨_,rfl⟩
 have hl2n:l2.length=n1:=by rw[←hl2,rI,hnl]
 rw[hl2];rw[iK] at hl2;generalize r.cT.take n1=w at *;have hpi':=hpi;clear e1;have hiv:=trivial;have hat:=trivial;have hst:=trivial;have f3:=f2;rcases Nat.eq_zero_or_pos n1 with h0 | h0
 ·have hw0:l2=w:=by
   rw[if_neg] at hl2
   ·exact hl2.symm
   ·intro h;omega
  subst hw0;have hg:decide ((n1:Int)>0)=false:=decide_eq_false (by omega);cases hb:gx p (i+1) 2==1
  ·generalize gx p (i+1) 2=a2 at *;have hw4:IntKind.i64.wrap ((r.bD.length:Int)+(n1:Int))=((r.bD.length+n1:Nat):Int):=by rw[eX _ (by omega) (by omega)];omega
   have hmk:=fun (A:af) (rest:List aF)=>vO (A:=A) (d:=44) (bytes:=1) (z:=.int .u8 0) (rest:=rest) (n:=r.bD.length+n1) (by omega) (by unfold maxLen;omega);have hcp:=fun (A:af) (rest:List aF)=>uH (A:=A) (d:=some 48) (n:=44) (k:=r.bD.length+n1) (m:=n1) (rest:=rest) (a:=r.bD) rfl;have hcv:=fun (q:List UInt8)=>wL l2 q (n:=n1) hl2n.symm;have hsb:=fun (A:af)=>wK A 44 (r.bD.length+n1) (r.bD++l2) (by simp[hl2n]);have hbs:=uu (r.bD++l2);have hce:=fun (A:af)=>wJ A r.bD;have hl0:l2=[]:=zv0 (by omega);have hsl:=fun (A:af)=>Jl (A:=A) (n:=44) (k:=r.bD.length+n1) (xs:=r.bD++List.replicate n1 0) (by simp);have hn:((r.bD.length+n1:Nat):Int)=(r.bD.length:Int):=by omega
   have hrp:r.bD++List.replicate n1 (0:UInt8)=r.bD++l2:=by rw[hl0,h0];rfl
   rw[hn,hrp] at hsl;rw[hrp] at hcp;have R:=y6 @hg (y6 @sV (y6 @tL (y6 @oB (y6 @wz (y6 @hw1 (y6 @hw2 (y6 @hw3 (y6 @hw4 (y6 @hb (y6 @hnl (y6 @hmk (y6 @hcp (y6 @hcv (y6 @hsb (y6 @hbs (y6 @hce (y6 @hsl (y6 @DG (y6 @lA (y6 @fD (y6 @mZ (y6 @hl (y6 @hss (y6 @hs2 (y6 @bA (y6 @fI aw))))))))))))))))))))))))))
   repeat' ((first |(with_reducible refine .guard (fun hb =>?_) (fun hb =>?_) <;>try simp only[hb])|(refine ab.ik (gs:=nk) [] [] [0,1,2,3,4,5,6,7,8,9,10,11] (by decide +kernel) (dB.of (by simp[gn])) fun K hK =>?_;simp only[gE,nk,zw6,zw7,R,simprocAttr])|refine bQ.fC rfl fun m =>?_|refine ab.aA (by decide +kernel) rfl fun K hK =>?_|refine .flat _ (f1) rfl ?_|refine .flat _ (f2) rfl ?_|(refine .av [0,1,2,3,6,7,8,29] hK ?_;clear hK K)|(with_reducible refine .done (hK _ ?_);clear hK K)|refine ab.of rfl ?_|(with_reducible refine ar.az (fun h =>?_) (fun h =>?_) <;>try simp only[h])) <;>try simp only[aB,R,zw2,simprocAttr])
   all_goals clear R
   all_goals rfl
  ·generalize gx p (i+1) 2=a2 at *;have hw4:IntKind.i64.wrap ((r.bD.length:Int)+(n1:Int))=((r.bD.length+n1:Nat):Int):=by rw[eX _ (by omega) (by omega)];omega
   have hmk:=fun (A:af) (rest:List aF)=>vO (A:=A) (d:=44) (bytes:=1) (z:=.int .u8 0) (rest:=rest) (n:=r.bD.length+n1) (by omega) (by unfold maxLen;omega);have hcp:=fun (A:af) (rest:List aF)=>uH (A:=A) (d:=some 48) (n:=44) (k:=r.bD.length+n1) (m:=n1) (rest:=rest) (a:=r.bD) rfl;have hcv:=fun (q:List UInt8)=>wL l2 q (n:=n1) hl2n.symm;have hsb:=fun (A:af)=>wK A 44 (r.bD.length+n1) (r.bD++l2) (by simp[hl2n]);have hbs:=uu (r.bD++l2);have hce:=fun (A:af)=>wJ A r.bD;have hl0:l2=[]:=zv0 (by omega);have hsl:=fun (A:af)=>Jl (A:=A) (n:=44) (k:=r.bD.length+n1) (xs:=r.bD++List.replicate n1 0) (by simp);have hn:((r.bD.length+n1:Nat):Int)=(r.bD.length:Int):=by omega
   have hrp:r.bD++List.replicate n1 (0:UInt8)=r.bD++l2:=by rw[hl0,h0];rfl
   rw[hn,hrp] at hsl;rw[hrp] at hcp;have R:=y6 @hg (y6 @sV (y6 @tL (y6 @oB (y6 @wz (y6 @hw1 (y6 @hw2 (y6 @hw3 (y6 @hw4 (y6 @hb (y6 @hnl (y6 @hmk (y6 @hcp (y6 @hcv (y6 @hsb (y6 @hbs (y6 @hce (y6 @hsl (y6 @DG (y6 @lA (y6 @fD (y6 @mZ (y6 @hl (y6 @hss (y6 @hs2 (y6 @bA (y6 @fI aw))))))))))))))))))))))))))
   repeat' ((first |(with_reducible refine .guard (fun hb =>?_) (fun hb =>?_) <;>try simp only[hb])|(refine ab.ik (gs:=nk) [] [] [0,1,2,3,4,5,6,7,8,9,10,11] (by decide +kernel) (dB.of (by simp[gn])) fun K hK =>?_;simp only[gE,nk,zw6,zw7,R,simprocAttr])|refine bQ.fC rfl fun m =>?_|refine ab.aA (by decide +kernel) rfl fun K hK =>?_|refine .flat _ (f1) rfl ?_|refine .flat _ (f2) rfl ?_|(refine .av [0,1,2,3,6,7,8,29] hK ?_;clear hK K)|(with_reducible refine .done (hK _ ?_);clear hK K)|refine ab.of rfl ?_|(with_reducible refine ar.az (fun h =>?_) (fun h =>?_) <;>try simp only[h])) <;>try simp only[aB,R,zw2,simprocAttr])
   all_goals clear R
   all_goals rfl
 ·have hg:decide ((n1:Int)>0)=true:=decide_eq_true (by omega);cases hb:gx p (i+1) 2==1
  ·have hw0:l2=w:=by
    rw[if_neg] at hl2
    ·exact hl2.symm
    ·intro h;rw[h.1] at hb;cases hb
   subst hw0;generalize gx p (i+1) 2=a2 at *;have hw4:IntKind.i64.wrap ((r.bD.length:Int)+(n1:Int))=((r.bD.length+n1:Nat):Int):=by rw[eX _ (by omega) (by omega)];omega
   have hmk:=fun (A:af) (rest:List aF)=>vO (A:=A) (d:=44) (bytes:=1) (z:=.int .u8 0) (rest:=rest) (n:=r.bD.length+n1) (by omega) (by unfold maxLen;omega);have hcp:=fun (A:af) (rest:List aF)=>uH (A:=A) (d:=some 48) (n:=44) (k:=r.bD.length+n1) (m:=n1) (rest:=rest) (a:=r.bD) rfl;have hcv:=fun (q:List UInt8)=>wL l2 q (n:=n1) hl2n.symm;have hsb:=fun (A:af)=>wK A 44 (r.bD.length+n1) (r.bD++l2) (by simp[hl2n]);have hbs:=uu (r.bD++l2);have hce:=fun (A:af)=>wJ A r.bD;have hsl:=fun (A:af)=>Jk (A:=A) (n:=44) (k:=r.bD.length+n1) (i:=r.bD.length) (xs:=r.bD++List.replicate n1 0) (by simp) (by omega);rw[Nat.add_sub_cancel_left] at hsl;have hcb:=fun (A:af) (rest:List aF)=>DF (A:=A) (d:=some 55) (n:=44) (i:=r.bD.length) (m:=n1) (rest:=rest) (a:=r.bD) (b:=l2) rfl hl2n.symm;have R:=y6 @hg (y6 @hiv (y6 @hat (y6 @hst (y6 @vp (y6 @sV (y6 @tL (y6 @oB (y6 @wz (y6 @hw1 (y6 @hw2 (y6 @hw3 (y6 @hw4 (y6 @hb (y6 @hnl (y6 @hmk (y6 @hcp (y6 @hcv (y6 @hsb (y6 @hbs (y6 @hce (y6 @hsl (y6 @hcb (y6 @lA (y6 @fD (y6 @mZ (y6 @hl (y6 @hss (y6 @hs2 (y6 @bA (y6 @fI aw))))))))))))))))))))))))))))))
   repeat' ((first |(with_reducible refine .guard (fun hb =>?_) (fun hb =>?_) <;>try simp only[hb])|(refine ab.ik (gs:=nk) [] [] [0,1,2,3,4,5,6,7,8,9,10,11] (by decide +kernel) (dB.of (by simp[gn])) fun K hK =>?_;simp only[gE,nk,zw6,zw7,R,simprocAttr])|refine bQ.fC rfl fun m =>?_|refine ab.aA (by decide +kernel) rfl fun K hK =>?_|refine .flat _ (f1) rfl ?_|refine .flat _ (f2) rfl ?_|refine .flat _ (f3) rfl ?_|(refine .av [0,1,2,3,6,7,8,29] hK ?_;clear hK K)|(with_reducible refine .done (hK _ ?_);clear hK K)|refine ab.of rfl ?_|(with_reducible refine ar.az (fun h =>?_) (fun h =>?_) <;>try simp only[h])) <;>try simp only[aB,R,zw2,simprocAttr])
   all_goals clear R
   all_goals rfl
  ·obtain ⟨j,hj,hjn⟩:∃ j:Nat,gx p (i+2) (n1:Int)=(j:Int)∧j<n1:=by
    have:=ur (p:=p) (i:=i+2) (n:=n1) (by omega) hpi';obtain ⟨j,hj⟩:=zy2 this.1;exact ⟨j,hj,by omega⟩
   have hw0:w.set j 63=l2:=by
    rw[if_pos ⟨by simpa using hb,by omega⟩,hnl,hj] at hl2;exact hl2
   clear f3 hiv hat hst;have f3:=tY p (i+2) (n1:Int) (by omega) (by omega) (by omega);rw[hj] at f3
   replace f3:aP Tryz.prog 121 [enc p,.int .i64 ((i+2:Nat):Int),.int .i64 (n1:Int)] (.int .i64 (j:Int)):=f3
   have hiv:=fun (fs:List I)=>FB (m:=19) (sz:=1) (lo:=0) (l:=n1) (i:=j) (fs:=fs) hjn;rw[zz4] at hiv;have hat:∀ q:List UInt8,iv j [] (some ((w++q).map enc))=some (enc w[j]):=fun q=>by
    have h2:((w++q).map (enc (α:=UInt8)))[j]?=some (enc w[j]):=by
     rw[zx8,zx0 (by omega),zz5 (by omega)];rfl
    simp only[iv,h2,od,jy]
   have hst:∀ (A:af) (q:List UInt8) (u:UInt8) (rest:List aF),de A none 19 [j] (.agg ((w++q).map enc)) (.int .u8 63) rest (some (enc u))=au rest (A.aM 19 (.box (.agg ((l2++q).map enc)))):=fun A q u rest=>by
    have:=ahk (A:=A) (n:=19) (i:=j) (xs:=w++q) 63 u (rest:=rest) rfl (by simp;omega);rw[List.set_append_left _ _ (by omega),hw0] at this;exact this
   generalize gx p (i+1) 2=a2 at *;have hw4:IntKind.i64.wrap ((r.bD.length:Int)+(n1:Int))=((r.bD.length+n1:Nat):Int):=by rw[eX _ (by omega) (by omega)];omega
   have hmk:=fun (A:af) (rest:List aF)=>vO (A:=A) (d:=44) (bytes:=1) (z:=.int .u8 0) (rest:=rest) (n:=r.bD.length+n1) (by omega) (by unfold maxLen;omega);have hcp:=fun (A:af) (rest:List aF)=>uH (A:=A) (d:=some 48) (n:=44) (k:=r.bD.length+n1) (m:=n1) (rest:=rest) (a:=r.bD) rfl;have hcv:=fun (q:List UInt8)=>wL l2 q (n:=n1) hl2n.symm;have hsb:=fun (A:af)=>wK A 44 (r.bD.length+n1) (r.bD++l2) (by simp[hl2n]);have hbs:=uu (r.bD++l2);have hce:=fun (A:af)=>wJ A r.bD;have hsl:=fun (A:af)=>Jk (A:=A) (n:=44) (k:=r.bD.length+n1) (i:=r.bD.length) (xs:=r.bD++List.replicate n1 0) (by simp) (by omega);rw[Nat.add_sub_cancel_left] at hsl;have hcb:=fun (A:af) (rest:List aF)=>DF (A:=A) (d:=some 55) (n:=44) (i:=r.bD.length) (m:=n1) (rest:=rest) (a:=r.bD) (b:=l2) rfl hl2n.symm;have R:=y6 @hg (y6 @hiv (y6 @hat (y6 @hst (y6 @vp (y6 @sV (y6 @tL (y6 @oB (y6 @wz (y6 @hw1 (y6 @hw2 (y6 @hw3 (y6 @hw4 (y6 @hb (y6 @hnl (y6 @hmk (y6 @hcp (y6 @hcv (y6 @hsb (y6 @hbs (y6 @hce (y6 @hsl (y6 @hcb (y6 @lA (y6 @fD (y6 @mZ (y6 @hl (y6 @hss (y6 @hs2 (y6 @bA (y6 @fI aw))))))))))))))))))))))))))))))
   repeat' ((first |(with_reducible refine .guard (fun hb =>?_) (fun hb =>?_) <;>try simp only[hb])|(refine ab.ik (gs:=nk) [] [] [0,1,2,3,4,5,6,7,8,9,10,11] (by decide +kernel) (dB.of (by simp[gn])) fun K hK =>?_;simp only[gE,nk,zw6,zw7,R,simprocAttr])|refine bQ.fC rfl fun m =>?_|refine ab.aA (by decide +kernel) rfl fun K hK =>?_|refine .flat _ (f1) rfl ?_|refine .flat _ (f2) rfl ?_|refine .flat _ (f3) rfl ?_|(refine .av [0,1,2,3,6,7,8,29] hK ?_;clear hK K)|(with_reducible refine .done (hK _ ?_);clear hK K)|refine ab.of rfl ?_|(with_reducible refine ar.az (fun h =>?_) (fun h =>?_) <;>try simp only[h])) <;>try simp only[aB,R,zw2,simprocAttr])
   all_goals clear R
   all_goals rfl
def eZ(r:b7)(p:List Int):b7:=⟨nU r.cd p 0,nU r.copy p 3⟩
theorem tZ(r:b7)(h:r.small)(p:List Int)(hp:p.length≤100000000000000)(hpi:∀ x∈p,-9223372036854775808≤x∧x≤9223372036854775807):aP Tryz.prog 22 [enc r,enc p] (enc (eZ r p)):=by
 refine aP.bM Tryz.func22 M0 OD Qf (t7 rfl) (fun hwf W0 bI E1 =>?_);simp only[CJ,HT,bC,zz4];clear hwf;have f1:=Bm r.cd h.1 p 0 (by omega) hp hpi;have f2:=Bm r.copy h.2 p 3 (by omega) hp hpi
 replace f1:aP Tryz.prog 75 [enc r.cd,enc p,.int .i64 0] (enc (nU r.cd p 0)):=f1
 replace f2:aP Tryz.prog 75 [enc r.copy,enc p,.int .i64 3] (enc (nU r.copy p 3)):=f2
 simp only[eZ];generalize nU r.cd p 0=a at *;generalize nU r.copy p 3=b at *;have R:=y6 @mZ (y6 @lA (y6 @pf (y6 @DZ (y6 @fD aw))))
 repeat' ((first |refine ab.aA (by decide +kernel) rfl fun K hK =>?_|refine .flat _ (f1) rfl ?_|refine .flat _ (f2) rfl ?_|(refine .av [0,1,2,4] hK ?_;clear hK K)|(with_reducible refine .done (hK _ ?_);clear hK K)|refine ab.of rfl ?_|(with_reducible refine ar.az (fun h =>?_) (fun h =>?_) <;>try simp only[h])) <;>try simp only[aB,R,simprocAttr])
 all_goals clear R
 all_goals rfl
def gF:ah:=⟨2,0,5,10,12,0,0,[97]⟩
def kg:List UInt8:=[51,55,52,56,51,55,32,50,32,48,32,53,32,49,48,32,49,50,32,48,32,48,32,97,10]
def dF:b7:=⟨⟨[],kg⟩,⟨[],[]⟩⟩
theorem Si:my 1 gF=(kg,374837,0):=by decide +kernel
theorem Sl:mI 1 kg=(gF,374837,0):=by decide +kernel
theorem Sn:lg fU [] [] gF=(dF,[gF],0):=by decide +kernel
theorem Sj:(iY (eZ dF [])).2=[]:=by decide +kernel
theorem Sk:(iY (eZ dF [25,0,0])).2=[gF]:=by decide +kernel
theorem Sm:(iY (eZ dF [25,1,3])).2=[]:=by decide +kernel
theorem Sh:iY (kN (gh dF) false)=(⟨⟨kg,[]⟩,⟨kg,[]⟩⟩,[gF]):=by decide +kernel
theorem oZ:kg.length=25:=rfl
theorem KS:kg.drop 7=[50,32,48,32,53,32,49,48,32,49,50,32,48,32,48,32,97,10]:=rfl
theorem R7:I.agg [.agg [.int .i64 2,.int .i64 0],.int .i64 5,.int .i64 10,.int .i64 12,.agg [.int .i64 0,.int .i64 0],.ak ⟨#[97]⟩]=enc gF:=rfl
theorem AM(p:List Int):(eZ dF p).small:=by
 refine ⟨⟨?_,?_⟩,⟨?_,?_⟩⟩ <;>simp[eZ,nU,AO,rI,fV,dF,oZ] <;>omega
theorem Ki:aP Tryz.prog 14 [] (enc true):=by
 refine aP.bM Tryz.func14 MD Of PV (t7 rfl) (fun hwf W0 bI E1 =>?_);simp only[Cs,Hy,bC];clear hwf;have f29:=Bg 1 gF;rw[Si] at f29;have f31:=Kx 1 kg (by rw[oZ];omega);rw[Sl] at f31;have f35:=Ky fU ⟨⟨by decide,by decide⟩,⟨by decide,by decide⟩⟩ [] [] (by decide) (by decide) (fun _=>xe) gF;rw[Sn] at f35;have h0:dF.small:=by refine ⟨⟨?_,?_⟩,⟨?_,?_⟩⟩ <;>simp[dF,oZ]
 have t1:=tZ dF h0 [] (by simp) (by simp);have t2:=tZ dF h0 [25,0,0] (by simp) (by simp);have t3:=tZ dF h0 [25,1,3] (by simp) (by simp);have o1:=oS _ (AM []);have o2:=oS _ (AM [25,0,0]);have o3:=oS _ (AM [25,1,3]);have f20:=Bf dF h0;have f24:=xd (gh dF) false;have o4:=oS (kN (gh dF) false) (by refine ⟨⟨?_,?_⟩,⟨?_,?_⟩⟩ <;>simp[gh,kN,dF,dL.all,oZ]);rw[Sj] at o1;rw[Sk] at o2;rw[Sm] at o3;rw[Sh] at o4;generalize eZ dF []=T1 at *;generalize eZ dF [25,0,0]=T2 at *;generalize eZ dF [25,1,3]=T3 at *;generalize gh dF=T4 at *;generalize kN T4 false=T5 at *;generalize (iY T1).1=U1 at *;generalize (iY T2).1=U2 at *;generalize (iY T3).1=U3 at *
 dsimp only at f29 f31 f35 o4
 have hl:oy (enc (aH.of kg))=some (.int .i64 25):=by rw[rF,oZ];rfl
 have hww:dF.cd.cT=kg:=rfl;have hl2:(((aH.of kg).l.length:Nat):Int)=25:=by rw[aH.eJ,oZ];rfl
 have hd1:decide (dF.copy=(⟨[],[]⟩:dL))=true:=rfl;have hw7:IntKind.i64.wrap 7=7:=by decide
 have hl1:(((([gF]:List ah).length:Nat):Int)==1)=true:=rfl;have hn0:(((([]:List ah).length:Nat):Int)==0)=true:=rfl;have hse:b8 .eql (enc (aH.of [50,32,48,32,53,32,49,48,32,49,50,32,48,32,48,32,97,10])) (.ak ⟨#[50,32,48,32,53,32,49,48,32,49,50,32,48,32,48,32,97,10]⟩)=some (.bool true):=by
  show b8 .eql (enc (aH.of _)) (enc (aH.of [50,32,48,32,53,32,49,48,32,49,50,32,48,32,48,32,97,10]))=_
  rw[nL];simp
 have hp1:fi [.int .i64 0,.int .i64 0] [(0,.int .i64 2)]=some [.int .i64 2,.int .i64 0]:=rfl;have hp2:fi [.agg [.int .i64 0,.int .i64 0],.int .i64 0,.int .i64 0,.int .i64 0,.agg [.int .i64 0,.int .i64 0],.ak ⟨#[]⟩] [(0,.agg [.int .i64 2,.int .i64 0]),(1,.int .i64 5),(2,.int .i64 10),(3,.int .i64 12),(5,.ak ⟨#[97]⟩)]=some [.agg [.int .i64 2,.int .i64 0],.int .i64 5,.int .i64 10,.int .i64 12,.agg [.int .i64 0,.int .i64 0],.ak ⟨#[97]⟩]:=rfl;have hb2:iO 1 (some [.int .i64 25,.int .i64 0,.int .i64 0])=some (enc ([25,0,0]:List Int)):=rfl;have hb3:iO 1 (some [.int .i64 25,.int .i64 1,.int .i64 3])=some (enc ([25,1,3]:List Int)):=rfl;have hs:=Al (aH.of kg) (i:=7) (by rw[aH.eJ,oZ];omega);rw[aH.eJ,KS] at hs
 replace hs:fq (.ss true false) [enc (aH.of kg),.int .i64 7]=some (enc (aH.of [50,32,48,32,53,32,49,48,32,49,50,32,48,32,48,32,97,10])):=hs
 have R:=y6 @hw7 (y6 @hl1 (y6 @hn0 (y6 @hse (y6 @hww (y6 @hl2 (y6 @hd1 (y6 @hl (y6 @hb2 (y6 @hb3 (y6 @hs (y6 @hp1 (y6 @hp2 (y6 @nL (y6 @R7 (y6 @fB (y6 @fb (y6 @DZ (y6 @lA (y6 @pf (y6 @fD (y6 @mZ (y6 @bA aw))))))))))))))))))))))
 repeat' ((first |(with_reducible refine .guard (fun hb =>?_) (fun hb =>?_) <;>try simp only[hb])|refine ab.aA (by decide +kernel) rfl fun K hK =>?_|refine .flat _ (f29) rfl ?_|refine .flat _ (f31) rfl ?_|refine .flat _ (f35) rfl ?_|refine .flat _ (t1) rfl ?_|refine .flat _ (o1) rfl ?_|refine .flat _ (t2) rfl ?_|refine .flat _ (o2) rfl ?_|refine .flat _ (t3) rfl ?_|refine .flat _ (o3) rfl ?_|refine .flat _ (f20) rfl ?_|refine .flat _ (f24) rfl ?_|refine .flat _ (o4) rfl ?_|refine .lead _ (f35) ?_|refine .lead _ (o1) ?_|refine .lead _ (o2) ?_|refine .lead _ (o3) ?_|refine .lead _ (o4) ?_|(refine .av [0,1,2,3,4,5,6,7,8,9,10,12,14,16,17,18,19,20] hK ?_;clear hK K)|(with_reducible refine .done (hK _ ?_);clear hK K)|refine ab.of rfl ?_|(with_reducible refine ar.az (fun h =>?_) (fun h =>?_) <;>try simp only[h])) <;>try simp only[aB,R,eq_self,decide_true,simprocAttr])
 all_goals clear R
 all_goals rfl
theorem ahg(A:af)(sz n z lo k:Nat)(p:List Nat):du A sz (.view n p z lo k)=rJ sz z lo k (eC (dM p (A.o n))):=tL A sz n z lo k p
end Go.Proofs.YtoffnnjbplgnaaaGreatDoor
namespace Go.Proofs.YtoffnnjbplgnaaaGreatDoor
open Go Go.Abs Go.Shelf Go.RowKit Go.Sort Go.Proofs
open Go.Abs.Enc (enc)
theorem Pw(a b:Item)(W:World):Calls Tryz.prog 140 #[.agg #[.int .i64 a.aI,.int .i64 a.no],.agg #[.int .i64 b.aI,.int .i64 b.no]] W fun e w'=>e=.returned (.int .i64 (iP a b))∧∃ q os',w'=grow (W.drewN q) os':=by
 go_enter Tryz.func140,Tryz.ntmps140
 obtain ⟨c1,hc1⟩:∃ c1,c1=Obj.cells #[Value.int .i64 a.aI,.int .i64 a.no] 48:=⟨_,rfl⟩
 obtain ⟨c2,hc2⟩:∃ c2,c2=Obj.cells #[Value.int .i64 b.aI,.int .i64 b.no] 48:=⟨_,rfl⟩
 go_wp2
 rw[←hc1,←hc2];obtain ⟨W2,hW2⟩:∃ W2,W2=((W.alloc c1).alloc c2):=⟨_,rfl⟩
 have e1:W2.heap[W.heap.size]?=some c1:=by rw[hW2,heap_alloc_old _ _ (by simp),heap_alloc_new]
 have e2:W2.heap[W.heap.size+1]?=some c2:=by
  have:=heap_alloc_new (W.alloc c1) c2;rw[World.size_alloc] at this;rw[hW2];exact this
 have k1:W2.cell? ⟨W.heap.size,0,none⟩=some (.int .i64 a.aI):=by simp[World.cell?,e1,hc1]
 have k2:W2.cell? ⟨W.heap.size,1,none⟩=some (.int .i64 a.no):=by simp[World.cell?,e1,hc1]
 have k3:W2.cell? ⟨W.heap.size+1,0,none⟩=some (.int .i64 b.aI):=by simp[World.cell?,e2,hc2]
 have k4:W2.cell? ⟨W.heap.size+1,1,none⟩=some (.int .i64 b.no):=by simp[World.cell?,e2,hc2]
 rw[←hW2];have d1:W2.drew.cell? ⟨W.heap.size,0,none⟩=some (.int .i64 a.aI):=k1;have d2:W2.drew.cell? ⟨W.heap.size,1,none⟩=some (.int .i64 a.no):=k2;have d3:W2.drew.cell? ⟨W.heap.size+1,0,none⟩=some (.int .i64 b.aI):=k3;have d4:W2.drew.cell? ⟨W.heap.size+1,1,none⟩=some (.int .i64 b.no):=k4;have hgr:∃ os,grow W os=W2:=⟨#[c1,c2],by rw[hW2,alloc_eq_grow,alloc_eq_grow,grow_grow];rfl⟩
 clear hc1 hc2 hW2 e1 e2;generalize W.heap.size=S at *;obtain ⟨r,hr⟩:∃ r,iP a b=r:=⟨_,rfl⟩
 have h160:Calls Tryz.prog 160 #[.slice (some ⟨W2.heap.size,0,none⟩) 2 2] ((W2.drew).alloc (Obj.cells #[.int .i64 (fy a.aI b.aI),.int .i64 (fy a.no b.no)] 3)) fun e w'=>e=.returned (.int .i64 r)∧w'=(W2.drew).alloc (Obj.cells #[.int .i64 (fy a.aI b.aI),.int .i64 (fy a.no b.no)] 3):=by
  rw[←hr];exact afF _ _ _ W2.heap.size (heap_alloc_new W2.drew _)
 refine wp_region_still_tail 10 (by kernel_rfl) (by kernel_rfl) ?_
 change wpStill _ _ W2.drew _ _ _
 simp only[List.take_succ_cons,List.take_zero,List.drop_succ_cons,List.drop_zero]
 repeat (first | still_step | still_call (Pu _ _ _))
 refine wpStill_nil ?_
 change wpList _ _ _ _ _ W2.drew
 go_wp2_with (go_at_call 160;refine h160.mono ?_;rintro e w' ⟨rfl,rfl⟩)
 go_ret
 refine ⟨by rw[hr];rfl,?_⟩;obtain ⟨os,hos⟩:=hgr;exact ⟨1,os ++ #[Obj.cells #[.int .i64 (fy a.aI b.aI),.int .i64 (fy a.no b.no)] 3],by rw[←hos,alloc_eq_grow,←grow_grow];rfl⟩
theorem ac8(W:World)(o1 o2:Obj)(q:Nat)(os:Array Obj):grow (((W.alloc o1).alloc o2).drewN q) os=grow (W.drewN q) ((#[o1] ++ #[o2])++os):=by
 rw[alloc_eq_grow,alloc_eq_grow,grow_grow]
 show grow (grow (W.drewN q) (#[o1] ++ #[o2])) os=_
 rw[grow_grow]
theorem Pp(x y:ah)(W:World):Calls Tryz.prog 142 #[.agg (dk x).toArray,.agg (dk y).toArray] W fun e w'=>e=.returned (.int .i64 (iP x.bw y.bw))∧∃ q os',w'=grow (W.drewN q) os':=by
 have hcon:=fun W'=>Pw x.bw y.bw W';simp only[ah.bw] at hcon ⊢;simp only[dk];generalize iP ⟨x.aI,x.no⟩ ⟨y.aI,y.no⟩=r at hcon ⊢
 go_enter Tryz.func142,Tryz.ntmps142
 go_wp2_with (go_at_call 140;refine (hcon _).mono ?_;rintro e w' ⟨rfl,q,os',rfl⟩)
 go_ret
 exact ⟨rfl,q,_,ac8 _ _ _ _ _⟩
theorem Pt(aL off size:Nat)(w:World):CmpLays Tryz.prog 142 #[] dk 8 (fun x y=>iP x.bw y.bw) aL off size w:=fun _ _ _ _ x y=>Pp x y _
theorem vF(x y:ah):ltOf (fun x y:ah=>iP x.bw y.bw) x y=dY x y:=by
 show decide (iP x.bw y.bw<0)=_
 rw[DA];rfl
theorem ahr:SWO (ltOf fun x y:ah=>iP x.bw y.bw) where
 irrefl x:=by rw[vF];simp[dY]
 trans x y z h1 h2:=by rw[vF] at *;exact BS h1 h2
 ntrans x y z h1 h2:=by
  rw[vF] at *;simp only[dY,decide_eq_false_iff_not] at *;omega
theorem pc(x:ah):(dk x).length=8:=rfl
theorem Pd(x:ah):∀ v∈dk x,v.oneCell'=true:=by
 intro v ae;simp only[dk,zx7,List.not_mem_nil,or_false] at ae;rcases ae with rfl | rfl | rfl | rfl | rfl | rfl | rfl | rfl <;>rfl
theorem IC{w:World}{D:aO}{E:aU} : ∀ {xs:List ah} {cs:List Value},aK w D E (xs.map enc) cs→cs=xs.flatMap dk∧∀ x∈xs,ai w D E (enc x) (dk x)
 | [],cs,h=>by
  simp only[zy9,aK] at h;subst h;exact ⟨rfl,by simp⟩
 |x::xs,cs,h=>by
  simp only[zz9,aK] at h;obtain ⟨c1,c2,rfl,h1,h2⟩:=h;obtain ⟨rfl,h3⟩:=IC h2;have e:=Iz h1;subst e;refine ⟨rfl,fun y hy =>?_⟩;rcases zx7.1 hy with rfl | hy
  ·exact h1
  ·exact h3 y hy
theorem IB{w:World}{D:aO}{E:aU} : ∀ {xs:List ah},(∀ x∈xs,ai w D E (enc x) (dk x))→aK w D E (xs.map enc) (xs.flatMap dk)
 | [],_=>rfl
 |x::xs,h=>by
  simp only[zz9,aK,List.flatMap_cons];exact ⟨_,_,rfl,h x (by simp),IB fun y hy=>h y (by simp[hy])⟩
theorem Ey:∀ (l:List ah) (i j:Nat) (hi:i<l.length),j<8→(l.flatMap dk)[i*8+j]?=(dk l[i])[j]?
 |x::l,0,j,_,hj=>by
  rw[List.flatMap_cons,zx0 (by rw[pc];omega)];simp
 |x::l,i+1,j,hi,hj=>by
  rw[List.flatMap_cons,zv7 (by rw[pc];omega),pc,show (i+1)*8+j-8=i*8+j from by omega];rw[Ey l i j (by simpa using hi) hj];simp
theorem mq(l:List ah):(l.flatMap dk).length=l.length*8:=by
 induction l with
 |nil=>rfl
 |cons x l ih=>rw[List.flatMap_cons,zz1,ih,pc,zx5];omega
theorem Ew(l:List ah):(flatK dk 8 l.toArray).toList=l.flatMap dk:=by
 apply List.ext_getElem?;intro t;by_cases ht:t<l.length*8
 ·have h1:=get_flatK dk 8 l.toArray t (by simpa using ht);have hi:t / 8<l.length:=by omega
  have h2:=Ey l (t / 8) (t%8) hi (Nat.mod_lt _ (by decide));rw[show t / 8*8+t%8=t from by omega] at h2;have h3:t<(flatK dk 8 l.toArray).size:=by simpa using ht
  rw[h2,zw0,zu2 h3];rw[getElem!_pos _ t h3] at h1;rw[h1,getElem!_pos l.toArray (t / 8) (by simpa using hi),getElem!_pos _ (t%8) (by rw[pc];omega),zz5 (by rw[pc];omega)];rfl
 ·rw[zw0,Array.getElem?_eq_none (by simp;omega),List.getElem?_eq_none (by rw[mq];omega)]
theorem af6{xs ys q:List ah}(hl:ys.length=xs.length){cs:Array Value}(hc:cs.toList=(xs++q).flatMap dk):(Sort.putCells id 0 (flatK dk 8 ys.toArray) cs).toList=(ys++q).flatMap dk:=by
 apply List.ext_getElem?;intro k;have hcl:=congrArg List.length hc;rw[mq,zz1,zw5] at hcl;have h1:cs[k]?=((xs++q).flatMap dk)[k]?:=by rw[←hc,zw0]
 rw[zw0,Sort.putCells,Array.getElem?_mapIdx,h1];simp only[size_flatK,List.size_toArray,zv6,true_and,zz4,Nat.sub_zero,List.flatMap_append];by_cases hk:k<ys.length*8
 ·simp only[hk,if_true];rw[zx0 (by rw[mq];omega),zx0 (by rw[mq];omega),zz5 (by rw[mq];omega)];have h2:(flatK dk 8 ys.toArray)[k]?=(ys.flatMap dk)[k]?:=by rw[←Ew,zw0]
  have h3:k<(flatK dk 8 ys.toArray).size:=by simpa using hk
  rw[←h2,zu2 h3];simp only[zy5,id];rw[getElem!_pos _ k h3]
 ·simp only[hk,if_false];rw[zv7 (by rw[mq];omega),zv7 (by rw[mq];omega),mq,mq,hl];cases ((q.flatMap dk)[k-xs.length*8]?) <;>rfl
def kz(n:Nat)(ws:List ah):List (Nat×al):=[(n,.box (.agg (ws.map enc)))]
def Ax(l q:List ah):cv:=fun r os'=>r=.tuple []∧os'=kz 1000000 (cC l++q)
theorem agi(x:ah):(enc x:I).flat=true:=rfl
theorem A9(l q:List ah)(hne:l≠[])(hn:l.length≤1000)(hp:l.Pairwise (fun x y=>¬ (x.aI=y.aI∧x.no=y.no))):ep Tryz.prog 141 [.view 1000000 [] 8 0 l.length,.func 142 []] (kz 1000000 (l++q)) (Ax l q):=by
 refine ⟨MF,fun w D E vs _ hD hO ae =>?_⟩;have ho:=hO.bG 1000000;simp only[kz,aq,if_true] at ho;obtain ⟨b,cs,T,aE,-,hb0,hr,hnD⟩:=ho;have hne2:l++q≠[]:=by intro h;exact hne (List.append_eq_nil_iff.1 h).1
 have hb:=hb0.plain (EA hne2 rfl);have hEn:∀ n,n≠1000000→E n=none:=fun n hn=>by
  have:=hO.bG n;simpa only[kz,aq,if_neg hn,dc] using this
 simp only[aD] at ae;obtain ⟨v,rest,cs',rfl,hpk,hr',f,rest2,cs2,rfl,hp2,hr2,rfl⟩:=ae;obtain ⟨b',aN,off,l',hE',hoff,hpart,rfl,hl1,hl2,hl3⟩:=hr';rw[aE] at hE';simp only[v6,bL.aG.injEq] at hE';obtain ⟨rfl,rfl⟩:=hE';have hoff':off=0:=by
  have:(some 0:Option Nat)=some off:=by rw[←hoff];rfl
  injection this with this;exact this.symm
 subst hoff';have hp':v=.slice (some ⟨b,0,none⟩) l.length (l'.length-0):=by
  have:[Value.slice (some ⟨b,0+0*8,none⟩) l.length (l'.length-0)]=[v]:=hpk;simpa using this.symm
 subst hp';have hf:f=.func (.func 142) #[] #[]:=by
  simp only[ai] at hr2;obtain ⟨vs2,e2,e3⟩:=hr2;have h3:cs2=[f]:=hp2;rw[e2] at h3;simp only[aD] at e3;subst e3;have:=h3.symm;simp only[zx6,and_true] at this;rw[this];rfl
 subst hf;obtain ⟨hcs,hrg⟩:=IC (xs:=l++q) hr;have hbs:b<w.heap.size:=hb0.lt;have hfl:=Ew l;have hH:HoldsK dk 8 w b 0 l.toArray:=fun j hj=>by
  have hj':j<l.length*8:=by simpa using hj
  constructor
  ·simp only[World.cell?,hb,Option.isSome_none,zy0,if_false,zz4];rw[←zw0,hcs,List.flatMap_append,zx0 (by rw[mq];exact hj'),←hfl,zw0,zu2 hj,getElem!_pos _ j hj];rfl
  ·simp[World.frozen?,hb]
 have eg:∀ args w,(callFunc 142 args).run Tryz.prog w=.ok (.enter 142 args) w:=enters_of Tryz.func142 (by kernel_rfl) rfl;refine (AnyQ.slices_SortFunc (P:=Tryz.prog) (ρ:=y9) FN 8 Tryz.isAgg50 Tryz.sizeOf50 dk pc Pd (fun x y=>iP x.bw y.bw) ahr 142 #[] b 0 (l'.length-0) l.toArray w eg (Pt b 0 _ w) hH hbs (by simp;omega)).mono ?_;rintro e w' ⟨rfl,d',n,os,hperm,hsort,rfl⟩;obtain ⟨s,rfl⟩:∃ s:List ah,d'=s.toArray:=⟨d'.toList,by simp⟩
 have hlen:s.length=l.length:=by simpa using hperm.1
 have hps:s.Perm l:=by
  have:=hperm.2.2;simp only[List.size_toArray,Array.toList_extract,List.extract_eq_take_drop,List.drop_zero,Nat.sub_zero] at this;rw[zv8 (by omega),zv8 (by omega)] at this;exact this
 have hss:s.Pairwise (fun x y=>dY x y=true):=by
  rw[List.pairwise_iff_getElem];intro i j hi hj hij;have h1:=hsort i j (zv6 _) hij (by simp;omega);rw[vF,getElem!_pos _ j (by simpa using hj),getElem!_pos _ i (by simpa using hi)] at h1;have h2:=List.pairwise_iff_getElem.1 ((List.Perm.pairwise_iff (R:=fun x y:ah=>¬ (x.aI=y.aI∧x.no=y.no)) (fun h k=>h ⟨k.1.symm,k.2.symm⟩) hps).2 hp) i j hi hj hij;simp only[List.getElem_toArray] at h1;simp only[dY,decide_eq_false_iff_not,decide_eq_true_eq] at h1 ⊢;omega
 have hst:=ahd hp hps hss;subst hst;have hsz8:(flatK dk 8 (cC l).toArray).size=(cC l).length*8:=by simp
 have hb1:(putRowK dk 8 (Sort.ahead w n) b 0 (cC l).toArray).heap[b]?=some (.cells (putCells id 0 (flatK dk 8 (cC l).toArray) cs) T (0,0)):=by
  simp[putRowK,putRow,mapBlock,Sort.ahead,Array.getElem?_modify,hb,onCells]
 have hother:∀ k,k<w.heap.size→k≠b→(sortWorldK dk 8 w b 0 n (cC l).toArray os).heap[k]?=w.heap[k]?:=fun k hk hkb=>by
  rw[sortWorldK,heap_grow_old _ _ (by simpa[putRowK,putRow,mapBlock,Sort.ahead] using hk)];simp[putRowK,putRow,mapBlock,Sort.ahead,Array.getElem?_modify,Ne.symm hkb]
 have hb2:(sortWorldK dk 8 w b 0 n (cC l).toArray os).heap[b]?=some (.cells (putCells id 0 (flatK dk 8 (cC l).toArray) cs) T (0,0)):=by
  rw[sortWorldK,heap_grow_old _ _ (by simpa[putRowK,putRow,mapBlock,Sort.ahead] using hbs)];exact hb1
 have hsz:w.heap.size≤(sortWorldK dk 8 w b 0 n (cC l).toArray os).heap.size:=by simp[sortWorldK,putRowK,putRow,mapBlock,Sort.ahead]
 have hw1:(sortWorldK dk 8 w b 0 n (cC l).toArray os).os=w.os:=rfl;have hw2:(sortWorldK dk 8 w b 0 n (cC l).toArray os).tape=w.tape:=rfl;have hw3:(sortWorldK dk 8 w b 0 n (cC l).toArray os).output=w.output:=rfl;revert hother hb2 hsz hw1 hw2 hw3;generalize sortWorldK dk 8 w b 0 n (cC l).toArray os=w2;intro hother hb2 hsz hw1 hw2 hw3;have hmem:∀ x∈cC l++q,ai w2 D E (enc x) (dk x):=fun x hx=>ai.flat _ _ (agi x) (hrg x (by
  rcases zy6.1 hx with h | h
  ·exact List.mem_append_left _ (hps.mem_iff.1 h)
  ·exact List.mem_append_right _ h))
 refine ⟨.tuple #[],D,E,.tuple [],kz 1000000 (cC l++q),rfl,⟨rfl,rfl⟩,⟨[],rfl,rfl⟩,⟨fun m =>?_,hO.cV⟩,⟨hw1,hw2,hw3,hsz,fun k hk =>?_⟩,fun _ _ h=>h,fun b0 o h=>zu5 (hD b0 o h) hsz,fun _ _ h _ _=>h,fun m e h _=>⟨e,h,bL.eE.refl e⟩,⟨fun b0 o u hd hc =>?_,fun b0 es ck hd hc =>?_⟩⟩
 ·by_cases hm:m=1000000
  ·subst hm;simp only[kz,aq,if_true];refine ⟨b,_,T,?_,.inr ⟨1000000,_,aE,rfl⟩,.Gr hb2,?_,hnD⟩
   ·rw[aE]
    congr 2
    show cg.dP (I.cB _)=cg.dP (I.cB _)
    rw[Ar (xs:=l++q) (ys:=cC l++q) (by rw[zz1,zz1,hlen])]
   ·show aK w2 D E _ _
    rw[af6 hlen hcs];exact IB hmem
  ·simp only[kz,aq,if_neg hm,dc];exact hEn m hm
 ·by_cases hk2:k<w.heap.size
  ·exact hother k hk2 fun e=>hk (.inr ⟨1000000,_,aE,by rw[e];rfl⟩)
  ·exact absurd (.inl (Nat.le_of_not_lt hk2)) hk
 ·have hne:b0≠b:=fun e=>hnD o (e▸hd);simp only[World.cell?,hother b0 (hD b0 o hd) hne] at hc ⊢;exact hc
 ·have hne:b0≠b:=fun e=>hnD 0 (e▸hd);rw[hother b0 (hD b0 0 hd) hne];exact hc
end Go.Proofs.YtoffnnjbplgnaaaGreatDoor
namespace Go.Proofs.YtoffnnjbplgnaaaGreatDoor
open Go Go.Abs
open Go.Abs.Enc (enc)
theorem agT(x r:ah):jc x r=decide (r.bw=x.bw):=by
 simp only[jc,ah.bw,Item.mk.injEq]
theorem G9(r:ah):∀ l:List ah,∃ n,n≤l.length∧gV l r=l.take n++r::l.drop n∧(∀ i (h:i<l.length),i<n→dY l[i] r=true)∧∀ h:n<l.length,dY l[n] r=false
 | []=>⟨0,by simp,by simp[gV],by simp,by simp⟩
 |q::l=>by
  cases h:dY q r
  ·refine ⟨0,by simp,by simp[gV,h],fun i _ hi=>by omega,fun _=>by simpa using h⟩
  ·obtain ⟨n,h1,h2,h3,h4⟩:=G9 r l;refine ⟨n+1,by simpa using h1,?_,fun i hi hn =>?_,fun hn =>?_⟩
   ·simp only[gV,List.takeWhile_cons,List.dropWhile_cons,h,if_true,zz8,List.take_succ_cons,List.drop_succ_cons] at h2 ⊢;rw[h2]
   ·match i with
    |0=>exact h
    |i+1=>exact h3 i (by simpa using hi) (by omega)
   ·exact h4 (by simpa using hn)
theorem ahc(l:List ah)(r:ah):cC (l++[r])=gV (cC l) r:=by simp[cC]
theorem af2(l:List ah)(r:ah):(gV l r).length=l.length+1:=by
 have:=(zS l r).length_eq;simpa using this
theorem tI:∀ (l:List ah),(cC l).length=l.length:=by
 have:∀ (l out:List ah),(l.foldl gV out).length=out.length+l.length:=by
  intro l
  induction l with
  |nil=>simp
  |cons r l ih=>intro out;rw[List.foldl_cons,ih,af2,zx5];omega
 intro l;rw[cC,this];simp
def xz(l:List ah):Bool:=decide (l.length≤60)&&fW (fun out r=>bj r&&nS out r) [] l
theorem L0(l:List ah):kM l=xz l:=by
 rw[kM,xz,Bool.and_comm]
 congr 1
 rw[Bool.eq_iff_iff,r6,r6];constructor
 ·rintro ⟨h1,h2⟩;exact ⟨h1,by rw[←BW fun r hr=>zB (h1 r hr)];exact h2⟩
 ·rintro ⟨h1,h2⟩;exact ⟨h1,by rw[BW fun r hr=>zB (h1 r hr)];exact h2⟩
theorem Bt(l:List ah)(hl:l.length≤900)(hp:l.Pairwise (fun x y=>¬ (x.aI=y.aI∧x.no=y.no))):aP Tryz.prog 95 [enc l] (enc (⟨cC l⟩:iL)):=by
 by_cases hn0:l=[]
 ·subst hn0;exact xe
 refine aP.bM Tryz.func95 xG xJ xR (t7 rfl) (fun hwf W0 bI E1 =>?_);simp only[uA,wi,bC];clear hwf;have hsl:(cC l).length=l.length:=(tJ hp).1.length_eq;have R:=y6 @im aw
 repeat' ((first |refine ab.aA (by decide +kernel) rfl fun K hK =>?_|(refine .av [0,2,3] hK ?_;clear hK K)|(with_reducible refine .done (hK _ ?_);clear hK K)|refine ab.of rfl ?_|(with_reducible refine ar.az (fun h =>?_) (fun h =>?_) <;>try simp only[h])) <;>try simp only[aB,R,simprocAttr])
 all_goals clear R
 refine .bG false [(7,64)] [] [enc l] (qt l) rfl (ua l (by omega)) fj.nil ⟨.inl ⟨(gz _ _).symm,bg _ _,dH _⟩,trivial⟩ ?_ ?_
 ·rintro x os' (⟨h,_⟩ | ⟨_,k,rfl,rfl⟩)
  ·exact absurd h hn0
  ·exact dG.qV (fun p=>fR p _) (fun h=>by cases h) rfl (fun h=>by cases h) rfl (by decide)
 rintro x os' (⟨h,_⟩ | ⟨hn,k,rfl,rfl⟩)
 ·exact absurd h hn0
 try simp only[fJ,iH,jt,zz8,zy3,aZ,simprocAttr]
 refine .done (hK _ ?_);clear hK K;refine .ew (by decide +kernel) fun K hK =>?_;simp only[yL,aZ,simprocAttr];refine .bG false [(1000000,64)] (kz 1000000 (l++List.replicate k cN)) [.view 1000000 [] 8 0 l.length,.func 142 []] (Ax l (List.replicate k cN)) rfl (A9 l _ hn0 (by omega) hp) ⟨?_,?_⟩ ⟨.inl ⟨?_,?_,rfl⟩,.inl ⟨rfl,rfl,rfl⟩,trivial⟩ ?_ ?_
 ·intro n x h;simp only[kz,aq] at h;split at h
  ·rename_i hn';subst hn';simp only[v6] at h;subst h;exact ⟨by simp only[iH,jt,aZ,simprocAttr],fR _ _,rfl⟩
  ·cases h
 ·intro a b ha hb _;rw[Go.Abs.ee.1 ha,Go.Abs.ee.1 hb]
 ·try simp only[iH,simprocAttr]
 ·exact Go.Abs.ee.2 rfl
 ·rintro x os' ⟨rfl,rfl⟩;exact dG.mE (fun p=>fR p _) (fun h=>by cases h) rfl (fun h=>by cases h)
 rintro x os' ⟨rfl,rfl⟩
 try simp only[kz,iH,jt,zz8,zy3,aZ,simprocAttr]
 refine .done (hK _ ?_);clear hK K;have hf:jB 8 0 l.length (some ((cC l++List.replicate k cN).map enc))=some (enc (cC l)):=by
  rw[oj (α:=ah) (sz:=8) rfl,←hsl,AK]
 have R:=y6 @hf (y6 @im aw)
 repeat' ((first |refine ab.aA (by decide +kernel) rfl fun K hK =>?_|(refine .av [0,2,3] hK ?_;clear hK K)|(with_reducible refine .done (hK _ ?_);clear hK K)|refine ab.of rfl ?_|(with_reducible refine ar.az (fun h =>?_) (fun h =>?_) <;>try simp only[h])) <;>try simp only[aB,R,simprocAttr])
 all_goals clear R
 all_goals rfl
def fN(r:b7)(l:List ah)(x:ah):b7×List ah×Int :=
 if ed r l=false then (fU,[],84) else if (lj bj l x 80 82 83 2).2≠0 then (fU,[],(lj bj l x 80 82 83 2).2)
 else if (lj bj l x 80 82 83 2).1=false then (r,l,0) else (⟨⟨r.cd.bD,r.cd.cT++db (dK 1 l) x⟩,r.copy⟩,l++[x],0)
def rM(l:List ah):List UInt8×Bool:=if l.all bj then (bW 1 l,true) else ([],false)
theorem ah0(l:List ah)(hl:l.length≤4000000000000):aP Tryz.prog 27 [enc l] (.tuple [enc (aH.of (rM l).1),enc (rM l).2]):=by
 refine aP.bM Tryz.func27 M3 OF Qh (t7 rfl) (fun hwf W0 bI E1 =>?_);simp only[CL,HV,bC];clear hwf;have R:=y6 @bA aw
 repeat' ((first |refine ab.aA (by decide +kernel) rfl fun K hK =>?_|(refine .av [0,2,3,4,5,6,7,8,9,13,27] hK ?_;clear hK K)|(with_reducible refine .done (hK _ ?_);clear hK K)|refine ab.of rfl ?_|(with_reducible refine ar.az (fun h =>?_) (fun h =>?_) <;>try simp only[h])) <;>try simp only[aB,R,simprocAttr])
 all_goals clear R
 refine ab.loop (fun i:Nat=>aC [(0,enc l),(4,enc (aH.of (bW 1 (l.take i)))),(5,.int .i64 (dK 1 (l.take i))),(6,.int .i64 i)] []) (fun i=>i≤l.length∧(∀ r∈l.take i,bj r=true)) (fun i=>l.length-i) 0 ⟨zv6 _,by simp⟩ ?_ ?_
 ·refine bt.cF ?_ ?_ ?_ ?_ <;>simp[bT,bZ,bU,bB,bJ,I.only,bg]
  all_goals exact ⟨rfl,rfl⟩
 rintro i ⟨hi,hk⟩;by_cases hlt:i<l.length
 ·have hlc:=ga hlt;have he:=fun A=>gB (A:=A) 8 hlt rfl;have hw:=eO (i:=i) (by omega);have hnx:=zC hlt hk;have hsn:=rO (l.take i) l[i] 1;rw[←lX hlt] at hsn;have hst:=rK (l.take i);have hin:dm 0 1000002 (dK 1 (l.take i))=true:=jE.2 (by omega);have hln:=nT (l.take i) (s:=1) (by omega) hk;have hli:(l.take i).length=i:=by rw[zz6];omega
  have hno:bj l[i]=false→rM l=([],false):=fun h=>by
   rw[rM,if_neg];intro h2;rw[zx1] at h2;rw[h2 _ (zv4 hlt)] at h;cases h
  have f29:=Bg (dK 1 (l.take i)) l[i];generalize l[i]=r at *;cases q:bj r
  ·rw[FY hin q] at f29;rw[hno q];have R:=y6 @hlc (y6 @he (y6 @hw (y6 @bA aw)))
   repeat' ((first |refine ab.aA (by decide +kernel) rfl fun K hK =>?_|refine .lead _ (f29) ?_|(refine .av [0,2,3,4,5,6,7,8,9,13,27] hK ?_;clear hK K)|(with_reducible refine .done (hK _ ?_);clear hK K)|refine ab.of rfl ?_|(with_reducible refine ar.az (fun h =>?_) (fun h =>?_) <;>try simp only[h])) <;>try simp only[aB,R,simprocAttr])
   all_goals clear R
   all_goals rfl
  ·rw[FZ hin q] at f29;have hll:=sW hst q;clear hno;generalize dK 1 (l.take i)=z at *;generalize bW 1 (l.take i)=u at *;have ha:=fK u (db z r) (by omega);have R:=y6 @hlc (y6 @he (y6 @hw (y6 @ha (y6 @bA aw))))
   repeat' ((first |refine ab.aA (by decide +kernel) rfl fun K hK =>?_|refine .lead _ (f29) ?_|(refine .av [0,2,3,4,5,6,7,8,9,13,27] hK ?_;clear hK K)|(with_reducible refine .done (hK _ ?_);clear hK K)|refine ab.of rfl ?_|(with_reducible refine ar.az (fun h =>?_) (fun h =>?_) <;>try simp only[h])) <;>try simp only[aB,R,simprocAttr])
   all_goals clear R
   refine ⟨i+1,⟨by omega,hnx q⟩,by omega,?_⟩;rw[hsn.1,hsn.2];clear hsn hnx;refine bt.cF ?_ ?_ ?_ ?_ <;>simp[bT,bZ,bU,bB,bJ,I.only,bg]
   all_goals rfl
 ·have hlc:=gM hlt;have hge:i=l.length:=by omega
  subst hge;rw[zv5] at hk ⊢;have:rM l=(bW 1 l,true):=by rw[rM,if_pos (zx1.2 hk)]
  rw[this];have R:=y6 @hlc (y6 @bA aw)
  repeat' ((first |refine ab.aA (by decide +kernel) rfl fun K hK =>?_|(refine .av [0,2,3,4,5,6,7,8,9,13,27] hK ?_;clear hK K)|(with_reducible refine .done (hK _ ?_);clear hK K)|refine ab.of rfl ?_|(with_reducible refine ar.az (fun h =>?_) (fun h =>?_) <;>try simp only[h])) <;>try simp only[aB,R,simprocAttr])
  all_goals clear R
  all_goals rfl
def sJ(l:List ah):bd 6 Int×Int:=if kM l then (cX l,0) else (cX [],81)
theorem Bi(l:List ah)(hl:l.length≤4000000000000):aP Tryz.prog 47 [enc (⟨l⟩:iL)] (.tuple [enc (sJ l).1,enc (sJ l).2]):=by
 refine aP.bM Tryz.func47 Nb ON Qp (t7 rfl) (fun hwf W0 bI E1 =>?_);simp only[CT,H5,bC];clear hwf;have f:=Br l hl;simp only[sJ];cases q:kM l
 ·rw[q] at f;simp only[zy0,if_false];have R:=y6 @x8 (y6 @oO aw)
  repeat' ((first |refine ab.aA (by decide +kernel) rfl fun K hK =>?_|refine .flat _ (f) rfl ?_|(refine .av [0,1,2,3,6] hK ?_;clear hK K)|(with_reducible refine .done (hK _ ?_);clear hK K)|refine ab.of rfl ?_|(with_reducible refine ar.az (fun h =>?_) (fun h =>?_) <;>try simp only[h])) <;>try simp only[aB,R,simprocAttr])
  all_goals clear R
  all_goals rfl
 ·rw[q] at f;have hb:=BX q;have f100:=qd l hl (fun r hr=>lM (hb.ok r hr));simp only[if_true];have R:=y6 @x8 (y6 @oO aw)
  repeat' ((first |refine ab.aA (by decide +kernel) rfl fun K hK =>?_|refine .flat _ (f) rfl ?_|refine .lead _ (f100) ?_|(refine .av [0,1,2,3,6] hK ?_;clear hK K)|(with_reducible refine .done (hK _ ?_);clear hK K)|refine ab.of rfl ?_|(with_reducible refine ar.az (fun h =>?_) (fun h =>?_) <;>try simp only[h])) <;>try simp only[aB,R,simprocAttr])
  all_goals clear R
  all_goals rfl
theorem Jr{l s:List ah}(hw:cS [] l=true)(p:s.Perm l)(hs:mV s):kM s=true:=by
 have hW:=(mQ l []).1 hw;obtain ⟨h1,h2⟩:=ahe hW p hs;rw[L0,xz,zz0,decide_eq_true_eq,r6];exact ⟨h2,fun r hr=>mR hw r (p.mem_iff.1 hr),h1⟩
theorem Fe(s:List ah)(x:ah):jD s x.bw=s.any (jc x):=by
 rw[jD];congr 1;funext r;rw[agT]
theorem KW{l s:List ah}(hw:cS [] l=true)(p:s.Perm l)(hs:mV s){x:ah}(hx:x∉l):(iN s x).2=(oa bj l s x 80 82 83 2).2∧((iN s x).2=0→(oa bj l s x 80 82 83 2).1=true):=by
 have hb:=Jr hw p hs;simp only[iN,oa,hb,Bool.true_eq_false,if_false,if_neg hx,Fe];cases q1:bj x
 ·simp
 simp only[Bool.true_eq_false,if_false];cases q2:s.any (jc x)
 ·simp only[zy0,if_false];by_cases q3:(bR s x.aI:Int)<x.no
  ·simp[q3]
  ·by_cases q4:s.length=60
   ·simp[q3,q4]
   ·simp[q3,q4]
 ·have hne:s.getD (fT s x.bw) default≠x:=fun e=>by
   have hh:jD s x.bw=true:=by rw[Fe,q2]
   obtain ⟨h1,_⟩:=(yR hs x.bw).1 hh;have:s.getD (fT s x.bw) default∈s:=by
    simp only[zz2,zz5 h1,Option.getD_some];exact zv4 h1
   rw[e] at this;exact hx (p.mem_iff.1 this)
  simp only[if_true,if_neg hne];simp
theorem K0{l s:List ah}{x:ah}(hx:x∈l):oa bj l s x 80 82 83 2=(false,0):=by rw[oa,if_pos hx]
theorem ahM(r:b7){l s:List ah}(p:ed r l=true→s.Perm l)(hs:ed r l=true→mV s)(x:ah):lg r l s x=fN r l x:=by
 rw[lg,fN];cases q:ed r l
 ·rw[if_pos rfl,if_pos rfl]
 rw[if_neg (by decide),if_neg (by decide)];have hw:cS [] l=true:=by simp only[ed,zz0] at q;exact q.1.1
 have hp:=p q;have hss:=hs q;have he:=K1 ((mQ l []).1 hw) hp x 80 82 83 2;rw[←he,mP];by_cases hx:x∈l
 ·rw[if_pos hx,K0 hx,if_neg (by simp),if_pos rfl]
 ·rw[if_neg hx];obtain ⟨h1,h2⟩:=KW hw hp hss hx;rw[h1];by_cases h0:(oa bj l s x 80 82 83 2).2=0
  ·rw[if_neg (by simp[h0]),if_neg (by simp[h0]),if_neg (by rw[h2 (by rw[h1,h0])];decide)]
  ·rw[if_pos h0,if_pos h0]
theorem af4(l:List ah)(x:ah):gV l x=gO l (fT l x.bw) x:=by
 obtain ⟨n,h1,h2,h3,h4⟩:=G9 x l;have:fT l x.bw=n:=zO h1 (fun k hk hkn=>h3 k hk hkn) fun h=>h4 h;rw[h2,this,gO]
theorem rS{l:List ah}(h:cS [] l=true):l.Pairwise (fun x y=>¬ (x.aI=y.aI∧x.no=y.no)):=by
 have:=cW.inj ir.nil ((mQ l []).1 h) List.Pairwise.nil;simpa using this
def tK(l:List ah):List ah×Int:=if cS [] l=true then (cC l,0) else ([],81)
theorem Bh(l:List ah)(hl:l.length≤4000000000000):aP Tryz.prog 41 [enc l] (.tuple [enc (⟨(tK l).1⟩:iL),enc (tK l).2]):=by
 refine aP.bM Tryz.func41 M9 OL Qn (t7 rfl) (fun hwf W0 bI E1 =>?_);simp only[CR,H3,bC];clear hwf;have f:=Bu l hl;rw[tK];cases q:cS [] l
 ·rw[q] at f;have R:=y6 @im aw
  repeat' ((first |refine ab.aA (by decide +kernel) rfl fun K hK =>?_|refine .flat _ (f) rfl ?_|(refine .av [0,2,3,6] hK ?_;clear hK K)|(with_reducible refine .done (hK _ ?_);clear hK K)|refine ab.of rfl ?_|(with_reducible refine ar.az (fun h =>?_) (fun h =>?_) <;>try simp only[h])) <;>try simp only[aB,R,simprocAttr])
  all_goals clear R
  all_goals rfl
 ·rw[q] at f;have f95:=Bt l (by have:=kE q;omega) (rS q);simp only[if_true];generalize cC l=s at *;have R:=y6 @im (y6 @Az aw)
  repeat' ((first |refine ab.aA (by decide +kernel) rfl fun K hK =>?_|refine .flat _ (f) rfl ?_|refine .lead _ (f95) ?_|(refine .av [0,2,3,6] hK ?_;clear hK K)|(with_reducible refine .done (hK _ ?_);clear hK K)|refine ab.of rfl ?_|(with_reducible refine ar.az (fun h =>?_) (fun h =>?_) <;>try simp only[h])) <;>try simp only[aB,R,simprocAttr])
  all_goals clear R
  all_goals rfl
end Go.Proofs.YtoffnnjbplgnaaaGreatDoor
