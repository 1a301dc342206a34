/-
  A part of the proof that the law RollStorms returns true for every input; five variables of Go's library start as the text lays them (the card ties them); conditions: none beyond the statement's own. (part 5 of 6)
-/
import Derived.ChangeArms
import Derived.Test.YtoffnnjbplgnaaaGreatDoorRows
import Derived.Test.YtoffnnjbplgnaaaGreatDoorCards
import Derived.Test.YtoffnnjbplgnaaaGreatDoorTie
import Derived.LaidMore
import Derived.MakeChecks
import Derived.Lib.LaidTab
import Derived.Lib.LaidU8
import Derived.HandedShaped
import Derived.Shelf.Vars
import Derived.Shelf.SlSortCmp.WholeK
import Derived.Shelf.SlSortCmp.NoneTotal
import Derived.Shelf.Small.Wraps
import Derived.WalkKit
import Derived.Lib.RowBridge
import Derived.Lib.SortBridge
import Derived.Test.YtoffnnjbplgnaaaGreatDoorNbd
set_option linter.unusedSimpArgs false
set_option linter.unusedVariables false
set_option maxHeartbeats 16000000
set_option maxRecDepth 100000
namespace Go.Proofs.YtoffnnjbplgnaaaGreatDoor
open Go Go.Abs
open Go.Abs.Enc (enc)
theorem uq{c:UInt8} : ∀ {l:List UInt8},cG c l=none→∀ b∈l,b≠c
 | [],_=>by simp
 |b::l,h=>by
  rw[cG] at h;by_cases e:b=c
  ·rw[if_pos e] at h;cases h
  ·rw[if_neg e] at h;cases h2:cG c l with
   |some p=>rw[h2] at h;cases h
   |none =>
    intro x hx;rcases zx4.1 hx with rfl | hx
    ·exact e
    ·exact uq h2 x hx
theorem nQ{c:UInt8} : ∀ {l w v:List UInt8},cG c l=some (w,v)→l=w++c::v∧∀ b∈w,b≠c
 | [],_,_,h=>by simp[cG] at h
 |b::l,w,v,h=>by
  rw[cG] at h;by_cases e:b=c
  ·rw[if_pos e] at h;cases h;exact ⟨by rw[e];rfl,by simp⟩
  ·rw[if_neg e] at h;cases h2:cG c l with
   |none=>rw[h2] at h;cases h
   |some p =>
    obtain ⟨w2,v2⟩:=p;rw[h2,Z9] at h;cases h;obtain ⟨h3,h4⟩:=nQ h2;refine ⟨by rw[h3];rfl,fun x hx =>?_⟩;rcases zx4.1 hx with rfl | hx
    ·exact e
    ·exact h4 x hx
theorem sa{u:List UInt8}(h:cG 10 u=none):dm u=[]:=vl (uq h)
theorem pU{u w v:List UInt8}(h:cG 10 u=some (w,v)):dm u=(w++[10])::dm v:=by
 obtain ⟨rfl,h2⟩:=nQ h;exact V1 v h2
def eh:Nat→List UInt8→List UInt8
 |0,t=>t
 |k+1,t=>match cG 10 t with
  |none=>t
  |some p=>eh k p.2
theorem wa:∀ {k:Nat} {t w v:List UInt8},cG 10 (eh k t)=some (w,v)→eh (k+1) t=v
 |0,t,w,v,h=>by rw[eh] at h;rw[eh,h];rfl
 |k+1,t,w,v,h=>by
  rw[eh] at h ⊢;cases h2:cG 10 t with
  |none=>rw[h2] at h;simp only at h;rw[h2] at h;cases h
  |some p=>rw[h2] at h;exact wa h
theorem oG:∀ {k:Nat} {t:List UInt8},k≤(dm t).length→dm (eh k t)=(dm t).drop k
 |0,t,_=>rfl
 |k+1,t,h=>by
  rw[eh];cases h2:cG 10 t with
  |none=>rw[sa h2] at h;simp at h
  |some p =>
   obtain ⟨w,v⟩:=p;rw[pU h2] at h ⊢;simp only[zz5] at h;exact oG (k:=k) (t:=v) (by omega)
theorem Dv:∀ (k:Nat) (t:List UInt8),(eh k t).length≤t.length
 |0,_=>Z3 _
 |k+1,t=>by
  rw[eh];cases h2:cG 10 t with
  |none=>exact Z3 _
  |some p =>
   have:=ru h2;have:=Dv k p.2;simp only;omega
def dy(u:List UInt8)(out:List aj)(s:Int)(z:Nat):List (Nat×ai):=[(1000001,.box (enc (ak.of u))),(1000004,.box (.own 1000080 out.length)),(1000080,.bF 50 8 (out.map enc)),(1000005,.box (.int .i64 s)),(1000006,.box (.int .i64 (z:Int)))]
theorem nl(u:List UInt8)(out:List aj)(s:Int)(z:Nat)(u':List UInt8)(out':List aj)(s':Int)(z':Nat):fb (dy u out s z) (dy u' out' s' z'):=by
 refine ⟨fun n=>by simp only[dy,aH,aJ];(repeat' split) <;>rfl,fun n x h =>?_,fun n h =>?_⟩
 ·simp only[dy,aJ] at h
  repeat' split at h
  all_goals first | (cases h;done) | (simp only[v6] at h;subst h;exact ⟨by simp[dy,aH,aJ,ai.only,bK,I.only,mM],rfl⟩)
 ·simp only[dy,aH,aJ] at h
  repeat' split at h
  all_goals first | omega | (simp at h;done)
section
variable (t:List UInt8) (P:Nat→List aj→Int→Nat→Prop) (bl:List aj→Nat→Prop)
def rX(k:Nat)(os:List (Nat×ai)):Prop:=∃ out s z,os=dy (eh k t) out s z∧P k out s z
def rY(k:Nat)(os:List (Nat×ai)):Prop:=∃ out s z,os=dy (eh k t) out s z∧P (k+1) out s z
def pN(e:Option Nat)(os:List (Nat×ai)):Prop:=e=some 0∧∃ u out s z,os=dy u out s z∧bl out z
def oe(k:Nat):List I:=[enc (ak.of ((dm t).getD k []))]
end
def DO(o:Obj)(v:Value)(t:List UInt8)(x:Nat×List aj×Int×Nat):ab:=ay [(0,.raw v),(1,.ptr 1000001 [])] (bO o (dy (eh x.1 t) x.2.1 x.2.2.1 x.2.2.2))
theorem AK{o:Obj}{u:List UInt8}{out:List aj}{s:Int}{z:Nat}{ts:List (Nat×I)} : ∀ n x,aJ (bO o (dy u out s z)) n=some x→(ay ts (bO o (dy u out s z))).o n=some x∧x.only (aH (bO o (dy u out s z)))=true∧x.ep=true:=fun n x h =>
 ⟨h,(((nl u out s z u out s z).bO o o).ok n x h)⟩
theorem YP:∀ A n b rest (x y:List UInt8),ev A none n [] b (enc (ak.of x)) rest (some (enc (ak.of y)))=aq rest (A.aP n (.box (enc (ak.of x)))) :=
 fun A n b rest x y=>by rw[fq (s:=none) (v:=enc (ak.of x)) (old:=enc (ak.of y)) (fh _) rfl rfl,fo]
theorem V2{t:List UInt8}(ht:t.length≤281474976710656){P:Nat→List aj→Int→Nat→Prop}{bl:List aj→Nat→Prop}{out0:List aj}{s0:Int}{z0:Nat}(h0:P 0 out0 s0 z0)
  (Y:Value→List I→List (Nat×ai)→bY→Prop) (v:Value) (o:Obj) (oX:Option Nat→Obj) (hv:v.oneCell'=true)
  (hY:∀ k osb post,k<(dm t).length→rX t P k osb→(∀ r os2,(r=.bool true∧∃ osb2,os2=bO o osb2∧rY t P k osb2)∨(r=.bool false∧∃ e osb2,os2=bO (oX e) osb2∧pN bl e osb2)→post r os2)→Y v (oe t k) (bO o osb) post) :
  iY Tryz.prog 122 Y [.raw v,.ptr 1000001 []] (bO o (dy t out0 s0 z0)) (fun r os'=>r=.tuple []∧((∃ osb,os'=bO o osb∧rX t P (dm t).length osb)∨∃ e osb,os'=bO (oX e) osb∧pN bl e osb)):=by
 refine iY.bL Tryz.func122 zb Io JH (t8 rfl) (t8 rfl) (((nl t out0 s0 z0 t out0 s0 z0).bO o o).lO) (fun hwf W0 bC E1 =>?_);simp only[xY,Ce,bB,Z5];clear hwf;refine U.block (U.loop (DO o v t) (fun x=>x.1≤(dm t).length∧P x.1 x.2.1 x.2.2.1 x.2.2.2) (fun x=>(dm t).length-x.1) (0,out0,s0,z0) ⟨by simp,h0⟩ ?_ ?_)
 ·exact bw.refl _
 rintro ⟨k,out,s,z⟩ ⟨hk,hP⟩;simp only at hk hP;have hrl:=Dv k t;have hrd:=oG hk;have hrn:=fun w v=>wa (k:=k) (t:=t) (w:=w) (v:=v);obtain ⟨u,hu⟩:∃ u,u=eh k t:=⟨_,rfl⟩
 have hfin:dm u=[]→∃ osb,bO o (dy u out s z)=bO o osb∧rX t P (dm t).length osb:=fun e=>by
  rw[hu,hrd,List.drop_eq_nil_iff] at e;have:k=(dm t).length:=by omega
  exact ⟨_,rfl,out,s,z,by rw[←this,←hu],by rw[←this];exact hP⟩
 simp only[DO,←hu];rw[←hu] at hrl hrd hrn;have heldF:=fun ts=>AK (o:=o) (u:=u) (out:=out) (s:=s) (z:=z) (ts:=ts);rcases hq:decide (u=[])
 rotate_left
 ·have hu0:u=[]:=of_decide_eq_true hq;have hf:=hfin (by rw[hu0];exact vl (by simp));simp only[bO,dy] at hf heldF ⊢;have R:=y6 @iq (y6 @gO (y6 @hq (y6 @bd az)))
  repeat' ((first |(with_reducible refine .guard (fun hb =>?_) (fun hb =>?_) <;>try simp only[hb])|refine U.aE (by decide +kernel) rfl fun K hK =>?_|(refine .aA [0,1,3,5,18] hK ?_;clear hK K)|(with_reducible refine .done (hK _ ?_);clear hK K)|refine U.of rfl ?_|(with_reducible refine au.aD (fun h =>?_) (fun h =>?_) <;>try simp only[h])) <;>try simp only[aF,R,simprocAttr])
  all_goals clear R
  rw[Yl];exact ⟨_,[],heldF _,trivial,rfl,.inl hf⟩
 have hF:=EV (ak.of u) 10;rw[ak.c8] at hF;rcases nP 10 u with ⟨h1,h2⟩ | ⟨i,hi,h2,h1⟩
 ·have hf:=hfin (sa h1);obtain ⟨n,hn1⟩:∃ n:Int,n=-1:=⟨_,rfl⟩
  rw[h2,←hn1] at hF;have hneg:decide (n<0)=true:=by rw[hn1];rfl
  simp only[bO,dy] at hf heldF ⊢;have R:=y6 @iq (y6 @gO (y6 @hq (y6 @hneg (y6 @bd az))))
  repeat' ((first |(with_reducible refine .guard (fun hb =>?_) (fun hb =>?_) <;>try simp only[hb])|refine U.aE (by decide +kernel) rfl fun K hK =>?_|refine .flat _ (hF) rfl ?_|(refine .aA [0,1,3,5,18] hK ?_;clear hK K)|(with_reducible refine .done (hK _ ?_);clear hK K)|refine U.of rfl ?_|(with_reducible refine au.aD (fun h =>?_) (fun h =>?_) <;>try simp only[h])) <;>try simp only[aF,R,simprocAttr])
  all_goals clear R
  rw[jU];exact ⟨_,[],heldF _,trivial,rfl,.inl hf⟩
 rw[h2] at hF;have hlt:k<(dm t).length:=by
  have:=congrArg List.length hrd;rw[pU h1,zx5] at this;simp only[zz5] at this;omega
 have jJ:oe t k=[enc (ak.of (u.take (i+1)))]:=by
  have e:(dm t)[k]=u.take i++[10]:=by
   have h3:=hrd;rw[pU h1,List.drop_eq_getElem_cons hlt] at h3;exact (List.cons.inj h3).1.symm
  have h10:u[i]=10:=by
   obtain ⟨e1,_⟩:=nQ h1;have:=congrArg (fun l=>l[i]?) e1;simp only[zz2 hi] at this;rw[List.getElem?_append_right (by rw[Z7];omega),Z7,show i-min i u.length=0 by omega] at this;exact Option.some.inj this
  rw[oe,zz6,zz2 hlt,Option.getD_some,e,jy hi,h10]
 have hlz:decide ((i:Int)<0)=false:=decide_eq_false (by omega);have hw:=eG (i:=i) (by omega);have hsh:=nd (ak.of u) (j:=i+1) (by rw[ak.c8];omega);have hsl:=wo (ak.of u) (i:=i+1) (by rw[ak.c8];omega);rw[ak.c8] at hsh hsl;have hyy:=hY k (dy u out s z) _ hlt ⟨out,s,z,by rw[←hu],hP⟩ (fun r os2 h=>h);rw[jJ] at hyy;simp only[bO,dy] at hyy ⊢;have R:=y6 @iq (y6 @gO (y6 @hq (y6 @hlz (y6 @hw (y6 @hsh (y6 @If (y6 @bd az)))))))
 repeat' ((first |(with_reducible refine .guard (fun hb =>?_) (fun hb =>?_) <;>try simp only[hb])|refine U.aE (by decide +kernel) rfl fun K hK =>?_|refine .flat _ (hF) rfl ?_|(refine .aA [0,1,3,5,18] hK ?_;clear hK K)|(with_reducible refine .done (hK _ ?_);clear hK K)|refine U.of rfl ?_|(with_reducible refine au.aD (fun h =>?_) (fun h =>?_) <;>try simp only[h])) <;>try simp only[aF,R,simprocAttr])
 all_goals clear R
 refine aY.Zd (ow:=[]) (In:=fun os2=>∃ osb2,os2=bO o osb2∧rY t P k osb2) (Ix:=fun os2=>∃ e osb2,os2=bO (oX e) osb2∧pN bl e osb2) hyy ((nl t out0 s0 z0 u out s z).bO o o) (fun os' h =>?_) (fun os' h =>?_) (by simp[I.b9,j8]) (fun m h=>by simp[aH,aJ] at h) (fun os2 h =>?_) (fun os2 h =>?_)
 ·obtain ⟨_,rfl,out',s',z',rfl,_⟩:=h;exact (nl ..).bO _ _
 ·obtain ⟨e,_,rfl,_,u',out',s',z',rfl,_⟩:=h;exact (nl ..).bO _ _
 ·obtain ⟨_,rfl,out',s',z',rfl,hP'⟩:=h;rw[←hu]
  try simp only[bO,dy,zy7,aZ,simprocAttr]
  refine .done (hK _ ?_);clear hK K;have hn:=hrn _ _ h1;have R:=y6 @hw (y6 @hsl (y6 @hlz (y6 @YP (y6 @bd az))))
  repeat' ((first |(with_reducible refine .guard (fun hb =>?_) (fun hb =>?_) <;>try simp only[hb])|refine U.aE (by decide +kernel) rfl fun K hK =>?_|(refine .aA [0,1,3,5,18] hK ?_;clear hK K)|(with_reducible refine .done (hK _ ?_);clear hK K)|refine U.of rfl ?_|(with_reducible refine au.aD (fun h =>?_) (fun h =>?_) <;>try simp only[h])) <;>try simp only[aF,R,simprocAttr])
  all_goals clear R
  refine ⟨(k+1,out',s',z'),⟨by simp only;omega,hP'⟩,by simp only;omega,?_⟩;simp only[hn];refine bw.slots ?_ (fun n =>?_)
  ·simp[cj,cg]
  ·simp only[dT];(repeat' split) <;>simp_all
 ·obtain ⟨e,_,rfl,he,u',out',s',z',rfl,hF'⟩:=h
  try simp only[bO,dy,zy7,aZ,simprocAttr]
  refine .done (hK _ ?_);clear hK K;have R:=y6 @bd az
  repeat' ((first |(with_reducible refine .guard (fun hb =>?_) (fun hb =>?_) <;>try simp only[hb])|refine U.aE (by decide +kernel) rfl fun K hK =>?_|(refine .aA [0,1,3,5,18] hK ?_;clear hK K)|(with_reducible refine .done (hK _ ?_);clear hK K)|refine U.of rfl ?_|(with_reducible refine au.aD (fun h =>?_) (fun h =>?_) <;>try simp only[h])) <;>try simp only[aF,R,simprocAttr])
  all_goals clear R
  rw[jU];exact ⟨_,[],AK (o:=oX e) (u:=u') (out:=out') (s:=s') (z:=z'),trivial,rfl,.inr ⟨e,_,rfl,he,u',out',s',z',rfl,hF'⟩⟩
def XF(t:List UInt8):bY:=fun r os'=>r=.func 122 [.ptr 1 []]∧os'=[(1,.box (enc (ak.of t)))]
theorem Fv(t:List UInt8):eJ Tryz.prog 69 [enc (ak.of t)] [] (XF t):=by
 refine eJ.bL Tryz.func69 HK I3 Kk (t8 rfl) (t8 rfl) (fun m hm=>by simp[aH,aJ] at hm) (fun hwf W0 bC E1 =>?_);simp only[yK,CR,bB];clear hwf;have hall:([I.ptr 1 []].all fun y=>y.cn)=true:=rfl;have R:=y6 @hall (y6 @bd az)
 repeat' ((first |refine U.aE (by decide +kernel) rfl fun K hK =>?_|(refine .aA [0,1,2] hK ?_;clear hK K)|(with_reducible refine .done (hK _ ?_);clear hK K)|refine U.of rfl ?_|(with_reducible refine au.aD (fun h =>?_) (fun h =>?_) <;>try simp only[h])) <;>try simp only[aF,R,simprocAttr])
 all_goals clear R
 exact ⟨[(1,.box (enc (ak.of t)))],[.func 122 [.ptr 1 []]],n5 rfl (fun p=>bK _ _),⟨⟨_,rfl,.inl ⟨rfl,rfl,rfl⟩⟩,trivial⟩,rfl,rfl⟩
end Go.Proofs.YtoffnnjbplgnaaaGreatDoor
namespace Go.Abs
open Go Go.RowKit
open Enc (enc)
def FL(P:Program)(nn:Nat)(x y:bj)(ps:List Nat)(tsR:List (Nat×I))(N:Nat)(item:Nat→List I)(aW J:Nat→List (Nat×ai)→Prop)(Ix:Option Nat→List (Nat×ai)→Prop):Prop :=
 ∀ k osb,k<N→aW k osb→∀ (w:World) (D:aI) (E:aO) (l:Nat) (o1 o2:Obj),
  U ⟨P,w,D,nn,bS E,E,fy,some l,none⟩ x (cT (fun B=>B.o 1999999=some (.df o1)∧U ⟨P,w,D,nn,bS E,E,fy,some l,none⟩ y (Dz o2 (J k) Ix) (B.aP 1999999 (.df o2))) (fun _ _=>False)) (ay (sK ps (item k) tsR) (bO o1 osb))
theorem xG{aG:Bool}{A0:ab}{ρ:List (Nat×Nat)}{os:List (Nat×ai)} : ∀ {caps:List I},(∀ x∈caps,x.only (aH os)=true∧x.cn=true)→fP aG A0 ρ os (caps.map fun x=>x.aS (bp ρ)) caps
 | [],_=>trivial
 |x::xs,h=>⟨.inl ⟨rfl,(h x (by simp)).1,(h x (by simp)).2⟩,xG fun y hy=>h y (by simp[hy])⟩
theorem Gh{aG:Bool}{A0:ab}{ρ:List (Nat×Nat)}{os:List (Nat×ai)}{v:Value}{caps0 caps:List I}(hc:caps0=caps.map fun x=>x.aS (bp ρ))(h:∀ x∈caps,x.only (aH os)=true∧x.cn=true):fP aG A0 ρ os (.raw v::caps0) (.raw v::caps):=by
 subst hc;exact ⟨.inl ⟨by simp[I.aS],by simp[I.only],rfl⟩,xG h⟩
section
variable {c:cd} {Q:Exit→ab→Prop}
theorem U.Yq{f:aw}{ps:List Nat}{x y:bj}{ts tsR:List (Nat×I)}{os0 osb0:List (Nat×ai)}{ρ:List (Nat×Nat)}{g:FuncId}{caps0 caps:List I}{N:Nat}{item:Nat→List I}
  (aW J:Nat→List (Nat×ai)→Prop) (Ix:Option Nat→List (Nat×ai)→Prop) (hr0:c.qy=none∧c.dM=none) (hn6:c.n≤1000000)
  (hf:af (ay ts os0) f=.func g caps0) (hc0:caps0=caps.map fun x=>x.aS (bp ρ)) (hcp:∀ x∈caps,x.only (aH osb0)=true∧x.cn=true) (hcb:dO c.P g=true)
  (jJ:∀ (Y:Value→List I→List (Nat×ai)→bY→Prop) (v:Value) (o:Obj) (oX:Option Nat→Obj),v.oneCell'=true →
   (∀ k osb post,k<N→aW k osb→(∀ r os2,(r=.bool true∧∃ osb2,os2=bO o osb2∧J k osb2)∨(r=.bool false∧∃ e osb2,os2=bO (oX e) osb2∧Ix e osb2)→post r os2)→Y v (item k) (bO o osb) post) →
   iY c.P g Y (.raw v::caps) (bO o osb0) (fun r os'=>r=.tuple []∧((∃ osb,os'=bO o osb∧aW N osb)∨∃ e osb,os'=bO (oX e) osb∧Ix e osb))) (hlen:∀ k,(item k).length=ps.length)
  (hfree:aJ os0 999999=none) (h19:aH osb0 1999999=false) (hρ:bp ρ 1999999=999999)
  (hgv:∀ o,eK ρ (bO o osb0) ((999999,.df o)::os0)) (hts:mc ρ (aH osb0) ts tsR)
  (hI:∀ k os,aW k os→fb osb0 os) (hIx:∀ e os,Ix e os→fb osb0 os) (h0:aW 0 osb0)
  (hround:FL c.P c.n x y ps tsR N item aW J Ix)
  (hdone:∀ os,aW N os→Q .normal (ay ts (c7 ρ os++os0))) (hexit:∀ e os,Ix e os→Q (uG e) (ay ts (c7 ρ os++os0))) :
  U c (.mY f ps x y) Q (ay ts os0):=by
 obtain ⟨hr,hbase⟩:=hr0;intro code hc a w hs;cases code <;>simp only[dN] at hc <;>try (first | (cases hc;done) | ((repeat' split at hc) <;>cases hc;done))
 rename_i cf cps cx cy;split at hc
 case h_2=>cases hc
 rename_i f' x' y' hcf hcx hcy;split at hc
 case isFalse=>cases hc
 rename_i hpn;simp only[v6,bj.mY.injEq] at hc;obtain ⟨rfl,rfl,rfl,rfl⟩:=hc;obtain ⟨D,E,hs⟩:=hs;have hF:c.bl=Fence.wide:=by unfold cd.bl;rw[hr]
 have hE0:c.cm 999999=none:=hs.ji (.inr (by decide));have hval:∃ vs:List Value,a.eval cf=.func (.func g) #[] vs.toArray∧al w D E caps0 vs:=by
  have hv:=bo hs hcf;rw[hf] at hv;obtain ⟨cs,q1,q2⟩:=hv;simp only[ae] at q2;obtain ⟨vs,q3,q4⟩:=q2;exact ⟨vs,by rw[←lN (zh hcb)];simpa[aX,I.isAgg,q3] using q1.symm,q4⟩
 obtain ⟨vs,hval,hvs⟩:=hval;rw[hF];refine wpIn_rangeFunc fun fn hfn =>?_;obtain ⟨rec,hrec⟩:∃ rec:LoopState→Option Code→Loop,rec=fun aR pe => { state:=aR,pending:=pe,fn,tmps:=a.tmps,params:=cps,assign:=cx,body:=cy,defers:=w.heap.size } :=⟨_,rfl⟩
 obtain ⟨E1,hs1,hE1,hup⟩:=hs.enter hbase hfree hE0 (o:=.loop (rec .ready none)) rfl;obtain ⟨W1,hW1⟩:∃ W1,(w.alloc (.deferred (some []))).alloc (.loop (rec .ready none))=W1:=⟨_,rfl⟩
 rw[hW1] at hs1 hup;obtain ⟨l,hl⟩:∃ l,l=w.heap.size+1:=⟨_,rfl⟩
 rw[←hl] at hE1;obtain ⟨yv,hyv⟩:∃ yv:Value,yv=.func (.yield l) #[] #[]:=⟨_,rfl⟩
 obtain ⟨a1,ha1⟩:∃ a1:Act,a1 = { a with defers := { target:=.collected w.heap.size,args := #[] } :: a.defers } :=⟨_,rfl⟩
 rw[←ha1] at hs1;refine ⟨l,[{ target:=.collected w.heap.size,args := #[] }],W1,{ target:=.fn (.func g) vs.toArray,args := #[yv] },W1,g,#[yv]++vs.toArray,W1,?_,?_,?_,?_,fun _=>by decide,?_⟩
 ·rw[←hW1,hrec,hl];exact run_enterLoop_outer _ _ _ _ _
 ·simp only[resolve,hval,hyv];simp[go_sem]
 ·intro f' _;trivial
 ·simp only[invoke,l9 hcb]
 ·-- the iterator's own bargain
  have hG0:=hI 0 osb0 h0;obtain ⟨I',hI'⟩:∃ I':Nat→List (Nat×ai)→Prop,I'=fun k os=>∃ osb,os=bO (.loop (rec .ready none)) osb∧aW k osb:=⟨_,rfl⟩
  obtain ⟨J',hJ'⟩:∃ J':Nat→List (Nat×ai)→Prop,J'=fun k os=>∃ osb,os=bO (.loop (rec .ready none)) osb∧J k osb:=⟨_,rfl⟩
  obtain ⟨Ix',hIx'⟩:∃ Ix':List (Nat×ai)→Prop,Ix'=fun os=>∃ e osb,os=bO (.loop (rec .done (some (r2 e)))) osb∧Ix e osb:=⟨_,rfl⟩
  obtain ⟨os1,hos1⟩:∃ os1,os1=bO (.loop (rec .ready none)) osb0:=⟨_,rfl⟩
  obtain ⟨Y,hY⟩:∃ Y:Value→List I→List (Nat×ai)→bY→Prop,Y=fun v args os post=>v=yv∧∃ k,args=item k∧k<N∧I' k os∧∀ r os2,(r=.bool true∧J' k os2)∨(r=.bool false∧Ix' os2)→post r os2:=⟨_,rfl⟩
  have jI:∀ k os',I' k os'→fb os1 os':=fun k os' h=>by
   rw[hI'] at h;obtain ⟨osb,rfl,h⟩:=h;rw[hos1];exact (hI k osb h).bO _ _
  have goodx:∀ os',Ix' os'→fb os1 os':=fun os' h=>by
   rw[hIx'] at h;obtain ⟨e,osb,rfl,h⟩:=h;rw[hos1];exact (hIx e osb h).bO _ _
  have hctr:iY c.P g Y (.raw yv::caps) os1 (fun r os'=>r=.tuple []∧(I' N os'∨Ix' os')):=by
   rw[hI',hIx',hos1];refine jJ Y yv (.loop (rec .ready none)) (fun e=>.loop (rec .done (some (r2 e)))) (by rw[hyv];rfl) (fun k osb post hk h1 h2 =>?_);rw[hY];refine ⟨rfl,k,rfl,hk,by rw[hI'];exact ⟨osb,rfl,h1⟩,fun r os2 h3=>h2 r os2 ?_⟩;rw[hJ',hIx'] at h3;exact h3
  have hgv1:eK ρ os1 ((999999,.df (.loop (rec .ready none)))::os0):=by rw[hos1];exact hgv _
  obtain ⟨A0,hA0⟩:∃ A0:ab,A0=ay ts ((999999,.df (.loop (rec .ready none)))::os0):=⟨_,rfl⟩
  have hand:ml (Calls c.P g) (fun w D E=>∀ n,nC ⟨c.P,w,D,n,bS E,E,Y,none,none⟩) (.raw yv::caps) os1 (fun r os'=>r=.tuple []∧(I' N os'∨Ix' os')):=fun w D E vs hy hlive hheld hv=>by
   refine (hctr.2 w D E vs hy hlive hheld hv).mono fun e w' ⟨v,he,D',E',r,os',q⟩=>⟨v,D',E',r,os',he,q⟩
  have hshare:=hs1.ni;obtain ⟨Dh,hDh⟩:∃ Dh,Dh=na (ay ts ((999999,.df (.loop (rec .ready none)))::os0)) D E1:=⟨_,rfl⟩
  rw[←hDh] at hshare;have hsh:=hshare.1;obtain ⟨Eh,hEh⟩:∃ Eh,Eh=ar ρ os1 E1:=⟨_,rfl⟩
  have isrec:aH os1 1999999=true:=by rw[hos1,jL];simp
  have hEl:Eh 1999999=some (.op l):=by rw[hEh];simp only[ar,isrec,if_true,hρ];exact hE1
  have EhIn:∀ n e,Eh n=some e→aH os1 n=true:=fun n e h=>by
   rw[hEh] at h;simp only[ar] at h;split at h
   ·assumption
   ·cases h
  have hyok:∀ n,nC ⟨c.P,W1,Dh,n,bS Eh,Eh,Y,none,none⟩:=by
   refine fun n=>⟨by rw[hEh];exact hs1.oh,?_⟩
   intro v' args os' post' hYv w2 D2 E2 vs2 hsince hlive hheld hrvs;rw[hY] at hYv;obtain ⟨rfl,k,rfl,hkN,hIk,hpost⟩:=hYv;have hIk0:=hIk;rw[hI'] at hIk;obtain ⟨osb,rfl,hIk⟩:=hIk;have gk:=jI k _ hIk0;have gkb:=hI k osb hIk;have in2:∀ m,aH os1 m=true→E2 m≠none:=fun m hm=>by
    rw[←gk.same m] at hm;cases hx:aJ (bO (.loop (rec .ready none)) osb) m with
    |none=>simp[aH,hx] at hm
    |some x=>have:=hheld.bx m;rw[hx] at this;exact p7 this
   have same2:∀ m e,Eh m=some e→e.ep=true→E2 m=some e:=fun m e he hfx=>by
    rcases hsince.dx m e he with h | ⟨e',h,hle⟩
    ·exact absurd h (in2 m (EhIn m e he))
    ·rw[hle.eq hfx] at h;exact h
   have hEl2:E2 1999999=some (.op l):=same2 _ _ hEl rfl;have hob:=hheld.bx 1999999;rw[oo,if_pos rfl] at hob;obtain ⟨b,j1,_,j3,_,_⟩:=hob;rw[hEl2] at j1;cases j1;have hsz:vs2.toArray.size=cps.size:=by have:=qA hrvs;rw[hlen] at this;simpa using this
   have hyr:=run_yield (P:=c.P) (args:=vs2.toArray) j3 (by rw[hrec];exact hsz);rw[hrec] at hyr;refine ⟨l,hyv,fn,_,cx,cy,hyr,roundIn_of_wpIn trivial ?_⟩;clear hyr
   -- the round's own frame
   obtain ⟨cr,hcr⟩:∃ cr:cd,cr=⟨c.P,w2,D2,c.n,bS E2,E2,fy,some l,none⟩:=⟨_,rfl⟩
   have hFr:cr.bl=Fence.wide.inRound l:=by rw[hcr];rfl
   have hlat:dj W1 Dh Eh w2 D2 E2:=by
    refine ⟨hsince.cu,hsince.eY.cell,fun m b aK he=>same2 m _ he rfl,fun m aC l he =>?_,fun m b he=>same2 m _ he rfl,fun m b he=>same2 m _ he rfl,hsince.eY.iw⟩;rcases hsince.dx m _ he with h | ⟨e',h,hle⟩
    ·exact absurd h (in2 m (EhIn m _ he))
    ·rcases hle with rfl | ⟨_,_,blk',l',e,rfl,k1,k2⟩
     ·exact ⟨aC,l,h,Z3 _,fun _=>rfl⟩
     ·cases e;exact ⟨blk',l',h,k1,k2⟩
   have hslots:mc ρ (aH os1) ts tsR:=by
    have:∀ tsR:List (Nat×I),mc ρ (aH osb0) ts tsR→mc ρ (aH os1) ts tsR:=by
     intro tsR
     induction tsR with
     |nil=>exact fun h=>h
     |cons q r ih =>
      intro h;obtain ⟨h1,h2,h3⟩:=h;exact ⟨h1,jr (fun n hn=>by rw[hos1,jL,hn];simp) _ h2,ih h3⟩
    exact this tsR hts
   have hsr:aL cr (ay tsR (bO (.loop (rec .ready none)) osb)) { tmps:=a.tmps,defers:=[] } w2 D2 E2:=by
    rw[hcr];refine ⟨hs.sz,⟨[],rfl,.nil,fun _ h=>by simp at h⟩,fun t =>?_,ew.refl _ _,fun _ _ h _=>h,hlive,fun m=>(hheld.bx m).jo fun e b he hb=>.inr ⟨m,e,he,hb⟩,hheld.cv,fun _ e h=>.inr ⟨e,h,.refl e⟩,fun m hm =>?_,fun _ _ h=>h,⟨hsince.pT,fun _ _ _ _ h=>h.elim⟩,.refl _ _⟩
    ·rcases Ed hslots t with h | ⟨h1,h2⟩
     ·simp only[ay];rw[h];simp[aQ]
     ·have h3:=hsh.dz t;rw[ha1] at h3;simp only[ay] at h3 ⊢;rw[h1] at h3;have h4:=(aQ.aS (w:=W1) (D:=Dh) (p:=aH os1) (ρ:=bp ρ) (E:=Eh) (E':=E1) (fun n hn=>by rw[hEh];simp only[ar,hn,if_true]) h2).1 h3;exact aQ.later hlat h4
    ·have hmi:aH os1 m=true:=by
      rw[←gk.same m];have:=hheld.bx m;cases hx:aJ (bO (.loop (rec .ready none)) osb) m with
      |none=>rw[hx] at this;exact absurd this hm
      |some x=>simp[aH,hx]
     have:=gk.lO m hmi;exact ⟨Nat.le_trans hn6 this,this⟩
   have hsp:=aL.B9 cps.toList vs2 (item k) tsR _ hsr (fun p hp=>by rw[hcr];have:=zy5.1 hpn p hp;simpa using this) hrvs (by have:=hsz;simpa using this.symm);have htm:(cps.zip vs2.toArray).foldl (fun t (q:Tmp×Value)=>t.setIfInBounds q.1 q.2) a.tmps=(cps.toList.zip vs2).foldl (fun t q=>t.setIfInBounds q.1 q.2) a.tmps:=by
    rw[←Array.foldl_toList];simp
   have hx:=hround k osb hkN hIk w2 D2 E2 l (.loop (rec .ready none)) (.loop { rec .ready none with state:=.busy });rw[←hcr] at hx;have hx1:=hx cx (by rw[hcr];exact hcx) _ w2 ⟨D2,E2,hsp⟩;rw[hFr] at hx1;simp only[←htm] at hx1;rw[hcr] at hx1;refine wpIn_mono hx1 ?_;rintro e ax wx ⟨B,hq,hsx⟩;rw[←hcr] at hq hsx;cases e <;>simp only[cT] at hq <;>try exact hq.elim
   simp only[Exit.then];obtain ⟨hB1,hB2⟩:=hq;obtain ⟨Dx,Ex,hsx⟩:=hsx;have hElx:Ex 1999999=some (.op l):=by
    have ho:=hsx.bx 1999999;rw[hB1] at ho;rcases hsx.uT (n:=1999999) (by rw[hcr];exact hEl2) rfl with h | h
    ·exact absurd h (p7 ho)
    ·exact h
   have hLx:wx.heap[l]?=some (.loop (rec .ready none)):=by
    have ho:=hsx.bx 1999999;rw[hB1] at ho;obtain ⟨b,k1,_,k3,_⟩:=ho;rw[hElx] at k1;cases k1;exact k3
   refine ⟨_,run_beginRound hLx (by rw[hrec]),?_⟩;have hsb:=hsx.wv (o':=.loop { rec .ready none with state:=.busy }) hB1 hElx rfl;have hy1:=hB2 cy (by rw[hcr];exact hcy) _ _ ⟨Dx,Ex,hsb⟩;rw[hFr] at hy1;rw[hcr] at hy1;refine wpIn_mono hy1 ?_;rintro e a3 w3 ⟨A3,hq3,D3,E3,hs3⟩;rw[←hcr] at hs3
   -- the end of the round
   have ba:∀ (os:List (Nat×ai)) (jump:Option Code),oU (.loop { rec .ready none with state:=.busy }) A3 os→(post' (.bool jump.isNone) (bO (.loop (rec (if jump.isNone then .ready else .done) jump)) os)) →
     ∃ v w',(Instr.endRound l jump).run c.P w3=.ok v w'∧(fun e w'=>∃ v D' E' r os',e=Ending.returned v∧post' r os'∧aQ w' D' E' r v∧iZ (fun b=>w2.heap.size≤b∨bS E2 b) w' D' E' (aJ os') ∧
      ew (fun b=>w2.heap.size≤b∨bS E2 b) w2 w'∧(∀ b o,D2 b o→D' b o)∧(∀ b o,D' b o→b<w'.heap.size)∧(∀ b o,D' b o→b<w2.heap.size→¬ bS E2 b→D2 b o) ∧
      (∀ n e,E2 n=some e→aH os' n=true→∃ e',E' n=some e'∧e.fi e')∧fO w2 D2 w') (.returned v) w':=fun os jump hbk hp=>by
    have hA3:A3.o 1999999=some (.df (.loop { rec .ready none with state:=.busy })):=(hbk 1999999 _ (by rw[oo,if_pos rfl])).1;have hEl3:E3 1999999=some (.op l):=by
     have ho:=hs3.bx 1999999;rw[hA3] at ho;rcases hs3.uT (n:=1999999) (by rw[hcr];exact hEl2) rfl with h | h
     ·exact absurd h (p7 ho)
     ·exact h
    have hL3:w3.heap[l]?=some (.loop { rec .ready none with state:=.busy }):=by
     have ho:=hs3.bx 1999999;rw[hA3] at ho;obtain ⟨b,k1,_,k3,_⟩:=ho;rw[hEl3] at k1;cases k1;exact k3
    have hend:=run_endRound (P:=c.P) jump hL3;have erec:({ rec .ready none with state:=if jump.isNone then LoopState.ready else .done,pending:=jump } : Loop)=rec (if jump.isNone then .ready else .done) jump:=by rw[hrec]
    have hend':(Instr.endRound l jump).run c.P w3=.ok (.bool jump.isNone) (w3.putObj l (.loop (rec (if jump.isNone then .ready else .done) jump))):=by
     rw[hend];rw[hrec]
    have hs4:=hs3.wv (o':=.loop (rec (if jump.isNone then .ready else .done) jump)) hA3 hEl3 rfl;rw[hcr] at hs4;obtain ⟨D',E',_,_,_,q1,q2,q3,q4,q5,q6⟩:=hs4.vk (Vl hbk _);exact ⟨_,_,hend',_,D',E',.bool jump.isNone,_,rfl,hp,⟨[.bool jump.isNone],by simp[aX,I.isAgg],by simp[ae]⟩,q1,q2,q3,q4,q5,q6⟩
   cases e with
   |normal =>
    obtain ⟨os,hbk,hin⟩:=hq3;exact ba os none hbk (hpost _ _ (.inl ⟨rfl,by rw[hJ'];exact ⟨os,rfl,hin⟩⟩))
   |ret =>
    obtain ⟨os,hbk,hin⟩:=hq3;exact ba os (some .ret) hbk (hpost _ _ (.inr ⟨rfl,by rw[hIx'];exact ⟨none,os,rfl,hin⟩⟩))
   |exit id =>
    obtain ⟨os,hbk,hin⟩:=hq3;exact ba os (some (.exit id)) hbk (hpost _ _ (.inr ⟨rfl,by rw[hIx'];exact ⟨some id,os,rfl,hin⟩⟩))
   |goto t=>exact hq3.elim
   |panic ch=>exact hq3.elim
   |outgrown=>exact hq3.elim
  -- the call
  have hargs:dY (aQ W1 D E1) (.raw yv::caps0) (yv::vs):=by
   exact .cons ⟨[yv],by simp[aX,I.isAgg],by rw[hyv];exact ⟨rfl,rfl⟩⟩ (oI (hup caps0 vs hvs))
  have hus:=hand.use (ρ:=ρ) hs1 false (fun h=>h.mono) ⟨(fun h=>by cases h),fun _=>by rw[←hDh,←hEh];exact hyok⟩ hgv1 (Gh hc0 fun x hx=>⟨jr (fun n hn=>by rw[hos1,jL,hn];simp) _ (hcp x hx).1,(hcp x hx).2⟩)
   (fun r os' hp=>by
    have gg:fb os1 os':=by
     rcases hp.2 with h | h
     ·exact jI _ _ h
     ·exact goodx _ h
    refine ⟨fun m x hx=>⟨(gg.ok m x hx).1,(gg.ok m x hx).2,fun h=>by cases h⟩,fun m m' h1 h2=>hgv1.inj m m' (by rw[←gg.same];exact h1) (by rw[←gg.same];exact h2),fun m hm=>by rw[gg.same];exact hm,fun m h1 h2=>(by rw[gg.same,h2] at h1;cases h1),(by rw[hp.1];simp[I.only,I.cH]),fun h=>by cases h⟩) hargs
  have ecl : #[yv]++vs.toArray=(yv::vs).toArray:=by simp
  rw[ecl];refine CallsIn.mono (callsIn_wide.2 hus) ?_;rintro e w3 ⟨v,r,os',D2,E2,rfl,hp,hs2,_,hE2⟩;have key:∀ (o3:Obj) (osb:List (Nat×ai)),os'=bO o3 osb→od o3=true→E2 999999=some (.op l)∧w3.heap[l]?=some o3∧∀ o4,od o4=true→bA c (ay ts (c7 ρ osb++os0)) a1 (w3.putObj l o4):=fun o3 osb he h3=>by
   subst he;have hn2:E2 999999=some (.op l):=by
    obtain ⟨e',h1,h2⟩:=hE2 1999999 (.op l) (by rw[←hEh];exact hEl) (by rw[jL];simp);rw[hρ] at h1;rw[h1,h2.eq rfl]
   have eos:c7 ρ (bO o3 osb)=(999999,.df o3)::c7 ρ osb:=by simp only[bO,c7,Z4,hρ,ai.aS]
   rw[eos] at hs2;have ha:(ay ts ((999999,ai.df o3)::c7 ρ osb++(999999,.df (.loop (rec .ready none)))::os0)).o 999999=some (.df o3):=by simp[ay,aJ]
   have hgb:∀ m,aH osb m=true→bp ρ m≠999999:=fun m hm e=>by
    have h5:aH (bO o3 osb) m=true:=by rw[jL,hm];simp
    have g5:fb os1 (bO o3 osb):=by
     rcases hp.2 with h | h
     ·exact jI _ _ h
     ·exact goodx _ h
    have h6:=hgv1.inj m 1999999 (by rw[←g5.same];exact h5) isrec (by rw[hρ];exact e);subst h6;have h7:fb osb0 osb:=by
     rcases hp.2 with h | h
     ·rw[hI'] at h;obtain ⟨osb',h8,h9⟩:=h;simp only[bO,zz8] at h8;rw[h8.2];exact hI _ _ h9
     ·rw[hIx'] at h;obtain ⟨e,osb',h8,h9⟩:=h;simp only[bO,zz8] at h8;rw[h8.2];exact hIx _ _ h9
    rw[h7.same,h19] at hm;cases hm
   refine ⟨hn2,?_,fun o4 h4 =>?_⟩
   ·have ho:=hs2.bx 999999;rw[ha] at ho;obtain ⟨b,k1,_,k3,_⟩:=ho;rw[hn2] at k1;cases k1;exact k3
   ·have h5:=(hs2.wv (o':=o4) ha hn2 h4).LK hn2;have hst:(⟨((ay ts ((999999,ai.df o3)::c7 ρ osb++(999999,.df (.loop (rec .ready none)))::os0)).aP 999999 (.df o4)).t,fun m=>if m=999999 then none else
      ((ay ts ((999999,ai.df o3)::c7 ρ osb++(999999,.df (.loop (rec .ready none)))::os0)).aP 999999 (.df o4)).o m⟩:ab)=ay ts (c7 ρ osb++os0):=by
     simp only[ay,ab.aP]
     congr 1
     funext m
     by_cases hm:m=999999
     ·subst hm;simp only[if_true,sf];cases hq:pre ρ osb 999999 with
      |none=>exact hfree.symm
      |some k=>exact absurd (lf hq).2 (hgb k (lf hq).1)
     ·simp only[if_neg hm,zz4,aJ,sf]
    rw[hst] at h5;exact ⟨D2,_,h5⟩
  rcases hp.2 with h | h
  ·rw[hI'] at h;obtain ⟨osb,he,hin⟩:=h;obtain ⟨k1,k2,k3⟩:=key _ osb he rfl;refine ⟨none,_,(by have:=run_endLoop (P:=c.P) k2 (by rw[hrec];simp);rw[hrec] at this;exact this),_,hdone osb hin,?_⟩;have:=k3 (.loop { rec .ready none with state:=.exhausted }) rfl;rw[ha1] at this;rw[hrec] at this;exact this
  ·rw[hIx'] at h;obtain ⟨e,osb,he,hin⟩:=h;obtain ⟨k1,k2,k3⟩:=key _ osb he rfl;refine ⟨some (r2 e),_,(by have:=run_endLoop (P:=c.P) k2 (by rw[hrec];simp);rw[hrec] at this;exact this),?_⟩;have:=k3 (.loop { rec .done (some (r2 e)) with state:=.exhausted }) rfl;rw[ha1] at this;rw[hrec] at this;have hq:r8 c Q (uG e) { a with defers := { target:=.collected w.heap.size,args := #[] } :: a.defers } _:=⟨_,hexit e osb hin,this⟩
   cases e with
   |none=>exact wpIn_ret hq
   |some id=>exact wpIn_exit hq
end
end Go.Abs
namespace Go.Proofs.YtoffnnjbplgnaaaGreatDoor
open Go Go.Abs
open Go.Abs.Enc (enc)
theorem DZ{out:List aj}{s:Int}{z:Nat}{x:List UInt8}{ao:List (List UInt8)}(h:dE bg s x=none):gh (dE bg) de out s z (x::ao)=(out,z):=by rw[gh,h]
theorem D0{out:List aj}{s:Int}{z:Nat}{x:List UInt8}{ao:List (List UInt8)}{q:aj×Int}(h:dE bg s x=some q):gh (dE bg) de out s z (x::ao)=if de out q.1=true then gh (dE bg) de (out++[q.1]) q.2 (z+x.length) ao else (out,z):=by rw[gh,h]
structure nB (t:List UInt8) (k:Nat) (out:List aj) (s:Int) (z:Nat):Prop where
 eq:gh (dE bg) de [] 1 0 (dm t)=gh (dE bg) de out s z ((dm t).drop k)
 sum:0≤s∧s<1000003
 ok:∀ r∈out,bg r=true
 len:out.length≤60
 size:z+(eh k t).length=t.length
structure kF (t:List UInt8) (out:List aj) (z:Nat):Prop where
 eq:gh (dE bg) de [] 1 0 (dm t)=(out,z)
 len:out.length≤60
 size:z≤t.length
theorem Du{t:List UInt8}{k:Nat}(hk:k<(dm t).length):∃ w v,cG 10 (eh k t)=some (w,v)∧(dm t)[k]=w++[10]∧eh (k+1) t=v∧eh k t=w++10::v:=by
 have hrd:=oG (Nat.le_of_lt hk);cases h:cG 10 (eh k t) with
 |none=>rw[sa h] at hrd;have:=congrArg List.length hrd;simp at this;omega
 |some p =>
  obtain ⟨w,v⟩:=p;refine ⟨w,v,rfl,?_,wa h,(nQ h).1⟩;rw[pU h,List.drop_eq_getElem_cons hk] at hrd;exact (List.cons.inj hrd).1.symm
theorem vS(t:List UInt8):nB t 0 [] 1 0:=⟨rfl,by omega,by simp,by simp,by simp[eh]⟩
theorem XM{t:List UInt8}{out:List aj}{s:Int}{z:Nat}(h:nB t (dm t).length out s z):kF t out z :=
 ⟨by rw[h.eq,List.drop_length,gh],h.len,by have:=h.size;omega⟩
theorem nX{t:List UInt8}{out:List aj}{z:Nat}(h:kF t out z):gz bg de t=(out,t.take z):=by rw[gz,h.eq]
theorem Bw{out:List aj}{r:aj}(h:de out r=true):out.length<60:=by
 simp only[de,Z0,decide_eq_true_eq] at h;exact h.1
theorem w9(t:List UInt8)(ht:t.length≤281474976710656):aM Tryz.prog 15 [enc (ak.of t)] (.tuple [enc (gz bg de t).1,enc (ak.of (gz bg de t).2)]):=by
 refine aM.bL Tryz.func15 Hi IB JU (t8 rfl) (fun hwf W0 bC E1 =>?_);simp only[yj,Cr,bB];clear hwf;have h69:=Fv t;have R:=y6 @qD (y6 @bd az)
 repeat' ((first |(with_reducible refine .guard (fun hb =>?_) (fun hb =>?_) <;>try simp only[hb])|refine U.aE (by decide +kernel) rfl fun K hK =>?_|(refine .aA [0,2,3,4,5,6,7,8,9,10,12,13,28] hK ?_;clear hK K)|(with_reducible refine .done (hK _ ?_);clear hK K)|refine U.of rfl ?_|(with_reducible refine au.aD (fun h =>?_) (fun h =>?_) <;>try simp only[h])) <;>try simp only[aF,R,simprocAttr])
 all_goals clear R
 refine .bx false [] [] [enc (ak.of t)] _ rfl h69 ⟨fun m y hy=>by simp[aJ] at hy,fun m m' h=>by simp[aH,aJ] at h⟩ ⟨.inl ⟨(iP _ _).symm,bK _ _,fh _⟩,trivial⟩ ?_ ?_
 ·rintro r os' ⟨rfl,rfl⟩;refine ⟨fun m y hy =>?_,fun m m' _ _ h=>h,fun m hm=>by simp[aH,aJ] at hm,fun m hm _ =>?_,⟨rfl,fun h=>by cases h⟩⟩
  ·simp only[aJ] at hy;split at hy
   ·cases hy;exact ⟨bK _ _,rfl,fun h=>by cases h⟩
   ·cases hy
  ·simp only[aH,aJ] at hm;split at hm
   ·rename_i e;subst e;exact ⟨rfl,by decide⟩
   ·simp at hm
 rintro r os' ⟨rfl,rfl⟩
 try simp only[c7,Z4,zz9,ai.aS,iP,bp,I.aS,I.cW,zz4,zy7,aZ,simprocAttr]
 refine .done (hK _ ?_);clear hK K;refine U.sub (bw.FV 4 80 50 8 8 [] _ rfl rfl rfl (B:=ay [(0,enc (ak.of t)),(4,.ptr 4 []),(5,.ptr 5 []),(6,.ptr 6 []),(12,.func 122 [.ptr 1 []])] [(4,.box (.own 80 0)),(80,.bF 50 8 []),(1,.box (enc (ak.of t))),(5,.box (.int .i64 1)),(6,.box (.int .i64 0))]) ?_) ?_
 ·simp only[fo];refine bw.cN ?_ ?_ ?_ ?_ <;>simp[cj,ct,cq,bU,aH,cg,dT,I.only,I.cH,ai.only,bK]
 refine U.block (U.Yq (osb0:=dy t [] 1 0) (tsR:=[(4,.ptr 1000004 []),(5,.ptr 1000005 []),(6,.ptr 1000006 [])]) (ρ:=[(1999999,999999),(1000001,1),(1000004,4),(1000080,80),(1000005,5),(1000006,6)]) (g:=122) (caps0:=[.ptr 1 []]) (caps:=[.ptr 1000001 []]) (N:=(dm t).length) (item:=oe t)
  (rX t (nB t)) (rY t (nB t)) (pN (kF t)) ⟨rfl,rfl⟩ (t8 rfl) (by simp only[aZ,simprocAttr]) (by simp[I.aS,bp]) ?_ zb (V2 ht (vS t)) (fun _=>rfl) rfl rfl rfl (fun o=>⟨?_,?_⟩) ?_ ?_ ?_ ?_ ?_ ?_ ?_)
 ·intro x hx;simp only[List.mem_singleton] at hx;subst hx;exact ⟨rfl,rfl⟩
 ·intro n x hx;simp only[bO,dy,aJ] at hx
  repeat' split at hx
  all_goals first | (cases hx;done) | (subst_vars;simp only[v6] at hx;subst hx;simp[bO,dy,aH,bp,aJ,ai.aS,I.aS,I.cW,iP,ai.only,I.only,I.cH,bK,ai.ep])
 ·intro a b ha hb;simp only[bO,dy,aH,aJ] at ha hb
  repeat' split at ha
  all_goals first | (simp at ha;done) | skip
  all_goals (repeat' split at hb)
  all_goals first | (simp at hb;done) | (subst_vars;simp[bp])
 ·simp[mc,cg,I.aS,bp,I.only,dy,aH,aJ]
 ·rintro k os ⟨out,s,z,rfl,_⟩;exact nl ..
 ·rintro e os ⟨_,u,out,s,z,rfl,_⟩;exact nl ..
 ·exact ⟨[],1,0,rfl,vS t⟩
 ·rintro k osb hk ⟨out,s,z,rfl,hP⟩ W1 D1 E1 Zk o1 o2;obtain ⟨w,v,hcut,hL,hnext,hrest⟩:=Du hk;have jJ:oe t k=[enc (ak.of (w++[10]))]:=by
   rw[oe,zz6,zz2 hk,Option.getD_some,hL]
  have hdrop:(dm t).drop k=(w++[10])::(dm t).drop (k+1):=by rw[List.drop_eq_getElem_cons hk,hL]
  have hsz:=hP.size;rw[hrest] at hsz;have hll:(w++[10]).length+v.length=(w++10::v).length:=by simp;omega
  generalize hx:w++[10]=line at jJ hdrop hll;have hlen:z+line.length+v.length=t.length:=by omega
  have h70:=xh hP.sum (t:=line) (by omega);have hlt:=kv line;have hwz:IntKind.i64.wrap ((z:Int)+(line.length:Int))=((z+line.length:Nat):Int):=by rw[dC _ (by omega) (by omega)];rfl
  have hfo:kb out.length (some (.bF 50 8 (out.map enc)))=some (enc out):=pE 8 rfl rfl;have hpe:=hP.eq;rw[hdrop] at hpe;generalize hu:eh k t=u at *;rw[jJ];simp only[sK,bO,dy];have R:=y6 @bd az
  repeat' ((first |(with_reducible refine .guard (fun hb =>?_) (fun hb =>?_) <;>try simp only[hb])|refine U.aE (by decide +kernel) rfl fun K hK =>?_|(refine .aA [0,2,3,4,5,6,7,8,9,10,12,13,28] hK ?_;clear hK K)|(with_reducible refine .done (hK _ ?_);clear hK K)|refine U.of rfl ?_|(with_reducible refine au.aD (fun h =>?_) (fun h =>?_) <;>try simp only[h])) <;>try simp only[aF,R,simprocAttr])
  all_goals clear R
  refine ⟨by simp[],?_⟩;have stop:gh (dE bg) de [] 1 0 (dm t)=(out,z)→∀ ts z1 z2 z3,Dz o2 (rY t (nB t) k) (pN (kF t)) (.exit 0)
    (ay ts ([(8,z1),(8,z2),(1999999,.df o2),(1999999,z3)]++dy u out s z)):=fun h ts z1 z2 z3=>by
   refine ⟨dy u out s z,?_,rfl,u,out,s,z,rfl,h,hP.len,by omega⟩;intro n x hx;simp only[bO,dy,aJ] at hx
   (repeat' split at hx) <;>first
    |(cases hx;done)
    |(subst_vars;simp only[v6] at hx;subst hx;simp[bO,dy,aH,ay,aJ,ai.only,I.only,bK,ai.ep,mM])
  cases hq:dE bg s line with
  |none =>
   rw[gN,hq,kC] at h70;rw[DZ hq] at hpe;have R:=y6 @ef (y6 @dJ (y6 @bd az))
   repeat' ((first |(with_reducible refine .guard (fun hb =>?_) (fun hb =>?_) <;>try simp only[hb])|refine U.aE (by decide +kernel) rfl fun K hK =>?_|refine .lead _ (h70) ?_|(refine .aA [0,2,3,4,5,6,7,8,9,10,12,13,28] hK ?_;clear hK K)|(with_reducible refine .done (hK _ ?_);clear hK K)|refine U.of rfl ?_|(with_reducible refine au.aD (fun h =>?_) (fun h =>?_) <;>try simp only[h])) <;>try simp only[aF,R,simprocAttr])
   all_goals clear R
   exact stop hpe _ _ _ _
  |some q =>
   obtain ⟨r,n⟩:=q;obtain ⟨hok,_,hns⟩:=vY bg hq;simp only at hok hns;rw[gN,hq,kC] at h70;rw[D0 hq] at hpe;simp only at hpe;have h71:=xi out r (by have:=hP.len;omega) (fun q hq=>lV (hP.ok q hq)) (lV hok);cases hn:de out r
   ·rw[hn] at h71 hpe;rw[if_neg (by decide)] at hpe;have R:=y6 @hfo (y6 @ef (y6 @dJ (y6 @bd az)))
    repeat' ((first |(with_reducible refine .guard (fun hb =>?_) (fun hb =>?_) <;>try simp only[hb])|refine U.aE (by decide +kernel) rfl fun K hK =>?_|refine .lead _ (h70) ?_|refine .flat _ (h71) rfl ?_|(refine .aA [0,2,3,4,5,6,7,8,9,10,12,13,28] hK ?_;clear hK K)|(with_reducible refine .done (hK _ ?_);clear hK K)|refine U.of rfl ?_|(with_reducible refine au.aD (fun h =>?_) (fun h =>?_) <;>try simp only[h])) <;>try simp only[aF,R,simprocAttr])
    all_goals clear R
    exact stop hpe _ _ _ _
   ·have hol:=Bw hn;rw[hn] at h71 hpe;rw[if_pos rfl] at hpe;have stOwn:∀ (A:ab) n b m k m' k' rest,ev A none n [] b (.own m k) rest (some (.own m' k'))=aq rest (A.aP n (.box (.own m k))) :=
     fun _ _ _ m k m' k' _=>by rw[fq (s:=none) (v:=.own m k) (old:=.own m' k') rfl rfl rfl,fo]
    have hbs:gD 8 (some [enc r])=some (enc [r]):=po 8 r rfl;have hap:=fun (A:ab) d rest=>xC (A:=A) (d:=d) 50 8 72 1000080 (l:=out.length) (es:=out) (ys:=[r]) (rest:=rest) rfl rfl (by simp) (by simp[maxLen];omega) (by simp;omega);have R:=y6 @hfo (y6 @hbs (y6 @hap (y6 @stOwn (y6 @hlt (y6 @hwz (y6 @ef (y6 @dJ (y6 @qD (y6 @bd az)))))))))
    repeat' ((first |(with_reducible refine .guard (fun hb =>?_) (fun hb =>?_) <;>try simp only[hb])|refine U.aE (by decide +kernel) rfl fun K hK =>?_|refine .lead _ (h70) ?_|refine .flat _ (h71) rfl ?_|(refine .aA [0,2,3,4,5,6,7,8,9,10,12,13,28] hK ?_;clear hK K)|(with_reducible refine .done (hK _ ?_);clear hK K)|refine U.of rfl ?_|(with_reducible refine au.aD (fun h =>?_) (fun h =>?_) <;>try simp only[h])) <;>try simp only[aF,R,simprocAttr])
    all_goals clear R
    refine ⟨dy u (out++[r]) n (z+line.length),?_,out++[r],n,z+line.length,by rw[hu],⟨hpe,?_,?_,?_,?_⟩⟩
    ·intro n x hx;simp only[bO,dy,aJ] at hx
     (repeat' split at hx) <;>first
      |(cases hx;done)
      |(subst_vars;simp only[v6] at hx;subst hx;simp[bO,dy,aH,ay,aJ,ai.only,I.only,bK,ai.ep,mM,-List.map_append])
    ·rw[hns];exact mf hP.sum _
    ·intro q hq;rcases zx0.1 hq with h1 | h1
     ·exact hP.ok q h1
     ·rw[List.mem_singleton.1 h1];exact hok
    ·simp;omega
    ·rw[hnext];exact hlen
 ·rintro os ⟨out,s,z,rfl,hP⟩;have hF:=XM hP;have hfo:kb out.length (some (.bF 50 8 (out.map enc)))=some (enc out):=pE 8 rfl rfl;have hsh:=nd (ak.of t) (j:=z) (by rw[ak.c8];exact hF.size);rw[ak.c8] at hsh;rw[nX hF];simp only[dy,c7,Z4,zz9,bp,ai.aS,I.aS,iP,mV,cT,kL,reduceIte,Nat.reduceEqDiff,zz4,zy7];have R:=y6 @hfo (y6 @hsh (y6 @bd az))
  repeat' ((first |(with_reducible refine .guard (fun hb =>?_) (fun hb =>?_) <;>try simp only[hb])|refine U.aE (by decide +kernel) rfl fun K hK =>?_|(refine .aA [0,2,3,4,5,6,7,8,9,10,12,13,28] hK ?_;clear hK K)|(with_reducible refine .done (hK _ ?_);clear hK K)|refine U.of rfl ?_|(with_reducible refine au.aD (fun h =>?_) (fun h =>?_) <;>try simp only[h])) <;>try simp only[aF,R,simprocAttr])
  all_goals clear R
  all_goals rfl
 ·rintro e os ⟨rfl,u,out,s,z,rfl,hF⟩;have hfo:kb out.length (some (.bF 50 8 (out.map enc)))=some (enc out):=pE 8 rfl rfl;have hsh:=nd (ak.of t) (j:=z) (by rw[ak.c8];exact hF.size);rw[ak.c8] at hsh;rw[nX hF];simp only[dy,c7,Z4,zz9,bp,ai.aS,I.aS,iP,mV,uG,cT,kL,reduceIte,Nat.reduceEqDiff,zz4,zy7];have R:=y6 @hfo (y6 @hsh (y6 @bd az))
  repeat' ((first |(with_reducible refine .guard (fun hb =>?_) (fun hb =>?_) <;>try simp only[hb])|refine U.aE (by decide +kernel) rfl fun K hK =>?_|(refine .aA [0,2,3,4,5,6,7,8,9,10,12,13,28] hK ?_;clear hK K)|(with_reducible refine .done (hK _ ?_);clear hK K)|refine U.of rfl ?_|(with_reducible refine au.aD (fun h =>?_) (fun h =>?_) <;>try simp only[h])) <;>try simp only[aF,R,simprocAttr])
  all_goals clear R
  all_goals rfl
theorem Dw:∀ (k:Nat) (t:List UInt8),∃ p,t=p++eh k t
 |0,t=>⟨[],rfl⟩
 |k+1,t=>by
  rw[eh];cases h:cG 10 t with
  |none=>exact ⟨[],rfl⟩
  |some q =>
   obtain ⟨w,v⟩:=q;obtain ⟨h1,_⟩:=nQ h;obtain ⟨p,h2⟩:=Dw k v;refine ⟨w++10::p,?_⟩;simp only;rw[zz0,zz4,←h2];exact h1
theorem Yi{t:List UInt8}{k z:Nat}(h:z+(eh k t).length=t.length):t.drop z=eh k t:=by
 obtain ⟨p,hp⟩:=Dw k t;have:p.length=z:=by have:=congrArg List.length hp;rw[Z1] at this;omega
 rw[hp,←this,List.drop_left];have e:p++eh k t=t:=hp.symm;rw[e]
def tK(t:List UInt8)(x:Nat×List aj×Int×Nat):ab:=ay [(0,enc (ak.of t)),(4,.own 4 x.2.1.length),(5,.int .i64 (x.2.2.2:Int)),(6,.int .i64 x.2.2.1)] [(4,.bF 50 8 (x.2.1.map enc))]
theorem xb(t:List UInt8)(ht:t.length≤281474976710656):aM Tryz.prog 16 [enc (ak.of t)] (.tuple [enc (gz bg de t).1,enc (ak.of (gz bg de t).2)]):=by
 refine aM.bL Tryz.func16 Hn IE JX (t8 rfl) (fun hwf W0 bC E1 =>?_);simp only[ym,Cu,bB];clear hwf;have hl:=kv t;have R:=y6 @bd az
 repeat' ((first |(with_reducible refine .guard (fun hb =>?_) (fun hb =>?_) <;>try simp only[hb])|refine U.aE (by decide +kernel) rfl fun K hK =>?_|(refine .aA [0,2,3,4,5,6,7,8,9,10,14,25,31,50] hK ?_;clear hK K)|(with_reducible refine .done (hK _ ?_);clear hK K)|refine U.of rfl ?_|(with_reducible refine au.aD (fun h =>?_) (fun h =>?_) <;>try simp only[h])) <;>try simp only[aF,R,simprocAttr])
 all_goals clear R
 refine U.loop (tK t) (fun x=>x.1≤(dm t).length∧nB t x.1 x.2.1 x.2.2.1 x.2.2.2) (fun x=>(dm t).length-x.1) (0,[],1,0) ⟨by simp,vS t⟩ ?_ ?_
 ·refine bw.FW 4 4 50 8 8 rfl rfl ?_;simp only[tK,zy6,zz9];refine bw.cN ?_ ?_ ?_ ?_ <;>simp[cj,ct,cq,bU,aH,cg,dT,I.only,I.cH,ai.only,bK]
 rintro ⟨k,out,s,z⟩ ⟨hk,hP⟩;simp only at hk hP;simp only[tK];have hri:=Yi hP.size;have hsz:=hP.size;have hfo:kb out.length (some (.bF 50 8 (out.map enc)))=some (enc out):=pE 8 rfl rfl;have hdone:kF t out z→dX (.ss false true) [enc (ak.of t),.int .i64 (z:Int)]=some (enc (ak.of (t.take z))):=fun hF=>by
  have hsh:=nd (ak.of t) (j:=z) (by rw[ak.c8];exact hF.size);rw[ak.c8] at hsh;exact hsh
 by_cases hz:z<t.length
 rotate_left
 ·have hzc:=fu hz;have hF:kF t out z:=by
   have:(eh k t)=[]:=List.length_eq_zero_iff.1 (by omega);have h2:=oG hk;rw[this,vl (by simp)] at h2;exact ⟨by rw[hP.eq,←h2,gh],hP.len,by omega⟩
  have hsh:=hdone hF;rw[nX hF];have R:=y6 @hl (y6 @hzc (y6 @hfo (y6 @hsh (y6 @bd az))))
  repeat' ((first |(with_reducible refine .guard (fun hb =>?_) (fun hb =>?_) <;>try simp only[hb])|refine U.aE (by decide +kernel) rfl fun K hK =>?_|(refine .aA [0,2,3,4,5,6,7,8,9,10,14,25,31,50] hK ?_;clear hK K)|(with_reducible refine .done (hK _ ?_);clear hK K)|refine U.of rfl ?_|(with_reducible refine au.aD (fun h =>?_) (fun h =>?_) <;>try simp only[h])) <;>try simp only[aF,R,simprocAttr])
  all_goals clear R
  all_goals rfl
 have hzc:=eP hz;generalize hu:eh k t=u at *
 -- where the line ends
 obtain ⟨e,he1,he2,hbelow,hat⟩:∃ e,z≤e∧e≤t.length∧(∀ j (h:j<t.length),z≤j→j<e→t[j]≠10)∧((e=t.length∧cG 10 u=none)∨∃ h:e<t.length,t[e]=10∧cG 10 u=some (u.take (e-z),u.drop (e-z+1))):=by
  have hget:∀ j (h:j<t.length) (h2:z≤j),t[j]=u[j-z]'(by omega):=fun j h h2=>by
   have:(t.drop z)[j-z]'(by rw[zx5];omega)=t[j]:=by rw[List.getElem_drop];congr 1;omega
   rw[←this];congr 1
  rcases nP 10 u with ⟨h1,_⟩ | ⟨i,hi,_,h1⟩
  ·refine ⟨t.length,by omega,Z3 _,fun j h h2 h3 =>?_,.inl ⟨rfl,h1⟩⟩;rw[hget j h h2];exact uq h1 _ (List.getElem_mem _)
  ·obtain ⟨h2,h3⟩:=nQ h1;refine ⟨z+i,by omega,by omega,fun j h h4 h5 =>?_,.inr ⟨by omega,?_,by rw[h1];congr 3 <;>omega⟩⟩
   ·rw[hget j h h4];refine h3 _ ?_;rw[List.mem_take_iff_getElem];exact ⟨j-z,by omega,rfl⟩
   ·rw[hget _ (by omega) (by omega)];have:u[i]?=some 10:=by
     rw[h2,List.getElem?_append_right (by rw[Z7];omega),Z7,show i-min i u.length=0 by omega];rfl
    rw[zz2 hi] at this;have e2:u[z+i-z]'(by omega)=u[i]:=by congr 1;omega
    rw[e2];exact Option.some.inj this
 have R:=y6 @hl (y6 @hzc (y6 @bd az))
 repeat' ((first |(with_reducible refine .guard (fun hb =>?_) (fun hb =>?_) <;>try simp only[hb])|refine U.aE (by decide +kernel) rfl fun K hK =>?_|(refine .aA [0,2,3,4,5,6,7,8,9,10,14,25,31,50] hK ?_;clear hK K)|(with_reducible refine .done (hK _ ?_);clear hK K)|refine U.of rfl ?_|(with_reducible refine au.aD (fun h =>?_) (fun h =>?_) <;>try simp only[h])) <;>try simp only[aF,R,simprocAttr])
 all_goals clear R
 refine U.loop (fun j:Nat=>ay [(0,enc (ak.of t)),(4,.own 4 out.length),(5,.int .i64 (z:Int)),(6,.int .i64 s),(7,.int .i64 (j:Int))] [(4,.bF 50 8 (out.map enc))]) (fun j=>z≤j∧j≤e) (fun j=>e-j) z ⟨Z3 _,he1⟩ ?_ ?_
 ·refine bw.cN ?_ ?_ ?_ ?_ <;>simp[cj,ct,cq,bU,aH,cg,dT,I.only,ai.only,mM,bK]
 rintro j ⟨hj1,hj2⟩;by_cases hje:j<e
 ·have hjl:j<t.length:=by omega
  have hjc:=eP hjl;have hsi:=oL t hjl;have hne:=hbelow j hjl hj1 hje;generalize t[j]=c at *;have hc:((c.toNat:Int) != 10)=true:=by
   have:¬ c.toNat=10:=fun e=>hne (UInt8.toNat_inj.1 e);simp;omega
  have hw:=eG (i:=j) (by omega);have R:=y6 @hl (y6 @hjc (y6 @hsi (y6 @hc (y6 @hw (y6 @bd az)))))
  repeat' ((first |(with_reducible refine .guard (fun hb =>?_) (fun hb =>?_) <;>try simp only[hb])|refine U.aE (by decide +kernel) rfl fun K hK =>?_|(refine .aA [0,2,3,4,5,6,7,8,9,10,14,25,31,50] hK ?_;clear hK K)|(with_reducible refine .done (hK _ ?_);clear hK K)|refine U.of rfl ?_|(with_reducible refine au.aD (fun h =>?_) (fun h =>?_) <;>try simp only[h])) <;>try simp only[aF,R,simprocAttr])
  all_goals clear R
  refine ⟨j+1,⟨by omega,by omega⟩,by omega,?_⟩;refine bw.cN ?_ ?_ ?_ ?_ <;>simp[cj,ct,cq,bU,aH,cg,dT,I.only,ai.only,mM,bK]
  all_goals rfl
 have hje':j=e:=by omega
 subst hje';rcases hat with ⟨hee,hcut⟩ | ⟨hlt,h10,hcut⟩
 ·have hjc:=fu (show ¬ j<t.length by omega);have hjl:((j:Int)==(t.length:Int))=true:=by rw[beq_iff_eq];omega
  have hF:kF t out z:=by
   have h2:=oG hk;rw[hu,sa hcut] at h2;exact ⟨by rw[hP.eq,←h2,gh],hP.len,by omega⟩
  have hsh:=hdone hF;rw[nX hF];have R:=y6 @hl (y6 @hjc (y6 @hjl (y6 @hfo (y6 @hsh (y6 @bd az)))))
  repeat' ((first |(with_reducible refine .guard (fun hb =>?_) (fun hb =>?_) <;>try simp only[hb])|refine U.aE (by decide +kernel) rfl fun K hK =>?_|(refine .aA [0,2,3,4,5,6,7,8,9,10,14,25,31,50] hK ?_;clear hK K)|(with_reducible refine .done (hK _ ?_);clear hK K)|refine U.of rfl ?_|(with_reducible refine au.aD (fun h =>?_) (fun h =>?_) <;>try simp only[h])) <;>try simp only[aF,R,simprocAttr])
  all_goals clear R
  all_goals rfl
 have hjc:=eP hlt;have hsi:=oL t hlt;rw[h10] at hsi;have hkl:k<(dm t).length:=by
  have h2:=congrArg List.length (oG hk);rw[hu,pU hcut,zx5] at h2;simp only[zz5] at h2;omega
 have hjl:((j:Int)==(t.length:Int))=false:=by rw[beq_eq_false_iff_ne];omega
 have hc:((((10:UInt8).toNat:Nat):Int) != 10)=false:=rfl;have hw:=eG (i:=j) (by omega);have hss:=DU (ak.of t) (i:=z) (j:=j+1) (by omega) (by rw[ak.c8];omega);rw[ak.c8,hri] at hss;obtain ⟨w,v,hcut2,hL,hnext,hrest⟩:=Du hkl;rw[hu] at hcut2 hrest;have hline:u.take (j+1-z)=w++[10]:=by
  rw[hcut] at hcut2;simp only[v6,Prod.mk.injEq] at hcut2;have hwl:w.length=j-z:=by rw[←hcut2.1,Z7];omega
  rw[hrest,show j+1-z=w.length+1 by omega,List.append_cons w 10 v,List.take_left' (by simp)]
 have hdrop:(dm t).drop k=(w++[10])::(dm t).drop (k+1):=by rw[List.drop_eq_getElem_cons hkl,hL]
 rw[hline] at hss;have hsz2:=hsz;rw[hrest] at hsz2;have hll:(w++[10]).length+v.length=(w++10::v).length:=by simp;omega
 have hll2:(w++[10]).length=j+1-z:=by rw[←hline,Z7];omega
 generalize hx:w++[10]=line at *;have hpe:=hP.eq;rw[hdrop] at hpe;have h32:=Fq s line (by omega);have hin:dS 0 1000002 s=true:=mz.2 (by have:=hP.sum;omega);have hkok:∀ q∈out,0≤q.bf∧q.bf≤5:=fun q hq=>lV (hP.ok q hq);cases hq:dE bg s line with
 |none =>
  rw[show fM s line=(default,0,87) by rw[fM,if_neg (by simp[hin]),hq],wR] at h32;rw[DZ hq] at hpe;have hF:kF t out z:=⟨hpe,hP.len,by omega⟩
  have hsh:=hdone hF;rw[nX hF];have R:=y6 @hl (y6 @hjc (y6 @hsi (y6 @hc (y6 @hjl (y6 @hw (y6 @hss (y6 @hfo (y6 @hsh (y6 @ef (y6 @dJ (y6 @bd az)))))))))))
  repeat' ((first |(with_reducible refine .guard (fun hb =>?_) (fun hb =>?_) <;>try simp only[hb])|refine U.aE (by decide +kernel) rfl fun K hK =>?_|refine .lead _ (h32) ?_|(refine .aA [0,2,3,4,5,6,7,8,9,10,14,25,31,50] hK ?_;clear hK K)|(with_reducible refine .done (hK _ ?_);clear hK K)|refine U.of rfl ?_|(with_reducible refine au.aD (fun h =>?_) (fun h =>?_) <;>try simp only[h])) <;>try simp only[aF,R,simprocAttr])
  all_goals clear R
  all_goals rfl
 |some q =>
  obtain ⟨r,n⟩:=q;obtain ⟨hok,_,hns⟩:=vY bg hq;simp only at hok hns;rw[show fM s line=(r,n,0) by rw[fM,if_neg (by simp[hin]),hq],wR] at h32;rw[D0 hq] at hpe;simp only at hpe;have h72:=Fw out r (by have:=hP.len;omega) hkok lV;rw[hok,Bool.true_and] at h72;cases hn:de out r
  ·rw[hn] at h72 hpe;rw[if_neg (by decide)] at hpe;have hF:kF t out z:=⟨hpe,hP.len,by omega⟩
   have hsh:=hdone hF;rw[nX hF];have R:=y6 @hl (y6 @hjc (y6 @hsi (y6 @hc (y6 @hjl (y6 @hw (y6 @hss (y6 @hfo (y6 @hsh (y6 @ef (y6 @dJ (y6 @bd az)))))))))))
   repeat' ((first |(with_reducible refine .guard (fun hb =>?_) (fun hb =>?_) <;>try simp only[hb])|refine U.aE (by decide +kernel) rfl fun K hK =>?_|refine .lead _ (h32) ?_|refine .flat _ (h72) rfl ?_|(refine .aA [0,2,3,4,5,6,7,8,9,10,14,25,31,50] hK ?_;clear hK K)|(with_reducible refine .done (hK _ ?_);clear hK K)|refine U.of rfl ?_|(with_reducible refine au.aD (fun h =>?_) (fun h =>?_) <;>try simp only[h])) <;>try simp only[aF,R,simprocAttr])
   all_goals clear R
   all_goals rfl
  ·have hol:=Bw hn;rw[hn] at h72 hpe;rw[if_pos rfl] at hpe;have hbs:gD 8 (some [enc r])=some (enc [r]):=po 8 r rfl;have hap:=fun (A:ab) d rest=>xC (A:=A) (d:=d) 50 8 72 4 (l:=out.length) (es:=out) (ys:=[r]) (rest:=rest) rfl rfl (by simp) (by simp[maxLen];omega) (by simp;omega);have R:=y6 @hl (y6 @hjc (y6 @hsi (y6 @hc (y6 @hjl (y6 @hw (y6 @hss (y6 @hfo (y6 @hbs (y6 @hap (y6 @ef (y6 @dJ (y6 @bd az))))))))))))
   repeat' ((first |(with_reducible refine .guard (fun hb =>?_) (fun hb =>?_) <;>try simp only[hb])|refine U.aE (by decide +kernel) rfl fun K hK =>?_|refine .lead _ (h32) ?_|refine .flat _ (h72) rfl ?_|(refine .aA [0,2,3,4,5,6,7,8,9,10,14,25,31,50] hK ?_;clear hK K)|(with_reducible refine .done (hK _ ?_);clear hK K)|refine U.of rfl ?_|(with_reducible refine au.aD (fun h =>?_) (fun h =>?_) <;>try simp only[h])) <;>try simp only[aF,R,simprocAttr])
   all_goals clear R
   refine ⟨(k+1,out++[r],n,j+1),⟨by simp only;omega,by rw[show j+1=z+line.length by omega];exact hpe,by rw[hns];exact mf hP.sum _,?_,by simp only[Z1,zz5,zy6];omega,by show j+1+(eh (k+1) t).length=t.length;rw[hnext];omega⟩,by simp only;omega,?_⟩
   ·intro q hq;rcases zx0.1 hq with h1 | h1
    ·exact hP.ok q h1
    ·rw[List.mem_singleton.1 h1];exact hok
   ·simp only[];refine bw.cN ?_ ?_ ?_ ?_ <;>simp[cj,ct,cq,bU,aH,cg,dT,I.only,I.cH,ai.only,mM,Xq,bK]
    all_goals rfl
def fk(a n:Int):Int:=(IntKind.i64.wrap (a.tmod n+n)).tmod n
theorem tE(a n:Int)(hn:n≠0):aM Tryz.prog 28 [enc a,enc n] (enc (fk a n)):=by
 refine aM.bL Tryz.func28 HB IV Kc (t8 rfl) (fun hwf W0 bC E1 =>?_);simp only[yD,CJ,bB,Z5];clear hwf;have R:=y6 @hn az
 repeat' ((first |refine U.aE (by decide +kernel) rfl fun K hK =>?_|(refine .aA [0,1,4] hK ?_;clear hK K)|(with_reducible refine .done (hK _ ?_);clear hK K)|refine U.of rfl ?_|(with_reducible refine au.aD (fun h =>?_) (fun h =>?_) <;>try simp only[h])) <;>try simp only[aF,R,simprocAttr])
 all_goals clear R
 all_goals rfl
theorem vv{a n:Int}(ha:-9223372036854775808≤a∧a≤9223372036854775807)(hn:0<n∧n≤4611686018427387904):fk a n=a%n:=by
 have h1:-n<a.tmod n∧a.tmod n<n:=⟨Int.lt_tmod_of_pos a hn.1,Int.tmod_lt_of_pos a hn.1⟩
 have h2:(a.tmod n+n).tmod n=a%n:=by
  rw[Int.tmod_eq_emod_of_nonneg (by omega),Int.add_emod_right];have:=Int.tmod_add_mul_tdiv a n
  conv=>rhs;rw[←this]
  rw[Int.add_mul_emod_self_left]
 have h3:=Int.emod_nonneg a (show n≠0 by omega);have h4:=Int.emod_lt_of_pos a hn.1;rw[fk,dC _ (by omega) (by omega),h2]
theorem Fh(a b:List aj)(hl:a.length≤1000000000000):aM Tryz.prog 17 [enc a,enc b] (enc (decide (a=b))):=by
 refine aM.bL Tryz.func17 Hq IH J0 (t8 rfl) (fun hwf W0 bC E1 =>?_);simp only[yq,Cx,bB,Z5];clear hwf;cases q:((a.length:Int)==(b.length:Int))
 ·have hne:decide (a=b)=false:=decide_eq_false fun e=>by rw[e] at q;simp at q
  rw[hne];by_cases h0:0<a.length
  ·have hlc:decide ((0:Int)<(a.length:Int))=true:=decide_eq_true (by omega);have R:=y6 @q az
   repeat' ((first |(with_reducible refine .guard (fun hb =>?_) (fun hb =>?_) <;>try simp only[hb])|refine U.aE (by decide +kernel) rfl fun K hK =>?_|(refine .aA [0,1,4,5,6,18] hK ?_;clear hK K)|(with_reducible refine .done (hK _ ?_);clear hK K)|refine U.of rfl ?_|(with_reducible refine au.aD (fun h =>?_) (fun h =>?_) <;>try simp only[h])) <;>try simp only[aF,R,simprocAttr])
   all_goals clear R
   refine U.loop (fun _:Unit=>ay [(0,enc a),(1,enc b),(5,.bool false),(6,.int .i64 0)] []) (fun _=>True) (fun _=>0) () trivial ?_ ?_
   ·refine bw.cN ?_ ?_ ?_ ?_ <;>simp[cj,ct,cq,bU,cg,I.only,bK]
   intro _ _;have R:=y6 @q (y6 @hlc az)
   repeat' ((first |(with_reducible refine .guard (fun hb =>?_) (fun hb =>?_) <;>try simp only[hb])|refine U.aE (by decide +kernel) rfl fun K hK =>?_|(refine .aA [0,1,4,5,6,18] hK ?_;clear hK K)|(with_reducible refine .done (hK _ ?_);clear hK K)|refine U.of rfl ?_|(with_reducible refine au.aD (fun h =>?_) (fun h =>?_) <;>try simp only[h])) <;>try simp only[aF,R,simprocAttr])
   all_goals clear R
   all_goals rfl
  ·have hlc:decide ((0:Int)<(a.length:Int))=false:=decide_eq_false (by omega);have R:=y6 @q az
   repeat' ((first |(with_reducible refine .guard (fun hb =>?_) (fun hb =>?_) <;>try simp only[hb])|refine U.aE (by decide +kernel) rfl fun K hK =>?_|(refine .aA [0,1,4,5,6,18] hK ?_;clear hK K)|(with_reducible refine .done (hK _ ?_);clear hK K)|refine U.of rfl ?_|(with_reducible refine au.aD (fun h =>?_) (fun h =>?_) <;>try simp only[h])) <;>try simp only[aF,R,simprocAttr])
   all_goals clear R
   refine U.loop (fun _:Unit=>ay [(0,enc a),(1,enc b),(5,.bool false),(6,.int .i64 0)] []) (fun _=>True) (fun _=>0) () trivial ?_ ?_
   ·refine bw.cN ?_ ?_ ?_ ?_ <;>simp[cj,ct,cq,bU,cg,I.only,bK]
   intro _ _;have R:=y6 @q (y6 @hlc az)
   repeat' ((first |(with_reducible refine .guard (fun hb =>?_) (fun hb =>?_) <;>try simp only[hb])|refine U.aE (by decide +kernel) rfl fun K hK =>?_|(refine .aA [0,1,4,5,6,18] hK ?_;clear hK K)|(with_reducible refine .done (hK _ ?_);clear hK K)|refine U.of rfl ?_|(with_reducible refine au.aD (fun h =>?_) (fun h =>?_) <;>try simp only[h])) <;>try simp only[aF,R,simprocAttr])
   all_goals clear R
   all_goals rfl
 have hlen:a.length=b.length:=by have:=eq_of_beq q;omega
 have R:=y6 @q az
 repeat' ((first |(with_reducible refine .guard (fun hb =>?_) (fun hb =>?_) <;>try simp only[hb])|refine U.aE (by decide +kernel) rfl fun K hK =>?_|(refine .aA [0,1,4,5,6,18] hK ?_;clear hK K)|(with_reducible refine .done (hK _ ?_);clear hK K)|refine U.of rfl ?_|(with_reducible refine au.aD (fun h =>?_) (fun h =>?_) <;>try simp only[h])) <;>try simp only[aF,R,simprocAttr])
 all_goals clear R
 refine U.loop (fun x:Nat×Bool=>ay [(0,enc a),(1,enc b),(5,.bool x.2),(6,.int .i64 x.1)] []) (fun x=>x.1≤a.length∧(x.2=true→a.take x.1=b.take x.1)∧(x.2=false→a≠b)) (fun x=>a.length-x.1) (0,true) ⟨Nat.zero_le _,by simp,by simp⟩ ?_ ?_
 ·refine bw.cN ?_ ?_ ?_ ?_ <;>simp[cj,ct,cq,bU,cg,I.only,bK]
 rintro ⟨i,t⟩ ⟨hi,h1,h2⟩;simp only at hi h1 h2 ⊢;cases t
 ·have hne:decide (a=b)=false:=decide_eq_false (h2 rfl);rw[hne];by_cases h0:i<a.length
  ·have hlc:=eP h0;have R:=y6 @hlc az
   repeat' ((first |(with_reducible refine .guard (fun hb =>?_) (fun hb =>?_) <;>try simp only[hb])|refine U.aE (by decide +kernel) rfl fun K hK =>?_|(refine .aA [0,1,4,5,6,18] hK ?_;clear hK K)|(with_reducible refine .done (hK _ ?_);clear hK K)|refine U.of rfl ?_|(with_reducible refine au.aD (fun h =>?_) (fun h =>?_) <;>try simp only[h])) <;>try simp only[aF,R,simprocAttr])
   all_goals clear R
   all_goals rfl
  ·have hlc:=fu h0;have R:=y6 @hlc az
   repeat' ((first |(with_reducible refine .guard (fun hb =>?_) (fun hb =>?_) <;>try simp only[hb])|refine U.aE (by decide +kernel) rfl fun K hK =>?_|(refine .aA [0,1,4,5,6,18] hK ?_;clear hK K)|(with_reducible refine .done (hK _ ?_);clear hK K)|refine U.of rfl ?_|(with_reducible refine au.aD (fun h =>?_) (fun h =>?_) <;>try simp only[h])) <;>try simp only[aF,R,simprocAttr])
   all_goals clear R
   all_goals rfl
 by_cases hlt:i<a.length
 ·have hlc:=eP hlt;have he:=fun A=>fJ (A:=A) 8 hlt rfl;have he2:=fun A=>fJ (A:=A) (l:=b) (k:=i) 8 (by omega) rfl;have hw:=eG (i:=i) (by omega);have e1:=jy hlt;have e2:=jy (l:=b) (i:=i) (by omega);have hg:a=b→a[i]=b[i]'(by omega):=fun e=>by subst e;rfl
  have h1':=h1 rfl;generalize a[i]=r at *;generalize (b[i]'(by omega))=r' at *;have R:=y6 @hlc (y6 @he (y6 @he2 (y6 @hw az)))
  repeat' ((first |(with_reducible refine .guard (fun hb =>?_) (fun hb =>?_) <;>try simp only[hb])|refine U.aE (by decide +kernel) rfl fun K hK =>?_|(refine .aA [0,1,4,5,6,18] hK ?_;clear hK K)|(with_reducible refine .done (hK _ ?_);clear hK K)|refine U.of rfl ?_|(with_reducible refine au.aD (fun h =>?_) (fun h =>?_) <;>try simp only[h])) <;>try simp only[aF,R,simprocAttr])
  all_goals clear R
  refine ⟨(i+1,decide (r=r')),⟨by simp only;omega,fun h =>?_,fun h =>?_⟩,by simp only;omega,?_⟩
  ·simp only at h ⊢;rw[e1,e2,h1',of_decide_eq_true h]
  ·simp only at h;exact fun e=>of_decide_eq_false h (hg e)
  ·clear hg h1 h2 h1';refine bw.cN ?_ ?_ ?_ ?_ <;>simp[cj,ct,cq,bU,cg,I.only,bK]
   all_goals rfl
 ·have hlc:=fu hlt;have heq:a=b:=by
   have:=h1 rfl
   rwa [List.take_of_length_le (by omega),List.take_of_length_le (by omega)] at this
  rw[decide_eq_true heq];have R:=y6 @hlc az
  repeat' ((first |(with_reducible refine .guard (fun hb =>?_) (fun hb =>?_) <;>try simp only[hb])|refine U.aE (by decide +kernel) rfl fun K hK =>?_|(refine .aA [0,1,4,5,6,18] hK ?_;clear hK K)|(with_reducible refine .done (hK _ ?_);clear hK K)|refine U.of rfl ?_|(with_reducible refine au.aD (fun h =>?_) (fun h =>?_) <;>try simp only[h])) <;>try simp only[aF,R,simprocAttr])
  all_goals clear R
  all_goals rfl
def cI.small(r:cI):Prop:=r.bD.length≤140737488351232∧r.cE.length≤140737488351232
def cP.small(r:cP):Prop:=r.cK.small∧r.copy.small
def cI.all(r:cI):List UInt8:=r.bD++r.cE
theorem cI.nF{r:cI}(h:r.small):r.all.length≤281474976710656:=by
 have:=h.1;have:=h.2;rw[cI.all,Z1];omega
theorem eW:I.agg [.ah ⟨#[]⟩,.ah ⟨#[]⟩]=enc (⟨[],[]⟩:cI):=rfl
theorem rA:I.agg [.agg [.ah ⟨#[]⟩,.ah ⟨#[]⟩],.agg [.ah ⟨#[]⟩,.ah ⟨#[]⟩]]=enc (⟨⟨[],[]⟩,⟨[],[]⟩⟩:cP):=rfl
theorem iu:I.agg [enc (⟨[],[]⟩:cI),enc (⟨[],[]⟩:cI)]=enc (⟨⟨[],[]⟩,⟨[],[]⟩⟩:cP):=rfl
theorem ej:(∀ A n b rest (q r:cI),ev A (some 2) n [] b (enc q) rest (some (enc r))=aq rest (A.aP n (.box (enc q))))∧(∀ A n b rest (q r:cP),ev A (some 4) n [] b (enc q) rest (some (enc r))=aq rest (A.aP n (.box (enc q)))) ∧
  (∀ A n rest (q r:cI) (s:cP),ev A (some 2) n [0] (enc s) (enc q) rest (some (enc r))=aq rest (A.aP n (.box (enc (⟨q,s.copy⟩:cP)))))∧(∀ A n rest (q r:cI) (s:cP),ev A (some 2) n [1] (enc s) (enc q) rest (some (enc r))=aq rest (A.aP n (.box (enc (⟨s.cK,q⟩:cP))))) :=
 ⟨fun A n b rest q r=>by rw[fq (fh _) (by rw[ir];rfl) ((eD _).trans (eD _).symm),fo],
  fun A n b rest q r=>by rw[fq (fh _) (by rw[ir];rfl) ((eD _).trans (eD _).symm),fo],
  fun A n rest q r s=>by rw[fq (fh _) (by rw[ir];rfl) ((eD _).trans (eD _).symm)];rfl,
  fun A n rest q r s=>by rw[fq (fh _) (by rw[ir];rfl) ((eD _).trans (eD _).symm)];rfl⟩
theorem gl:(∀ x:List UInt8,fp [.ah ⟨#[]⟩,.ah ⟨#[]⟩] [(0,enc (ak.of x))]=some [enc (ak.of x),enc (ak.of [])])∧(∀ x:List UInt8,I.agg [enc (ak.of x),enc (ak.of [])]=enc (⟨x,[]⟩:cI)) ∧
  (∀ p q:cI,fp [.agg [.ah ⟨#[]⟩,.ah ⟨#[]⟩],.agg [.ah ⟨#[]⟩,.ah ⟨#[]⟩]] [(0,enc p),(1,enc q)]=some [enc p,enc q])∧(∀ p q:cI,I.agg [enc p,enc q]=enc (⟨p,q⟩:cP)) ∧
  (∀ p q:cI,fp [enc (⟨[],[]⟩:cI),enc (⟨[],[]⟩:cI)] [(0,enc p),(1,enc q)]=some [enc p,enc q]) :=
 ⟨fun _=>rfl,fun _=>rfl,fun _ _=>rfl,fun _ _=>rfl,fun _ _=>rfl⟩
theorem oZ(r:cI)(h:r.small):aM Tryz.prog 73 [enc r] (enc (ak.of r.all)):=by
 refine aM.bL Tryz.func73 HO I6 Ko (t8 rfl) (fun hwf W0 bC E1 =>?_);simp only[yN,CU,bB];clear hwf;have ha:=dV r.bD r.cE (by have:=h.1;have:=h.2;omega);have R:=y6 @ha (y6 @bd az)
 repeat' ((first |refine U.aE (by decide +kernel) rfl fun K hK =>?_|(refine .aA [0,1,2] hK ?_;clear hK K)|(with_reducible refine .done (hK _ ?_);clear hK K)|refine U.of rfl ?_|(with_reducible refine au.aD (fun h =>?_) (fun h =>?_) <;>try simp only[h])) <;>try simp only[aF,R,simprocAttr])
 all_goals clear R
 all_goals rfl
def ma(r:cP):cP:=⟨⟨r.cK.all,[]⟩,⟨r.cK.all,[]⟩⟩
theorem xe(r:cP)(h:r.small):aM Tryz.prog 20 [enc r] (enc (ma r)):=by
 refine aM.bL Tryz.func20 Hv IN J6 (t8 rfl) (fun hwf W0 bC E1 =>?_);simp only[c20,CD,bB];clear hwf;have f:=oZ r.cK h.1;have R:=y6 @gl (y6 @eW (y6 @iu (y6 @ej (y6 @bd az))))
 repeat' ((first |refine U.aE (by decide +kernel) rfl fun K hK =>?_|refine .flat _ (f) rfl ?_|(refine .aA [0,1,2,3] hK ?_;clear hK K)|(with_reducible refine .done (hK _ ?_);clear hK K)|refine U.of rfl ?_|(with_reducible refine au.aD (fun h =>?_) (fun h =>?_) <;>try simp only[h])) <;>try simp only[aF,R,simprocAttr])
 all_goals clear R
 all_goals rfl
theorem Fl(r:cP)(h:r.small):aM Tryz.prog 21 [enc r] (enc (ma r)):=by
 refine aM.bL Tryz.func21 Hw IP J7 (t8 rfl) (fun hwf W0 bC E1 =>?_);simp only[c21,CE,bB];clear hwf;have ha:=dV r.cK.bD r.cK.cE (by have:=h.1.1;have:=h.1.2;omega);have R:=y6 @ha (y6 @gl (y6 @eW (y6 @iu (y6 @ej (y6 @bd az)))))
 repeat' ((first |refine U.aE (by decide +kernel) rfl fun K hK =>?_|(refine .aA [0,1,2,3] hK ?_;clear hK K)|(with_reducible refine .done (hK _ ?_);clear hK K)|refine U.of rfl ?_|(with_reducible refine au.aD (fun h =>?_) (fun h =>?_) <;>try simp only[h])) <;>try simp only[aF,R,simprocAttr])
 all_goals clear R
 all_goals rfl
def lH(r:cP)(copy:Bool):cP:=if copy then ⟨r.cK,⟨[],[]⟩⟩ else ⟨⟨[],[]⟩,r.copy⟩
theorem tD(r:cP)(b:Bool):aM Tryz.prog 24 [enc r,enc b] (enc (lH r b)):=by
 refine aM.bL Tryz.func24 Hz IT Ka (t8 rfl) (fun hwf W0 bC E1 =>?_);simp only[yB,CH,bB,Z5];clear hwf;cases b
 ·have R:=y6 @eW (y6 @iu (y6 @ej (y6 @bd az)))
  repeat' ((first |refine U.aE (by decide +kernel) rfl fun K hK =>?_|(refine .aA [0,1,2,4,5] hK ?_;clear hK K)|(with_reducible refine .done (hK _ ?_);clear hK K)|refine U.of rfl ?_|(with_reducible refine au.aD (fun h =>?_) (fun h =>?_) <;>try simp only[h])) <;>try simp only[aF,R,simprocAttr])
  all_goals clear R
  all_goals rfl
 ·have R:=y6 @eW (y6 @iu (y6 @ej (y6 @bd az)))
  repeat' ((first |refine U.aE (by decide +kernel) rfl fun K hK =>?_|(refine .aA [0,1,2,4,5] hK ?_;clear hK K)|(with_reducible refine .done (hK _ ?_);clear hK K)|refine U.of rfl ?_|(with_reducible refine au.aD (fun h =>?_) (fun h =>?_) <;>try simp only[h])) <;>try simp only[aF,R,simprocAttr])
  all_goals clear R
  all_goals rfl
theorem xf(r:cP)(b:Bool):aM Tryz.prog 25 [enc r,enc b] (enc (lH r b)):=by
 refine aM.bL Tryz.func25 HA IU Kb (t8 rfl) (fun hwf W0 bC E1 =>?_);simp only[yC,CI,bB,Z5];clear hwf;cases b
 ·have R:=y6 @eW (y6 @iu (y6 @ej (y6 @bd az)))
  repeat' ((first |refine U.aE (by decide +kernel) rfl fun K hK =>?_|(refine .aA [0,1,2,4,5] hK ?_;clear hK K)|(with_reducible refine .done (hK _ ?_);clear hK K)|refine U.of rfl ?_|(with_reducible refine au.aD (fun h =>?_) (fun h =>?_) <;>try simp only[h])) <;>try simp only[aF,R,simprocAttr])
  all_goals clear R
  all_goals rfl
 ·have R:=y6 @eW (y6 @iu (y6 @ej (y6 @bd az)))
  repeat' ((first |refine U.aE (by decide +kernel) rfl fun K hK =>?_|(refine .aA [0,1,2,4,5] hK ?_;clear hK K)|(with_reducible refine .done (hK _ ?_);clear hK K)|refine U.of rfl ?_|(with_reducible refine au.aD (fun h =>?_) (fun h =>?_) <;>try simp only[h])) <;>try simp only[aF,R,simprocAttr])
  all_goals clear R
  all_goals rfl
def gK(r:cP):cP×List aj:=(⟨⟨(oA bg de r.cK.all r.copy.all).2,[]⟩,⟨(oA bg de r.cK.all r.copy.all).2,[]⟩⟩,(oA bg de r.cK.all r.copy.all).1)
theorem DY(t:List UInt8):(gz bg de t).2.length≤t.length:=by rw[gz];simp;omega
theorem oY(r:cP)(h:r.small):aM Tryz.prog 18 [enc r] (.tuple [enc (gK r).1,enc (gK r).2]):=by
 refine aM.bL Tryz.func18 Hs IK J3 (t8 rfl) (fun hwf W0 bC E1 =>?_);simp only[yu,CA,bB];clear hwf;have f1:=oZ r.cK h.1;have f2:=oZ r.copy h.2;have g1:=w9 r.cK.all (cI.nF h.1);have g2:=w9 r.copy.all (cI.nF h.2);have l1:=DY r.cK.all;have l2:=DY r.copy.all;have:=cI.nF h.1;have:=cI.nF h.2;have h74:=fun (x:List UInt8) (hx:x.length≤281474976710656)=>Fx (ak.of x) (by rw[ak.c8];exact hx);simp only[gK,oA];generalize gz bg de r.cK.all=p at *;generalize gz bg de r.copy.all=q at *;by_cases hlt:p.1.length<q.1.length
 ·have hc:decide ((q.1.length:Int)>(p.1.length:Int))=true:=decide_eq_true (by omega);have h74':=h74 q.2 (by omega);simp only[if_pos hlt];have R:=y6 @hc (y6 @gl (y6 @eW (y6 @iu (y6 @ej (y6 @bd az)))))
  repeat' ((first |refine U.aE (by decide +kernel) rfl fun K hK =>?_|refine .flat _ (f1) rfl ?_|refine .lead _ (g1) ?_|refine .flat _ (f2) rfl ?_|refine .lead _ (g2) ?_|refine .flat _ (h74') rfl ?_|(refine .aA [0,1,2,3,4,5,6,7,8,27] hK ?_;clear hK K)|(with_reducible refine .done (hK _ ?_);clear hK K)|refine U.of rfl ?_|(with_reducible refine au.aD (fun h =>?_) (fun h =>?_) <;>try simp only[h])) <;>try simp only[aF,R,simprocAttr])
  all_goals clear R
  all_goals rfl
 ·have hc:decide ((q.1.length:Int)>(p.1.length:Int))=false:=decide_eq_false (by omega);have h74':=h74 p.2 (by omega);simp only[if_neg hlt];have R:=y6 @hc (y6 @gl (y6 @eW (y6 @iu (y6 @ej (y6 @bd az)))))
  repeat' ((first |refine U.aE (by decide +kernel) rfl fun K hK =>?_|refine .flat _ (f1) rfl ?_|refine .lead _ (g1) ?_|refine .flat _ (f2) rfl ?_|refine .lead _ (g2) ?_|refine .flat _ (h74') rfl ?_|(refine .aA [0,1,2,3,4,5,6,7,8,27] hK ?_;clear hK K)|(with_reducible refine .done (hK _ ?_);clear hK K)|refine U.of rfl ?_|(with_reducible refine au.aD (fun h =>?_) (fun h =>?_) <;>try simp only[h])) <;>try simp only[aF,R,simprocAttr])
  all_goals clear R
  all_goals rfl
theorem Fk(r:cP)(h:r.small):aM Tryz.prog 19 [enc r] (.tuple [enc (gK r).1,enc (gK r).2]):=by
 refine aM.bL Tryz.func19 Hu IM J5 (t8 rfl) (fun hwf W0 bC E1 =>?_);simp only[yx,CC,bB];clear hwf;have a1:=dV r.cK.bD r.cK.cE (by have:=h.1.1;have:=h.1.2;omega);have a2:=dV r.copy.bD r.copy.cE (by have:=h.2.1;have:=h.2.2;omega);have g1:=xb r.cK.all (cI.nF h.1);have g2:=xb r.copy.all (cI.nF h.2);simp only[gK,oA];rw[show r.cK.bD++r.cK.cE=r.cK.all from rfl] at a1;rw[show r.copy.bD++r.copy.cE=r.copy.all from rfl] at a2;generalize gz bg de r.cK.all=p at *;generalize gz bg de r.copy.all=q at *;by_cases hlt:p.1.length<q.1.length
 ·have hc:decide ((q.1.length:Int)>(p.1.length:Int))=true:=decide_eq_true (by omega);simp only[if_pos hlt];have R:=y6 @a1 (y6 @a2 (y6 @hc (y6 @gl (y6 @eW (y6 @iu (y6 @ej (y6 @bd az)))))))
  repeat' ((first |refine U.aE (by decide +kernel) rfl fun K hK =>?_|refine .lead _ (g1) ?_|refine .lead _ (g2) ?_|(refine .aA [0,1,2,3,4,5,6,7,8,35] hK ?_;clear hK K)|(with_reducible refine .done (hK _ ?_);clear hK K)|refine U.of rfl ?_|(with_reducible refine au.aD (fun h =>?_) (fun h =>?_) <;>try simp only[h])) <;>try simp only[aF,R,simprocAttr])
  all_goals clear R
  all_goals rfl
 ·have hc:decide ((q.1.length:Int)>(p.1.length:Int))=false:=decide_eq_false (by omega);simp only[if_neg hlt];have R:=y6 @a1 (y6 @a2 (y6 @hc (y6 @gl (y6 @eW (y6 @iu (y6 @ej (y6 @bd az)))))))
  repeat' ((first |refine U.aE (by decide +kernel) rfl fun K hK =>?_|refine .lead _ (g1) ?_|refine .lead _ (g2) ?_|(refine .aA [0,1,2,3,4,5,6,7,8,35] hK ?_;clear hK K)|(with_reducible refine .done (hK _ ?_);clear hK K)|refine U.of rfl ?_|(with_reducible refine au.aD (fun h =>?_) (fun h =>?_) <;>try simp only[h])) <;>try simp only[aF,R,simprocAttr])
  all_goals clear R
  all_goals rfl
end Go.Proofs.YtoffnnjbplgnaaaGreatDoor
namespace Go.Abs
open Go Go.RowKit Go.ChangeShapes
open Enc (enc)
def xq(P:Program)(u:TypeId)(n:Nat)(S:I→Prop):Prop:=P.cellsOf u=n ∧
 ∀ {H:Type} {enc0:TypeId×Value→H} {w:World} {fuel:Nat} {cs:List Value} {x:DataW H×List MemPlace},DataW.trod enc0 P w 0 (fun _=>true) true fuel u cs=some x→(∀ k∈x.1.weights P u,k≤reachBytes)→∃ v,S v∧ae w (jz w) cm v cs
theorem iJ.bh{P:Program}{u:TypeId}{α:Type}[Enc α]{B:α→Prop}(h:iJ P u α B):xq P u (Enc.sz α) fun v=>∃ a:α,B a∧v=enc a :=
 ⟨h.cells,fun hx hw=>by obtain ⟨a,hB,ha⟩:=h.mN hx hw;exact ⟨enc a,⟨a,hB,rfl⟩,ha⟩⟩
def oy(P:Program):Nat→List (TypeId×Nat)→List (Nat×(I→Prop))→Prop
 |_,[],[]=>True
 |o,(u,off)::l,(n,S)::Ss=>off=o∧xq P u n S∧oy P (o+n) l Ss
 |_,_,_=>False
theorem zY{P:Program}{H:Type}{enc0:TypeId×Value→H}{w:World}{m:Nat}{cs:List Value} : ∀ (l:List (TypeId×Nat)) (Ss:List (Nat×(I→Prop))) (o:Nat),oy P o l Ss→cs.length=o+qF Ss →
  (∀ (i:Nat) (u:TypeId) (off:Nat),l[i]?=some (u,off)→∃ y,DataW.trod enc0 P w 0 (fun _=>true) true m u ((cs.drop off).take (P.cellsOf u))=some y∧∀ k∈y.1.weights P u,k≤reachBytes)→∃ vs,nE Ss vs∧aB w (jz w) cm vs (cs.drop o)
 | [],[],o,_,hl,_=>⟨[],trivial,by simp only[aB];exact List.drop_eq_nil_of_le (by simp only[qF] at hl;omega)⟩
 |(u,off)::l,(n,S)::Ss,o,h,hl,hf=>by
  obtain ⟨rfl,h2,h3⟩:=h;obtain ⟨y,hy,hyw⟩:=hf 0 u off rfl;obtain ⟨v,hv1,hv2⟩:=h2.2 hy hyw;obtain ⟨vs,k1,k2⟩:=zY l Ss (off+n) h3 (by simp only[qF] at hl;omega) fun i u' o' hi=>hf (i+1) u' o' hi;refine ⟨v::vs,⟨hv1,k1⟩,?_⟩;simp only[aB];rw[h2.1] at hv2;exact ⟨_,(cs.drop off).drop n,(List.take_append_drop n _).symm,hv2,by rw[List.drop_drop];exact k2⟩
 | [],_::_,_,h,_,_=>h.elim
 |_::_,[],_,h,_,_=>by simp[oy] at h
theorem BS{P:Program}{t:TypeId}{H:Type}{enc0:TypeId×Value→H}{w:World}{fuel:Nat}{cs:List Value}{x:DataW H×List MemPlace}(l:List (TypeId×Nat))(Ss:List (Nat×(I→Prop)))(ht:r0 P t l=true)(hok:oy P 0 l Ss)(hc:P.cellsOf t=qF Ss)(h:DataW.trod enc0 P w 0 (fun _=>true) true fuel t cs=some x)(hw:∀ k∈x.1.weights P t,k≤reachBytes) :
  ∃ vs,nE Ss vs∧ae w (jz w) cm (.agg vs) cs:=by
 obtain ⟨hl,m,hf⟩:=YQ ht h hw;obtain ⟨vs,k1,k2⟩:=zY l Ss 0 hok (by rw[hl,hc];omega) hf;exact ⟨vs,k1,by simpa only[ae,List.drop_zero] using k2⟩
theorem Xu{P:Program}{t:TypeId}(ht:P.underlying t=some .string)(hc:P.cellsOf t=1):iJ P t ak fun s=>s.l.length≤140737488351232 :=
 ⟨hc,Nat.one_pos,fun {H enc0 w fuel cs x} h hw=>by
  obtain ⟨s,rfl,rfl,hs⟩:=DataW.trod_string ht h;refine ⟨⟨s⟩,?_,?_⟩
  ·have:=hw s.data.toList.length (by simp[DataW.weights]);exact this
  ·show ae _ _ _ (.ah s) _
   simp only[ae,true_and];exact hs⟩
theorem Xw{P:Program}{t:TypeId}{α:Type}[Enc α]{B:α→Prop}{H:Type}{enc0:TypeId×Value→H}{w:World}{dM:Nat}{v:Value}{d:DataW H}{p:List MemPlace}(ho:iJ P t α B)(hA:Enc.gq α=false)(hst:(match P.underlying t with | some (.slice _) | some (.int _) | some .bool | some .string=>true | _=>false)=true)(hv:Value.okWide P w .any dM t v)
  (h:DataW.Trod enc0 P w 0 (fun _=>true) true t v d p) (hwt:∀ k∈d.weights P t,k≤reachBytes):∃ (a:α),B a∧∃ (cs:List Value),aX (enc a) v cs∧ae w (jz w) cm (enc a) cs:=by
 obtain ⟨fuel,h⟩:=h;have hone:v.cells.toList=[v]:=by
  unfold Value.okWide at hv;split at hst
  ·rename_i e ht;rw[ht] at hv;simp only[Cell.okWide,ht] at hv;cases v <;>simp_all[Cell.ok,Value.cells]
  ·rename_i e ht;rw[ht] at hv;simp only[Cell.okWide,ht] at hv;cases v <;>simp_all[Cell.ok,Value.cells]
  ·rename_i ht;rw[ht] at hv;simp only[Cell.okWide,ht] at hv;cases v <;>simp_all[Cell.ok,Value.cells]
  ·rename_i ht;rw[ht] at hv;simp only[Cell.okWide,ht] at hv;cases v <;>simp_all[Cell.ok,Value.cells]
  ·cases hst
 rw[hone] at h;obtain ⟨a,hB,ha⟩:=ho.mN h hwt;exact ⟨a,hB,[v],by simp[aX,Enc.agg,hA],ha⟩
end Go.Abs
namespace Go.Proofs.YtoffnnjbplgnaaaGreatDoor
open Go Go.Abs Go.ChangeShapes Go.WideShapes Go.RowKit
open Go.Abs.Enc (enc)
theorem Tryz.own:ownKnob Tryz.prog.godebug=none:=by kernel_rfl
theorem Tryz.VG:laidOutB Tryz.prog=true:=by kernel_rfl
theorem Wq:qT Tryz.prog 3 Int:=Xy (by kernel_rfl) (by kernel_rfl)
theorem Gm:iJ Tryz.prog 3 Int fun _=>True:=Wq.Xs
theorem xJ:iJ Tryz.prog 9 ak fun s=>s.l.length≤140737488351232:=Xu (by kernel_rfl) (by kernel_rfl)
theorem GR:Tryz.prog.bytesOf 3=8:=by kernel_rfl
theorem Gn:iJ Tryz.prog 32 (List Int) fun l=>l.length*8≤reachBytes:=by
 have h:=Xt (P:=Tryz.prog) (t:=32) (e:=3) (by kernel_rfl) Gm (by kernel_rfl);exact ⟨h.cells,h.sI,fun hx hw=>by
  obtain ⟨a,⟨-,h2⟩,h3⟩:=h.mN hx hw;rw[GR] at h2;exact ⟨a,h2,h3⟩⟩
theorem xI:iJ Tryz.prog 29 cI fun a=>a.small:=⟨by kernel_rfl,by decide,fun h hw=>by
 obtain ⟨vs,hv,hr⟩:=BS [(9,0),(9,1)]
  [(1,fun v=>∃ a:ak,a.l.length≤140737488351232∧v=enc a),(1,fun v=>∃ a:ak,a.l.length≤140737488351232∧v=enc a)]
  (by kernel_rfl) (by simp only[oy];exact ⟨trivial,xJ.bh,trivial,xJ.bh,trivial⟩) (by kernel_rfl) h hw
 obtain ⟨v0,vs0,e0,h0,hv0⟩:=qX hv;obtain ⟨a0,p0,f0⟩:∃ a:ak,a.l.length≤140737488351232∧v0=enc a:=h0;obtain ⟨v1,vs1,e1,h1,hv1⟩:=qX hv0;obtain ⟨a1,p1,f1⟩:∃ a:ak,a.l.length≤140737488351232∧v1=enc a:=h1;have e2:=xA hv1;rw[e0,e1,e2,f0,f1] at hr;refine ⟨⟨a0.l,a1.l⟩,⟨p0,p1⟩,?_⟩;exact hr⟩
theorem Gp:iJ Tryz.prog 31 cP fun a=>a.small:=⟨by kernel_rfl,by decide,fun h hw=>by
 obtain ⟨vs,hv,hr⟩:=BS [(29,0),(29,2)]
  [(2,fun v=>∃ a:cI,a.small∧v=enc a),(2,fun v=>∃ a:cI,a.small∧v=enc a)]
  (by kernel_rfl) (by simp only[oy];exact ⟨trivial,xI.bh,trivial,xI.bh,trivial⟩) (by kernel_rfl) h hw
 obtain ⟨v0,vs0,e0,h0,hv0⟩:=qX hv;obtain ⟨a0,p0,f0⟩:∃ a:cI,a.small∧v0=enc a:=h0;obtain ⟨v1,vs1,e1,h1,hv1⟩:=qX hv0;obtain ⟨a1,p1,f1⟩:∃ a:cI,a.small∧v1=enc a:=h1;have e2:=xA hv1;rw[e0,e1,e2,f0,f1] at hr;refine ⟨⟨a0,a1⟩,⟨p0,p1⟩,?_⟩;exact hr⟩
theorem Yy{w:World}{D:aI}{E:aO}{x y:I}{a b:Value}(hx:∃ cs,aX x a cs∧ae w D E x cs)(hy:∃ cs,aX y b cs∧ae w D E y cs):al w D E [x,y] [a,b]:=by
 obtain ⟨c1,h1,h2⟩:=hx;obtain ⟨c2,h3,h4⟩:=hy;simp only[al];exact ⟨a,[b],c1,rfl,h1,h2,b,[],c2,rfl,h3,h4,rfl⟩
def jm : List (String × DataW Unit) := [("math/bits.deBruijn32tab", Rows.laid_math_bits_deBruijn32tab), ("math/bits.deBruijn64tab", Rows.laid_math_bits_deBruijn64tab), ("internal/strconv.uint64pow10", Rows.laid_internal_strconv_uint64pow10), ("strconv.ErrRange", Rows.laid_strconv_ErrRange), ("strconv.ErrSyntax", Rows.laid_strconv_ErrSyntax)]
def EN:List Int:=[1,10,100,1000,10000,100000,1000000,10000000,100000000,1000000000,10000000000,100000000000,1000000000000,10000000000000,100000000000000,1000000000000000,10000000000000000,100000000000000000,1000000000000000000,10000000000000000000]
theorem Ua : Tryz.prog.globalNamed "internal/strconv.uint64pow10" = some 3 := by kernel_rfl
theorem YV:(Tryz.prog.globals[3]?).map (·.type)=some 256:=by kernel_rfl
theorem T9 : Tryz.prog.globalNamed "internal/bytealg.MaxLen" = some 0 := by kernel_rfl
theorem De:((begin Tryz.prog (fun _ _=>0) default).world.heap[0]?).bind Obj.row?=some (#[.int .i64 0],3):=by kernel_rfl
theorem Uc : Tryz.prog.globalNamed "strconv.ErrSyntax" = some 1 := by kernel_rfl
theorem Ub : Tryz.prog.globalNamed "strconv.ErrRange" = some 2 := by kernel_rfl
theorem Eu:(Tryz.prog.globals[1]?).map (·.type)=some 199∧(Tryz.prog.globals[2]?).map (·.type)=some 199:=⟨by kernel_rfl,by kernel_rfl⟩
theorem AL:(match Tryz.prog.underlying 199 with | some (.interface _)=>true | _=>false)=true:=by kernel_rfl
theorem Wb {W : World} (hsh : W.ShapedOpen Tryz.prog) : ∃ v, W.var? Tryz.prog "internal/bytealg.MaxLen" = some v ∧ r4 .int v := by
 obtain ⟨m,hm⟩:=cell_of_shapedOpen_int (k:=.i64) hsh (show 0<Tryz.prog.globals.size from of_decide_eq_true (by kernel_rfl)) De rfl (by kernel_rfl) (by kernel_rfl) (by kernel_rfl);obtain ⟨cs,hh,hs,_⟩:=hsh.1 0 _ _ (show 0<Tryz.prog.globals.size from of_decide_eq_true (by kernel_rfl)) De;refine ⟨cs,?_,m,?_⟩
 ·unfold World.var?;rw[T9];simp only[zx1];revert hh;cases hb:W.heap[0]? with
  |none=>intro hh;simp at hh
  |some o =>
   intro hh;cases o <;>simp[] at hh
   simp[hh]
 ·have h1:cs.size=1:=hs;have hcell:W.cell? ⟨0,0,none⟩=cs[0]?:=by
   unfold World.cell?;revert hh;cases hb:W.heap[0]? with
   |none=>intro hh;simp at hh
   |some o =>
    intro hh;cases o <;>simp[] at hh
    rw[←hh.1];rfl
  rw[hcell] at hm;apply Array.ext
  ·simp[h1]
  ·intro i h2 h3;obtain rfl:i=0:=by simp at h3;omega
   have:=(zz3.1 hm).2;simpa using this
theorem zT {W : World} (h : laidMet Tryz.prog jm W) {n : String} {text : List UInt8} {g : Nat} (hn : (n, DataW.iface "*errors.errorString" (.ptr (.agg [.lit (.string text)]))) ∈ jm) (hg : Tryz.prog.globalNamed n = some g) (ht : (Tryz.prog.globals[g]?).map (·.type) = some 199) :
  ∃ v,W.var? Tryz.prog n=some v∧r4 .nS v:=by
 obtain ⟨g',t',cs,fuel,p,hg',ht',hvar,hd⟩:=Lib.laidMet.reads h hn;obtain rfl:=Option.some.inj (hg.symm.trans hg');obtain rfl:=Option.some.inj (ht.symm.trans ht');cases hi:Tryz.prog.underlying 199 with
 |none=>have:=AL;rw[hi] at this;cases this
 |some d =>
  cases d <;>(try (have:=AL;rw[hi] at this;cases this;done))
  obtain ⟨_,u,v,hcs,_,_⟩:=iface_of_trod hi hd;refine ⟨cs,hvar,u,v,?_⟩;apply Array.ext';simpa using hcs
theorem Xf{W:World}(h:laidMetH Tryz.prog jm W)(hsh:W.ShapedOpen Tryz.prog):eB Tryz.prog W (fun _=>False):=by
 rw[MakeChecks.laidMetH_plain _ _ _ (by kernel_rfl)] at h;intro q hq g hg;refine ⟨id,?_⟩;simp only[mE,zx4,List.not_mem_nil,or_false] at hq;rcases hq with rfl | rfl | rfl | rfl
 ·obtain ⟨g', t', cs, fuel, p, hg', ht', hvar, hd⟩ := Lib.laidMet.reads h (n := "internal/strconv.uint64pow10") (d := Rows.laid_internal_strconv_uint64pow10) (by simp [jm])
  obtain rfl:=Option.some.inj (Ua.symm.trans hg');obtain rfl:=Option.some.inj (YV.symm.trans ht');have hd':DataW.trod (fun _=>()) Tryz.prog W 0 (fun _=>true) false fuel 256 cs.toList=some (Lib.tabData .u64 EN,p):=hd;have hc:=Lib.cells_of_tab (n:=20) (e:=227) (Vq (by kernel_rfl)) (by kernel_rfl) (by kernel_rfl) (by kernel_rfl) hd';refine ⟨cs,hvar,?_⟩
  show cs=AZ
  have:cs=(EN.map fun z=>Value.int .u64 z).toArray:=by rw[←hc]
  rw[this];rfl
 ·exact Wb hsh
 ·exact zT h (n := "strconv.ErrSyntax") (text := [105, 110, 118, 97, 108, 105, 100, 32, 115, 121, 110, 116, 97, 120]) (by simp [jm, Rows.laid_strconv_ErrSyntax]) Uc Eu.1
 ·exact zT h (n := "strconv.ErrRange") (text := [118, 97, 108, 117, 101, 32, 111, 117, 116, 32, 111, 102, 32, 114, 97, 110, 103, 101]) (by simp [jm, Rows.laid_strconv_ErrRange]) Ub Eu.2
theorem Yp{H:Type}{enc0:TypeId×Value→H}{a:Assume}{C:Checked}{os:Os}{f:FuncId}{fn:Func}{s:ChangeSpec}{conds:List PathCond}{apart ji handsOn again:Bool}{X:World→Array Value→Prop}
  (hX:∀ (w w':World) (args:Array Value),w.heap=w'.heap→X w args→X w' args)
  (own:ownKnob C.prog.godebug=none) (started:os.Started) (noInit:C.prog.inits.idxOf? f=none) (hfn:C.prog.funcs[f]?=some fn)
  (witness:∃ (w:World) (tape:Tape) (i:Input),w.os=os∧(w.forCall tape i).Shaped C.prog∧i.vars=[]∧Input.okWide C.prog (w.forCall tape i) .any w.heap.size f i ∧
   ((s.pre enc0 C.prog fn conds apart (w.forCall tape i).memory i.args∧X (w.forCall tape i).memory i.args)∧sizedMet enc0 C.prog fn (OpenSpec.ofChange s) apart (w.forCall tape i).memory i.args)∧a.holds C.prog (lone (Frame.enter C.prog f i.args .normal) [] (w.forCall tape i)))
  (contract:∀ (W:World) (dM:Nat) (args:Array Value) (ds gs:List (DataW H)) (before:List MemPlace),
   (∀ (j:Nat) t v,fn.params[j]?=some t→args[j]?=some v→Value.okWide C.prog W .any dM t v) →
   DataW.Whole enc0 C.prog fn.params.toList s.vars apart W args.toList ds gs before →
   (DataW.weightsEach C.prog (fn.params.toList++s.plain.varTypes C.prog) (ds++gs)).all (· ≤ reachBytes)=true→X W args→W.ShapedOpen C.prog →
   Calls C.prog f args W fun e W'=>∃ v,e=.returned v∧s.post enc0 C.prog fn apart ji handsOn again W args v W') :
  ReturnsInHanded a C os f .any (fun w args=>(s.pre enc0 C.prog fn conds apart w args∧X w args)∧sizedMet enc0 C.prog fn (OpenSpec.ofChange s) apart w args) (s.post enc0 C.prog fn apart ji handsOn again):=by
 refine returnsInHanded_of_calls own started noInit witness ?_;intro w tape i _ hsh _ hok hpre _;obtain ⟨_,_,_,fn',hfn',_,_,_,_,hval⟩:=hok;have e:fn'=fn:=Option.some.inj (hfn'.symm.trans hfn);subst e;obtain ⟨⟨⟨ds,gs,before,hw,_⟩,hx⟩,hz⟩:=hpre;have hw':=DataW.Whole.of_heap (w':=w.forCall tape i) (by rfl) hw;refine (contract (w.forCall tape i) w.heap.size i.args ds gs before hval hw' (hz.weights hw) (hX _ _ _ (by rfl) hx) hsh).mono fun e W' ⟨v,he,hp⟩ =>?_;subst he;exact ChangeSpec.post_blind hp
end Go.Proofs.YtoffnnjbplgnaaaGreatDoor
namespace Go.Proofs.YtoffnnjbplgnaaaGreatDoor
open Go Go.Abs
open Go.Abs.Enc (enc)
def cB:aj:=default
theorem kP:I.agg [.agg [.int .i64 0,.int .i64 0],.int .i64 0,.int .i64 0,.int .i64 0,.agg [.int .i64 0,.int .i64 0],.ah ⟨#[]⟩]=enc cB:=rfl
theorem Ef{A:ab}{l:List aj} : jY A 8 (enc l)=some (l.map enc):=ky A 8 l rfl
theorem Eg{A:ab}{n lo k:Nat}{xs:List aj}(ho:A.o n=some (.box (.agg (xs.map enc))))(hl:lo+k≤xs.length):jY A 8 (.view n [] 8 lo k)=some (((xs.drop lo).take k).map enc):=nk ho hl
theorem gF{k:Nat}{a:ai}{m:Nat} : aH [(k,a)] m=true↔m=k:=by
 constructor
 ·intro h;simp only[aH,aJ] at h;split at h
  ·assumption
  ·simp at h
 ·rintro rfl;simp[aH,aJ]
theorem AI{A:ab}{k k':Nat}{c c':I}(h1:A.o k=some (.box c))(h2:∀ p,c.only p=true)(h1':A.o k'=some (.box c'))(h2':∀ p,c'.only p=true):∀ n x,aJ [(k,.box c),(k',.box c')] n=some x→A.o n=some x∧x.only (aH [(k,.box c),(k',.box c')])=true∧x.ep=true:=fun n x h=>by
 simp only[aJ] at h;split at h
 ·rename_i hn;subst hn;simp only[v6] at h;subst h;exact ⟨h1,h2 _,rfl⟩
 ·split at h
  ·rename_i hn;subst hn;simp only[v6] at h;subst h;exact ⟨h1',h2' _,rfl⟩
  ·cases h
theorem fZ(p:Nat→Bool)(l:List aj):(I.agg (l.map enc)).only p=true:=by simp only[I.only];exact mM p l
def eR(k:Nat)(l:List aj)(m:Nat):List (Nat×ai):=[(k,.box (.agg ((l++List.replicate m cB).map enc)))]
def rn(l:List aj):bY:=fun r os'=>(l=[]∧(r=.nils 8∨r=.c0 8)∧os'=[])∨(l≠[]∧∃ m,r=.view 7 [] 8 0 l.length∧os'=eR 7 l m)
theorem xp(l:List aj)(hl:l.length≤1000):eJ Tryz.prog 93 [enc l] [] (rn l):=by
 refine eJ.bL Tryz.func93 zf zk zu (t8 rfl) (t8 rfl) (fun m hm=>by simp[aH,aJ] at hm) (fun hwf W0 bC E1 =>?_);simp only[ud,vV,bB];refine .dP (by decide +kernel) fun K hK =>?_;simp only[uZ,aZ];refine .done (hK _ ?_);clear hK K;refine U.seq (U.seq ?_);by_cases hn:l=[]
 ·subst hn;refine .hG (by decide +kernel) fun K hK =>?_;simp only[pI,aZ,Nat.reduceEqDiff,reduceIte];simp only[tp,List.isEmpty_nil,ou];refine .any rfl fun b _ =>?_
  try simp only[aZ]
  generalize (b==0)=t;cases t
  ·refine .done (hK _ ?_);clear hK K;try simp only[cT]
   refine U.gG ?_;simp only[au,aZ,Nat.reduceEqDiff,reduceIte];refine ⟨fun h =>?_,fun h =>?_⟩
   ·cases h
   refine U.skip ?_;try simp only[cT]
   refine .dP (by decide +kernel) fun K hK =>?_;simp only[pJ,aZ]
   try simp only[ij,kP,aZ,Nat.reduceEqDiff,reduceIte]
   refine .done (hK _ ?_);clear hK K;refine U.ret ?_;simp only[jU];exact ⟨[],[.c0 8],u9,⟨⟨.c0 8,rfl,.inl ⟨rfl,rfl,rfl⟩⟩,trivial⟩,.inl ⟨rfl,.inr rfl,rfl⟩⟩
  ·refine .done (hK _ ?_);clear hK K;refine U.gG ?_;simp only[au,aZ,Nat.reduceEqDiff,reduceIte];refine ⟨fun h =>?_,fun h =>?_⟩
   ·refine .dP (by decide +kernel) fun K hK =>?_;simp only[u1,aZ];refine .done (hK _ ?_);clear hK K;refine U.ret ?_;simp only[cT,jU];exact ⟨[],[.nils 8],u9,⟨⟨.nils 8,rfl,.inl ⟨rfl,rfl,rfl⟩⟩,trivial⟩,.inl ⟨rfl,.inl rfl,rfl⟩⟩
   ·cases h
 ·have hu:iV (enc l)=false:=by rw[tp];simpa using hn
  refine .hG (by decide +kernel) fun K hK =>?_;simp only[pI,aZ,Nat.reduceEqDiff,reduceIte]
  try simp only[hu,Br _ l hn,aZ]
  refine .done (hK _ ?_);clear hK K;try simp only[cT]
  refine U.gG ?_;simp only[au,aZ,Nat.reduceEqDiff,reduceIte];refine ⟨fun h =>?_,fun h =>?_⟩
  ·cases h
  refine U.skip ?_;try simp only[cT]
  refine .dP (by decide +kernel) fun K hK =>?_;simp only[pJ,aZ]
  try simp only[ij,kP,aZ,Nat.reduceEqDiff,reduceIte]
  refine aY.tQ cB rfl hn rfl (by omega) (by simp only[maxLen];omega) fun m =>?_
  try simp only[aZ,Nat.reduceEqDiff,reduceIte]
  refine .done (hK _ ?_);clear hK K;refine U.ret ?_;simp only[jU];exact ⟨eR 7 l m,[.view 7 [] 8 0 l.length],n5 rfl (fun p=>fZ p _),⟨⟨_,rfl,.inl ⟨rfl,rfl,rfl⟩⟩,trivial⟩,.inr ⟨hn,m,rfl,rfl⟩⟩
def fX(l:List aj)(i:Nat)(g:aj):List aj:=l.take i++g::l.drop i
theorem Vp{l:List aj}{i:Nat}(g:aj)(h:i≤l.length):(fX l i g).length=l.length+1:=by
 simp only[fX,Z1,Z7,zz5,zx5];omega
def AP(l:List aj)(i:Nat)(g:aj)(k:Nat):bY:=fun r os' =>
 (∃ q,r=.view 1000000 [] 8 0 (l.length+1)∧os'=eR 1000000 (fX l i g) q)∨∃ d q,(d=25∨d=40)∧r=.view d [] 8 0 (l.length+1)∧os'=eR d (fX l i g) q++eR 1000000 l k
theorem V4(l:List aj)(i q:Nat)(g:aj)(h:i<l.length)(xs:List aj)(hx:xs=l.take i++(List.replicate (l.length+1-i) cB++List.replicate q cB))(ys:List aj)(hy:ys=xs.take i++([g].take 1++xs.drop (i+1))) :
  ys.take (i+1)++((((l++List.replicate 0 cB).drop i).take (l.length-i)).take (l.length-i)++ys.drop (i+1+(l.length-i)))=fX l i g++List.replicate q cB:=by
 have e1:xs.take i=l.take i:=by rw[hx,List.take_append_of_le_length (by rw[Z7];omega),List.take_take,Nat.min_self]
 have e2:xs.drop (i+1)=List.replicate (l.length-i+q) cB:=by
  have hl:(l.take i).length=i:=by rw[Z7];omega
  rw[hx,List.replicate_append_replicate,List.drop_append,hl,List.drop_eq_nil_of_le (by rw[hl];omega),zy7,List.drop_replicate]
  congr 1;omega
 have e3:ys=(l.take i++[g])++List.replicate (l.length-i+q) cB:=by rw[hy,e1,e2];simp
 have hl2:(l.take i++[g]).length=i+1:=by rw[Z1,Z7];simp;omega
 have e4:ys.take (i+1)=l.take i++[g]:=by rw[e3,←hl2,List.take_left]
 have e5:ys.drop (i+1+(l.length-i))=List.replicate q cB:=by
  rw[e3,List.drop_append,hl2,List.drop_eq_nil_of_le (by rw[hl2];omega),zy7,List.drop_replicate]
  congr 1;omega
 have e6:(((l++List.replicate 0 cB).drop i).take (l.length-i)).take (l.length-i)=l.drop i:=by
  rw[List.replicate_zero,List.append_nil,List.take_take,Nat.min_self,List.take_of_length_le (by rw[zx5];omega)]
 rw[e4,e5,e6];simp[fX]
theorem V3(l:List aj)(i k:Nat)(g:aj)(h:i<l.length)(hk:1≤k)(xs:List aj)(hx:xs=l++List.replicate k cB)(ys:List aj)(hy:ys=xs.take (i+1)++(((xs.drop i).take (l.length+1-i)).take (l.length-i)++xs.drop (i+1+(l.length-i)))) :
  ys.take i++([g].take 1++ys.drop (i+1))=fX l i g++List.replicate (k-1) cB:=by
 have e1:((xs.drop i).take (l.length+1-i)).take (l.length-i)=l.drop i:=by
  rw[List.take_take,Nat.min_eq_left (by omega),hx,List.drop_append_of_le_length (by omega),List.take_append_of_le_length (by rw[zx5];omega),List.take_of_length_le (by rw[zx5];omega)]
 have e2:xs.drop (i+1+(l.length-i))=List.replicate (k-1) cB:=by
  rw[hx,List.drop_append,List.drop_eq_nil_of_le (by omega),zy7,List.drop_replicate]
  congr 1;omega
 have hl:(xs.take (i+1)).length=i+1:=by rw[Z7,hx,Z1];omega
 have e3:ys.take i=l.take i:=by
  rw[hy,List.take_append_of_le_length (by omega),List.take_take,Nat.min_eq_left (by omega),hx,List.take_append_of_le_length (by omega)]
 have e4:ys.drop (i+1)=l.drop i++List.replicate (k-1) cB:=by
  rw[hy,e1,e2];exact List.drop_left' hl
 rw[e3,e4];simp[fX]
theorem ES(l:List aj)(i:Nat)(g:aj)(k:Nat)(hi:i≤l.length)(hn:l≠[])(hlen:l.length≤1000) :
  eJ Tryz.prog 101 [.view 1000000 [] 8 0 l.length,enc (i:Int),enc [g]] (eR 1000000 l k) (AP l i g k):=by
 refine eJ.bL Tryz.func101 ue ug uo (t8 rfl) (t8 rfl) (fun m hm=>by rw[gF.1 hm];exact Z3 _) (fun hwf W0 bC E1 =>?_);simp only[ri,sL,bB,Z5,Nat.reduceAdd];simp only[eR];have hl0:0<l.length:=zx2.2 hn;have htot:((l++List.replicate k cB).map (enc (α:=aj))).length=l.length+k:=by simp
 refine .dP (by decide +kernel) fun K hK =>?_;simp only[rI,aZ];refine .done (hK _ ?_);clear hK K;obtain ⟨y,hy⟩:=YJ (n:=1000000) (p:=[]) (sz:=8) hi (show l.length≤l.length+k by omega);refine .dP (by decide +kernel) fun K hK =>?_;simp only[rJ,aZ,Nat.reduceEqDiff,reduceIte]
 try simp only[ij,htot,zy8,hy,aZ,reduceIte]
 refine .done (hK _ ?_);clear hK K;refine .dP (by decide +kernel) fun K hK =>?_;simp only[rK,aZ,Nat.reduceEqDiff,reduceIte]
 try simp only[typR,iW,jQ,jg,aZ,Nat.reduceEqDiff,reduceIte,Int.reduceBNe,Int.reduceBEq]
 refine .done (hK _ ?_);clear hK K;refine U.seq (U.seq ?_);refine .hG (by decide +kernel) fun K hK =>?_;simp only[rL,aZ,Nat.reduceEqDiff,reduceIte]
 try simp only[typR,iW,jQ,jg,aZ,Nat.reduceEqDiff,reduceIte,Int.reduceBNe,Int.reduceBEq]
 refine .done (hK _ ?_);clear hK K;try simp only[cT]
 refine U.gG ?_;simp only[au,aZ,Nat.reduceEqDiff,reduceIte];refine ⟨fun h =>?_,fun h =>?_⟩
 ·first | cases h | simp at h
 refine U.skip ?_;try simp only[cT]
 refine .dP (by decide +kernel) fun K hK =>?_;simp only[rM,aZ,Nat.reduceEqDiff,reduceIte]
 try simp only[ij,aZ,Nat.reduceEqDiff,reduceIte]
 refine .done (hK _ ?_);clear hK K;refine U.seq (U.seq ?_);refine .hG (by decide +kernel) fun K hK =>?_;simp only[rN,aZ,Nat.reduceEqDiff,reduceIte]
 try simp only[typR,iW,jQ,jg,aZ,Nat.reduceEqDiff,reduceIte,Int.reduceBNe,Int.reduceBEq]
 refine .done (hK _ ?_);clear hK K;try simp only[cT]
 have hA:∀ ts,(ay ts [(1000000,.box (.agg ((l++List.replicate k cB).map (enc (α:=aj)))))]).o 1000000=some (.box (.agg ((l++List.replicate k cB).map enc))):=fun _=>rfl;have hN:∀ ts (d:Nat),d≠1000000→(ay ts [(1000000,.box (.agg ((l++List.replicate k cB).map (enc (α:=aj)))))]).o d=none:=fun ts d hd=>by
  have:¬ d=1000000:=hd;simp[ay,aJ,this]
 refine U.gG ?_;simp only[au,aZ,Nat.reduceEqDiff,reduceIte];refine ⟨fun h =>?_,fun h =>?_⟩
 ·have hil:i=l.length:=by
   have:(i:Int)=l.length:=by simpa using h
   omega
  subst hil;by_cases hk:k=0
  ·subst hk;refine .dP (by decide +kernel) fun K hK =>?_;simp only[pH,aZ,Nat.reduceEqDiff,reduceIte]
   try simp only[kP]
   refine aY.F6 (esz:=8) cB rfl (xs:=l++List.replicate 0 cB) (ys:=[g]) (by simp) (hA _) (by simp) (by simp) (hN _ 25 (by decide)) (by simp;omega) (by simp[maxLen];omega) fun q =>?_;have hc:(l++List.replicate 0 cB).take l.length++([g]++List.replicate q cB)=fX l l.length g++List.replicate q cB:=by simp[fX]
   rw[hc]
   try simp only[List.length_singleton,aZ,Nat.reduceEqDiff,reduceIte]
   refine .done (hK _ ?_);clear hK K;refine U.ret ?_;simp only[cT,jU];exact ⟨eR 25 (fX l l.length g) q++eR 1000000 l 0,[.view 25 [] 8 0 (l.length+1)],AI rfl (fun p=>fZ p _) rfl (fun p=>fZ p _),⟨⟨_,rfl,.inl ⟨rfl,rfl,rfl⟩⟩,trivial⟩,.inr ⟨25,q,.inl rfl,rfl,rfl⟩⟩
  ·refine .dP (by decide +kernel) fun K hK =>?_;simp only[pH,aZ,Nat.reduceEqDiff,reduceIte]
   try simp only[kP]
   rw[xD (esz:=8) _ rfl (xs:=l++List.replicate k cB) (ys:=[g]) (by simp) (hA _) (by simp;omega)];have hc:(l++List.replicate k cB).take l.length++([g]++(l++List.replicate k cB).drop (l.length+[g].length))=fX l l.length g++List.replicate (k-1) cB:=by
    simp[fX,List.drop_append]
   rw[hc]
   try simp only[List.length_singleton,aZ,Nat.reduceEqDiff,reduceIte]
   refine .done (hK _ ?_);clear hK K;refine U.ret ?_;simp only[cT,jU];exact ⟨eR 1000000 (fX l l.length g) (k-1),[.view 1000000 [] 8 0 (l.length+1)],n5 rfl (fun p=>fZ p _),⟨⟨_,rfl,.inl ⟨rfl,rfl,rfl⟩⟩,trivial⟩,.inl ⟨k-1,rfl,rfl⟩⟩
 have hlt:i<l.length:=by
  have:¬ (i:Int)=l.length:=by simpa using h
  omega
 refine U.skip ?_;try simp only[cT]
 refine U.seq (U.seq ?_);refine .hG (by decide +kernel) fun K hK =>?_;simp only[Aq,aZ,Nat.reduceEqDiff,reduceIte]
 try simp only[WA,List.length_singleton,aZ,Nat.reduceEqDiff,reduceIte]
 rw[Ig (xs:=l++List.replicate k cB) (hA _)]
 try simp only[aZ,Nat.reduceEqDiff,reduceIte]
 rw[dC _ (by simp;omega) (by simp;omega)];refine .done (hK _ ?_);clear hK K;try simp only[cT]
 have hgt:decide ((((l++List.replicate k cB).length-0:Nat):Int)<(l.length:Int)+((1:Nat):Int))=decide (k=0):=by
  by_cases hk:k=0 <;>simp[hk] <;>omega
 simp only[hgt];by_cases hk:k=0
 ·subst hk;refine U.gG ?_;simp only[au,aZ,Nat.reduceEqDiff,reduceIte];refine ⟨fun h =>?_,fun h =>?_⟩
  ·have htot0:((l++List.replicate 0 cB).map (enc (α:=aj))).length=l.length:=by simp
   refine .dP (by decide +kernel) fun K hK =>?_;simp only[Ar,aZ,Nat.reduceEqDiff,reduceIte]
   try simp only[ij,htot0,zy8,Eb (show i≤l.length by omega) hl0,kP,Wt,aZ,Nat.reduceEqDiff,reduceIte]
   rw[dC ((l.length:Int)+((1:Nat):Int)) (by omega) (by omega),dC ((l.length:Int)+((1:Nat):Int)-i) (by omega) (by omega)];have hm:(l.length:Int)+((1:Nat):Int)-i=((l.length+1-i:Nat):Int):=by omega
   rw[hm];refine aY.Gf (esz:=8) cB rfl (xs:=l++List.replicate 0 cB) (hA _) (by simp;omega) (by omega) (by simp;omega) (hN _ 40 (by decide)) (by omega) (by simp only[maxLen];omega) fun q =>?_;obtain ⟨xs,hxs⟩:∃ xs,xs=l.take i++(List.replicate (l.length+1-i) cB++List.replicate q cB):=⟨_,rfl⟩
   have hxs':(l++List.replicate 0 cB).take i++(List.replicate (l.length+1-i) cB++List.replicate q cB)=xs:=by rw[hxs,List.take_append_of_le_length (by omega)]
   have hxl:xs.length=l.length+1+q:=by rw[hxs];simp;omega
   have hle:i+(l.length+1-i)=l.length+1:=by omega
   rw[hxs',hle]
   try simp only[aZ,Nat.reduceEqDiff,reduceIte]
   refine .done (hK _ ?_);clear hK K;have hxm:(xs.map (enc (α:=aj))).length=l.length+1+q:=by rw[Z2];exact hxl
   have hA2:∀ ts,(ay ts [(40,.box (.agg (xs.map (enc (α:=aj))))),(1000000,.box (.agg ((l++List.replicate 0 cB).map (enc (α:=aj)))))]).o 40=some (.box (.agg (xs.map enc))):=fun _=>rfl;refine .dP (by decide +kernel) fun K hK =>?_;simp only[Ai,aZ,Nat.reduceEqDiff,reduceIte]
   try simp only[ij,hxm,zy8,mb (show i≤l.length+1 by omega) (show l.length+1≤l.length+1+q by omega) (show i<l.length+1+q by omega),lU,aZ,Nat.reduceEqDiff,reduceIte]
   rw[Ef,nN (xs:=xs) (c:=1) (hA2 _) (by omega) (by simp;omega)];obtain ⟨ys,hys⟩:∃ ys,ys=xs.take i++([g].take 1++xs.drop (i+1)):=⟨_,rfl⟩
   have hyl:ys.length=l.length+1+q:=by rw[hys];simp;omega
   rw[←hys]
   try simp only[aZ]
   refine .done (hK _ ?_);clear hK K;have hym:(ys.map (enc (α:=aj))).length=l.length+1+q:=by rw[Z2];exact hyl
   have hA3:∀ ts z,(ay ts [(40,.box (.agg (ys.map (enc (α:=aj))))),(40,z),(1000000,.box (.agg ((l++List.replicate 0 cB).map (enc (α:=aj)))))]).o 40=some (.box (.agg (ys.map enc))):=fun _ _=>rfl;have hA4:∀ ts z,(ay ts [(40,.box (.agg (ys.map (enc (α:=aj))))),(40,z),(1000000,.box (.agg ((l++List.replicate 0 cB).map (enc (α:=aj)))))]).o 1000000=some (.box (.agg ((l++List.replicate 0 cB).map enc))):=fun _ _=>rfl;refine .dP (by decide +kernel) fun K hK =>?_;simp only[Aj,aZ,Nat.reduceEqDiff,reduceIte];rw[dC ((i:Int)+((1:Nat):Int)) (by omega) (by omega)];have hi1:(i:Int)+((1:Nat):Int)=((i+1:Nat):Int):=by omega
   try simp only[ij,hym,htot0,hi1,zy8,Z9,mb (show i+1≤l.length+1 by omega) (show l.length+1≤l.length+1+q by omega) (show i+1<l.length+1+q by omega),mb (show i≤l.length by omega) (Z3 l.length) hlt,lU,aZ,Nat.reduceEqDiff,reduceIte]
   have hd1:l.length+1-(i+1)=l.length-i:=by omega
   rw[hd1,Eg (xs:=l++List.replicate 0 cB) (hA4 _ _) (by simp;omega),nN (xs:=ys) (c:=l.length-i) (hA3 _ _) (by omega) (by simp)];rw[V4 l i q g hlt xs hxs ys hys]
   try simp only[aZ]
   refine .done (hK _ ?_);clear hK K;refine .dP (by decide +kernel) fun K hK =>?_;simp only[Ak,aZ,Nat.reduceEqDiff,reduceIte];refine .done (hK _ ?_);clear hK K;refine U.ret ?_;simp only[cT,jU];exact ⟨eR 40 (fX l i g) q++eR 1000000 l 0,[.view 40 [] 8 0 (l.length+1)],AI rfl (fun p=>fZ p _) rfl (fun p=>fZ p _),⟨⟨_,rfl,.inl ⟨rfl,rfl,rfl⟩⟩,trivial⟩,.inr ⟨40,q,.inr rfl,rfl,rfl⟩⟩
  ·simp at h
 ·refine U.gG ?_;simp only[au,aZ,Nat.reduceEqDiff,reduceIte];refine ⟨fun h =>?_,fun h =>?_⟩
  ·simp at h;omega
  refine U.skip ?_;try simp only[cT]
  have hk1:1≤k:=by omega
  have hn1:(l.length:Int)+((1:Nat):Int)=((l.length+1:Nat):Int):=by omega
  refine .dP (by decide +kernel) fun K hK =>?_;simp only[Al,aZ,Nat.reduceEqDiff,reduceIte];rw[dC ((l.length:Int)+((1:Nat):Int)) (by omega) (by omega)]
  try simp only[ij,htot,hn1,zy8,Eb (show l.length+1≤l.length+k by omega) (show 0<l.length+k by omega),aZ,Nat.reduceEqDiff,reduceIte]
  refine .done (hK _ ?_);clear hK K;have hi1:(i:Int)+((1:Nat):Int)=((i+1:Nat):Int):=by omega
  have hd1:l.length+1-(i+1)=l.length-i:=by omega
  refine U.seq (U.seq ?_);refine .hG (by decide +kernel) fun K hK =>?_;simp only[Am,aZ,Nat.reduceEqDiff,reduceIte];rw[dC ((i:Int)+((1:Nat):Int)) (by omega) (by omega)]
  try simp only[ij,htot,hi1,hd1,zy8,mb (show i+1≤l.length+1 by omega) (show l.length+1≤l.length+k by omega) (show i+1<l.length+k by omega),Xb,aZ,Nat.reduceEqDiff,reduceIte]
  refine .ext (.bool false) rfl (Zc (tS:=23) (tR:=4) (e:=50) Tryz.func143 (by kernel_rfl) (by kernel_rfl) (by kernel_rfl) (by kernel_rfl) (by kernel_rfl) (by kernel_rfl) (hA _) rfl ?_ (by decide) (Mo (by intro h;have:=congrArg List.length h;rw[Z1,List.length_replicate,zy6] at this;omega) rfl)) ?_
  ·show I.sizes ((l++List.replicate k cB).map enc)≠0
   rw[I.gi (sz:=8) _ (fun e he=>by obtain ⟨x,_,rfl⟩:=zy1.1 he;rw[lL];rfl)];rw[htot];omega
  try simp only[aZ,Nat.reduceEqDiff,reduceIte]
  refine .done (hK _ ?_);clear hK K;try simp only[cT]
  refine U.gG ?_;simp only[au,aZ,Nat.reduceEqDiff,reduceIte];refine ⟨fun h =>?_,fun h =>?_⟩
  case neg.refine_2.refine_2.refine_2=>cases h
  have hd2:l.length+1-i=l.length+1-i:=rfl;obtain ⟨xs,hxs⟩:∃ xs,xs=l++List.replicate k cB:=⟨_,rfl⟩
  have hxl:xs.length=l.length+k:=by rw[hxs];simp
  have hxm:(xs.map (enc (α:=aj))).length=l.length+k:=by rw[Z2];exact hxl
  rw[←hxs];have hB:∀ ts,(ay ts [(1000000,.box (.agg (xs.map (enc (α:=aj)))))]).o 1000000=some (.box (.agg (xs.map enc))):=fun _=>rfl;refine .dP (by decide +kernel) fun K hK =>?_;simp only[An,aZ,Nat.reduceEqDiff,reduceIte];rw[dC ((i:Int)+((1:Nat):Int)) (by omega) (by omega)]
  try simp only[ij,hxm,hi1,hd1,zy8,Z9,mb (show i+1≤l.length+1 by omega) (show l.length+1≤l.length+k by omega) (show i+1<l.length+k by omega),mb (show i≤l.length+1 by omega) (show l.length+1≤l.length+k by omega) (show i<l.length+k by omega),lU,aZ,Nat.reduceEqDiff,reduceIte]
  rw[Eg (xs:=xs) (hB _) (by omega),nN (xs:=xs) (c:=l.length-i) (hB _) (by omega) (by simp;omega)];obtain ⟨ys,hys⟩:∃ ys,ys=xs.take (i+1)++(((xs.drop i).take (l.length+1-i)).take (l.length-i)++xs.drop (i+1+(l.length-i))):=⟨_,rfl⟩
  have hyl:ys.length=l.length+k:=by rw[hys];simp;omega
  have hym:(ys.map (enc (α:=aj))).length=l.length+k:=by rw[Z2];exact hyl
  rw[←hys]
  try simp only[aZ]
  refine .done (hK _ ?_);clear hK K;have hC:∀ ts z,(ay ts [(1000000,.box (.agg (ys.map (enc (α:=aj))))),(1000000,z)]).o 1000000=some (.box (.agg (ys.map enc))):=fun _ _=>rfl;refine .dP (by decide +kernel) fun K hK =>?_;simp only[Ao,aZ,Nat.reduceEqDiff,reduceIte]
  try simp only[ij,hym,zy8,mb (show i≤l.length+1 by omega) (show l.length+1≤l.length+k by omega) (show i<l.length+k by omega),lU,aZ,Nat.reduceEqDiff,reduceIte]
  rw[Ef,nN (xs:=ys) (c:=1) (hC _ _) (by omega) (by simp;omega)];rw[V3 l i k g hlt hk1 xs hxs ys hys]
  try simp only[aZ]
  refine .done (hK _ ?_);clear hK K;refine .dP (by decide +kernel) fun K hK =>?_;simp only[Ap,aZ,Nat.reduceEqDiff,reduceIte];refine .done (hK _ ?_);clear hK K;refine U.ret ?_;simp only[cT,jU];exact ⟨eR 1000000 (fX l i g) (k-1),[.view 1000000 [] 8 0 (l.length+1)],n5 rfl (fun p=>fZ p _),⟨⟨_,rfl,.inl ⟨rfl,rfl,rfl⟩⟩,trivial⟩,.inl ⟨k-1,rfl,rfl⟩⟩
def gm(a b:Int):Int:=if a<b then -1 else if a>b then 1 else 0
def lK(a b:Item):Int:=if gm a.bf b.bf≠0 then gm a.bf b.bf else gm a.no b.no
def eT(a b:Item):Bool:=decide (a.bf<b.bf∨(a.bf=b.bf∧a.no<b.no))
theorem zn(a b:Int):(a<b∧gm a b=-1)∨(a=b∧gm a b=0)∨(b<a∧gm a b=1):=by
 simp only[gm]
 (repeat' split) <;>omega
theorem zo(a b:Item):(eT a b=true∧lK a b=-1)∨(a=b∧lK a b=0)∨(eT b a=true∧lK a b=1):=by
 obtain ⟨m,n⟩:=a;obtain ⟨m',n'⟩:=b;simp only[lK,eT,decide_eq_true_eq,Item.mk.injEq];rcases zn m m' with ⟨h,e⟩ | ⟨h,e⟩ | ⟨h,e⟩ <;>rw[e]
 ·simp;omega
 ·rcases zn n n' with ⟨h2,e2⟩ | ⟨h2,e2⟩ | ⟨h2,e2⟩ <;>rw[e2] <;>simp <;>omega
 ·simp;omega
theorem pk(a:Item):eT a a=false:=by simp only[eT,decide_eq_false_iff_not];omega
theorem tY{a b c:Item}(h:eT a b=true)(k:eT b c=true):eT a c=true:=by
 simp only[eT,decide_eq_true_eq] at *;omega
theorem JA(a b:Item):decide (lK a b<0)=eT a b:=by
 rcases zo a b with ⟨h,e⟩ | ⟨rfl,e⟩ | ⟨h,e⟩
 ·rw[e,h];rfl
 ·rw[e,pk];rfl
 ·rw[e];cases k:eT a b
  ·rfl
  ·have:=tY k h;rw[pk] at this;cases this
theorem JB(a b:Item):(lK a b==0)=decide (a=b):=by
 rcases zo a b with ⟨h,e⟩ | ⟨rfl,e⟩ | ⟨h,e⟩
 ·rw[e,decide_eq_false (fun k=>by rw[k,pk] at h;cases h)];rfl
 ·rw[e];simp
 ·rw[e,decide_eq_false (fun k=>by rw[k,pk] at h;cases h)];rfl
theorem xd(n:Int):aM Tryz.prog 175 [enc n] (enc false):=by
 refine aM.bL Tryz.func175 Hr IJ J2 (t8 rfl) (fun hwf W0 bC E1 =>?_);simp only[c175,Cz,bB];clear hwf;have q:(n != n)=false:=by simp
 have R:=y6 @q az
 repeat' ((first |refine U.aE (by decide +kernel) rfl fun K hK =>?_|(refine .aA [0,2] hK ?_;clear hK K)|(with_reducible refine .done (hK _ ?_);clear hK K)|refine U.of rfl ?_|(with_reducible refine au.aD (fun h =>?_) (fun h =>?_) <;>try simp only[h])) <;>try simp only[aF,R,simprocAttr])
 all_goals clear R
 all_goals rfl
theorem xc(a b:Int):aM Tryz.prog 161 [enc a,enc b] (enc (gm a b)):=by
 refine aM.bL Tryz.func161 Hp IG JZ (t8 rfl) (fun hwf W0 bC E1 =>?_);simp only[yp,Cw,bB,Z5];clear hwf;have f1:=xd a;have f2:=xd b;simp only[gm];cases q1:decide (a<b)
 ·rw[if_neg (of_decide_eq_false q1)];cases q2:decide (a>b)
  ·rw[if_neg (of_decide_eq_false q2)];have R:=y6 @q1 (y6 @q2 az)
   repeat' ((first |refine U.aE (by decide +kernel) rfl fun K hK =>?_|refine .flat _ (f1) rfl ?_|refine .flat _ (f2) rfl ?_|(refine .aA [0,1,4,5,6,11,12,13,16,19] hK ?_;clear hK K)|(with_reducible refine .done (hK _ ?_);clear hK K)|refine U.of rfl ?_|(with_reducible refine au.aD (fun h =>?_) (fun h =>?_) <;>try simp only[h])) <;>try simp only[aF,R,simprocAttr])
   all_goals clear R
   all_goals rfl
  ·rw[if_pos (of_decide_eq_true q2)];have R:=y6 @q1 (y6 @q2 az)
   repeat' ((first |refine U.aE (by decide +kernel) rfl fun K hK =>?_|refine .flat _ (f1) rfl ?_|refine .flat _ (f2) rfl ?_|(refine .aA [0,1,4,5,6,11,12,13,16,19] hK ?_;clear hK K)|(with_reducible refine .done (hK _ ?_);clear hK K)|refine U.of rfl ?_|(with_reducible refine au.aD (fun h =>?_) (fun h =>?_) <;>try simp only[h])) <;>try simp only[aF,R,simprocAttr])
   all_goals clear R
   all_goals rfl
 ·rw[if_pos (of_decide_eq_true q1)];have R:=y6 @q1 az
  repeat' ((first |refine U.aE (by decide +kernel) rfl fun K hK =>?_|refine .flat _ (f1) rfl ?_|refine .flat _ (f2) rfl ?_|(refine .aA [0,1,4,5,6,11,12,13,16,19] hK ?_;clear hK K)|(with_reducible refine .done (hK _ ?_);clear hK K)|refine U.of rfl ?_|(with_reducible refine au.aD (fun h =>?_) (fun h =>?_) <;>try simp only[h])) <;>try simp only[aF,R,simprocAttr])
  all_goals clear R
  all_goals rfl
theorem Fg(a b:Int):aM Tryz.prog 160 [enc [a,b]] (enc (if a≠0 then a else b)):=by
 refine aM.bL Tryz.func160 Ho IF JY (t8 rfl) (fun hwf W0 bC E1 =>?_);simp only[yn,Cv,bB];clear hwf;have h0:∀ A,jk A 1 ((0:Nat):Int) (enc [a,b])=some (.ref (enc a)):=fun A=>fJ (A:=A) (l:=[a,b]) (k:=0) 1 (by simp) rfl;have h1:∀ A,jk A 1 ((1:Nat):Int) (enc [a,b])=some (.ref (enc b)):=fun A=>fJ (A:=A) (l:=[a,b]) (k:=1) 1 (by simp) rfl;have hl:([a,b]:List Int).length=2:=rfl;obtain ⟨l,hll⟩:∃ l,l=[a,b]:=⟨_,rfl⟩
 rw[←hll] at h0 h1 hl ⊢;have R:=az
 repeat' ((first |refine U.aE (by decide +kernel) rfl fun K hK =>?_|(refine .aA [0,2,3,5,6,7,8,9,14] hK ?_;clear hK K)|(with_reducible refine .done (hK _ ?_);clear hK K)|refine U.of rfl ?_|(with_reducible refine au.aD (fun h =>?_) (fun h =>?_) <;>try simp only[h])) <;>try simp only[aF,R,simprocAttr])
 all_goals clear R
 refine U.loop (fun i:Nat=>ay [(0,enc l),(3,.int .i64 0),(6,enc l),(7,.int .i64 (l.length:Int)),(8,.int .i64 (i:Int))] []) (fun i=>i≤2∧(0<i→a=0)∧(1<i→b=0)) (fun i=>2-i) 0 ⟨by omega,by omega,by omega⟩ ?_ ?_
 ·refine bw.cN ?_ ?_ ?_ ?_ <;>simp[cj,ct,cq,bU,cg,I.only,bK]
  all_goals rfl
 rintro i ⟨hi,k0,k1⟩;have hw:=eG (i:=i) (by omega);by_cases e0:i=0
 ·have hc:=eP (show i<l.length by omega);have he:∀ A,jk A 1 (i:Int) (enc l)=some (.ref (enc a)):=fun A=>by rw[e0];exact h0 A
  cases q:(a != 0)
  ·have R:=y6 @hc (y6 @he (y6 @q (y6 @hw az)))
   repeat' ((first |refine U.aE (by decide +kernel) rfl fun K hK =>?_|(refine .aA [0,2,3,5,6,7,8,9,14] hK ?_;clear hK K)|(with_reducible refine .done (hK _ ?_);clear hK K)|refine U.of rfl ?_|(with_reducible refine au.aD (fun h =>?_) (fun h =>?_) <;>try simp only[h])) <;>try simp only[aF,R,simprocAttr])
   all_goals clear R
   refine ⟨i+1,⟨by omega,fun _=>by simpa using q,by omega⟩,by omega,?_⟩;refine bw.cN ?_ ?_ ?_ ?_ <;>simp[cj,ct,cq,bU,cg,I.only,bK]
   all_goals rfl
  ·have ha:a≠0:=by simpa using q
   rw[if_pos ha];have R:=y6 @hc (y6 @he (y6 @q (y6 @hw az)))
   repeat' ((first |refine U.aE (by decide +kernel) rfl fun K hK =>?_|(refine .aA [0,2,3,5,6,7,8,9,14] hK ?_;clear hK K)|(with_reducible refine .done (hK _ ?_);clear hK K)|refine U.of rfl ?_|(with_reducible refine au.aD (fun h =>?_) (fun h =>?_) <;>try simp only[h])) <;>try simp only[aF,R,simprocAttr])
   all_goals clear R
   all_goals rfl
 have ha:¬ a≠0:=fun h=>h (k0 (by omega));by_cases e1:i=1
 ·have hc:=eP (show i<l.length by omega);have he:∀ A,jk A 1 (i:Int) (enc l)=some (.ref (enc b)):=fun A=>by rw[e1];exact h1 A
  cases q:(b != 0)
  ·have R:=y6 @hc (y6 @he (y6 @q (y6 @hw az)))
   repeat' ((first |refine U.aE (by decide +kernel) rfl fun K hK =>?_|(refine .aA [0,2,3,5,6,7,8,9,14] hK ?_;clear hK K)|(with_reducible refine .done (hK _ ?_);clear hK K)|refine U.of rfl ?_|(with_reducible refine au.aD (fun h =>?_) (fun h =>?_) <;>try simp only[h])) <;>try simp only[aF,R,simprocAttr])
   all_goals clear R
   refine ⟨i+1,⟨by omega,fun _=>k0 (by omega),fun _=>by simpa using q⟩,by omega,?_⟩;refine bw.cN ?_ ?_ ?_ ?_ <;>simp[cj,ct,cq,bU,cg,I.only,bK]
   all_goals rfl
  ·rw[if_neg ha];have R:=y6 @hc (y6 @he (y6 @q (y6 @hw az)))
   repeat' ((first |refine U.aE (by decide +kernel) rfl fun K hK =>?_|(refine .aA [0,2,3,5,6,7,8,9,14] hK ?_;clear hK K)|(with_reducible refine .done (hK _ ?_);clear hK K)|refine U.of rfl ?_|(with_reducible refine au.aD (fun h =>?_) (fun h =>?_) <;>try simp only[h])) <;>try simp only[aF,R,simprocAttr])
   all_goals clear R
   all_goals rfl
 have hc:=fu (show ¬ i<l.length by omega);rw[if_neg ha,k1 (by omega)];have R:=y6 @hc az
 repeat' ((first |refine U.aE (by decide +kernel) rfl fun K hK =>?_|(refine .aA [0,2,3,5,6,7,8,9,14] hK ?_;clear hK K)|(with_reducible refine .done (hK _ ?_);clear hK K)|refine U.of rfl ?_|(with_reducible refine au.aD (fun h =>?_) (fun h =>?_) <;>try simp only[h])) <;>try simp only[aF,R,simprocAttr])
 all_goals clear R
 all_goals rfl
theorem Fb(a b:Item):aM Tryz.prog 140 [enc a,enc b] (enc (lK a b)):=by
 refine aM.bL Tryz.func140 Hh IA JT (t8 rfl) (fun hwf W0 bC E1 =>?_);simp only[yi,Cq,bB,Z5];clear hwf;have f1:=xc a.bf b.bf;have f2:=xc a.no b.no;have f3:=Fg (gm a.bf b.bf) (gm a.no b.no);have hbs:gD 1 (some [.int .i64 (gm a.bf b.bf),.int .i64 (gm a.no b.no)])=some (enc [gm a.bf b.bf,gm a.no b.no]):=xQ (ys:=[gm a.bf b.bf,gm a.no b.no]) 1 rfl;have R:=y6 @hbs az
 repeat' ((first |refine U.aE (by decide +kernel) rfl fun K hK =>?_|refine .flat _ (f1) rfl ?_|refine .flat _ (f2) rfl ?_|refine .flat _ (f3) rfl ?_|(refine .aA [0,1,2,3,4] hK ?_;clear hK K)|(with_reducible refine .done (hK _ ?_);clear hK K)|refine U.of rfl ?_|(with_reducible refine au.aD (fun h =>?_) (fun h =>?_) <;>try simp only[h])) <;>try simp only[aF,R,simprocAttr])
 all_goals clear R
 all_goals rfl
theorem w8(x:aj)(a:Item):aM Tryz.prog 139 [enc x,enc a] (enc (lK x.bE a)):=by
 refine aM.bL Tryz.func139 Hf Iy JR (t8 rfl) (fun hwf W0 bC E1 =>?_);simp only[yg,Co,bB,Z5];clear hwf;have R:=az
 repeat' ((first |refine U.aE (by decide +kernel) rfl fun K hK =>?_|refine .flat _ (Fb x.bE a) rfl ?_|(refine .aA [0,1,2,3,4] hK ?_;clear hK K)|(with_reducible refine .done (hK _ ?_);clear hK K)|refine U.of rfl ?_|(with_reducible refine au.aD (fun h =>?_) (fun h =>?_) <;>try simp only[h])) <;>try simp only[aF,R,simprocAttr])
 all_goals clear R
 all_goals rfl
theorem Y9(x y:Nat)(h:x+y<9223372036854775807):IntKind.i64.wrap ((x:Int)+(y:Int))=((x+y:Nat):Int):=by rw[dC _ (by omega) (by omega)];omega
theorem Za{n:Nat}(h:n≤9223372036854775807):IntKind.i64.wrap (n:Int)=(n:Int):=dC _ (by omega) (by omega)
theorem vr(x:Nat):Int.fdiv (x:Int) (2^min (Int.toNat 1) IntKind.u64.bits)=((x / 2:Nat):Int):=by
 have:min (Int.toNat 1) IntKind.u64.bits=1:=rfl;rw[this]
 show Int.fdiv (x:Int) 2=_
 rw[Int.fdiv_eq_ediv_of_nonneg _ (by decide)];rfl
theorem Bm(x:Nat):Int.fdiv (x:Int) (2^min 1 IntKind.u64.bits)=((x / 2:Nat):Int):=vr x
theorem Wc{x:Nat}(h:x<9223372036854775807):IntKind.u64.wrap (x:Int)=(x:Int):=by
 simp only[IntKind.wrap,IntKind.bits,IntKind.signed];simp;omega
theorem Bl:((0:Int)≤1)=True:=by simp
abbrev pc(l:List aj):Prop:=l.Pairwise fun a b=>nI a b=true
def fD(l:List aj)(a:Item):Nat:=l.findIdx fun x => !eT x.bE a
def kd(l:List aj)(a:Item):Bool:=l.any fun x=>decide (x.bE=a)
theorem XG(l:List aj)(a:Item):fD l a≤l.length:=List.findIdx_le_length
theorem wD{l:List aj}(h:pc l){i j:Nat}(hij:i<j)(hj:j<l.length):eT (l[i]'(by omega)).bE l[j].bE=true:=List.pairwise_iff_getElem.1 h i j (by omega) hj hij
theorem B3{l:List aj}{a:Item}{i:Nat}(hi:i≤l.length)(h1:∀ k (h:k<l.length),k<i→eT l[k].bE a=true)(h2:∀ h:i<l.length,eT l[i].bE a=false):fD l a=i:=by
 simp only[fD];by_cases hlt:i<l.length
 ·refine (List.findIdx_eq hlt).2 ⟨by rw[h2 hlt];rfl,fun j hj =>?_⟩;rw[h1 j (by omega) hj];rfl
 ·have e:i=l.length:=by omega
  rw[e];refine List.findIdx_eq_length.2 fun x hx =>?_;obtain ⟨k,hk,rfl⟩:=List.getElem_of_mem hx;rw[h1 k hk (by omega)];rfl
theorem AG{l:List aj}(hs:pc l)(a:Item):kd l a=true↔∃ h:fD l a<l.length,(l[fD l a]).bE=a:=by
 constructor
 ·intro h;simp only[kd,List.any_eq_true,decide_eq_true_eq] at h;obtain ⟨x,hx,rfl⟩:=h;obtain ⟨k,hk,rfl⟩:=List.getElem_of_mem hx;have h1:fD l l[k].bE=k:=B3 (by omega) (fun j hj hjk=>wD hs hjk hk) (fun _=>pk _);exact ⟨by omega,by simp only[h1]⟩
 ·rintro ⟨h1,h2⟩;simp only[kd,List.any_eq_true,decide_eq_true_eq];exact ⟨_,List.getElem_mem h1,h2⟩
theorem E9(l:List aj)(a:Item)(hs:pc l)(hl:l.length≤1000):aM Tryz.prog 138 [enc l,enc a,.func 139 []] (.tuple [enc (fD l a:Int),enc (kd l a)]):=by
 refine aM.bL Tryz.func138 He Iw JQ (t8 rfl) (fun hwf W0 bC E1 =>?_);simp only[yf,Cn,bB,Z5,Nat.reduceAdd];clear hwf;have R:=az
 repeat' ((first |(with_reducible refine .guard (fun hb =>?_) (fun hb =>?_) <;>try simp only[hb])|refine U.aE (by decide +kernel) rfl fun K hK =>?_|(refine .aA [0,1,2,4,6,7,8,9,10,11,17,31] hK ?_;clear hK K)|(with_reducible refine .done (hK _ ?_);clear hK K)|refine U.of rfl ?_|(with_reducible refine au.aD (fun h =>?_) (fun h =>?_) <;>try simp only[h])) <;>try simp only[aF,R,simprocAttr])
 all_goals clear R
 refine U.loop (fun s:Nat×Nat=>ay [(0,enc l),(2,.func 139 []),(4,.ptr 4 []),(8,.int .i64 l.length),(9,.int .i64 s.1),(10,.int .i64 s.2)] [(4,.box (enc a))]) (fun s=>s.1≤s.2∧s.2≤l.length∧(∀ k (h:k<l.length),k<s.1→eT l[k].bE a=true)∧∀ k (h:k<l.length),s.2≤k→eT l[k].bE a=false) (fun s=>s.2-s.1) (0,l.length) ⟨Nat.zero_le _,Z3 _,fun k _ hk=>by omega,fun k h1 h2=>by simp only at h2;omega⟩ ?_ ?_
 ·refine bw.cN ?_ ?_ ?_ ?_ <;>simp[cj,ct,cq,bU,aH,cg,dT,I.only,I.cH,ai.only,bK]
  all_goals rfl
 rintro ⟨i,j⟩ ⟨h1,h2,h3,h4⟩;simp only at h1 h2 h3 h4 ⊢;by_cases hlt:i<j
 ·have hc:=eP hlt;have w1:=Y9 i j (by omega);have w2:=Wc (x:=i+j) (by omega);obtain ⟨h,hh⟩:∃ h,h=(i+j) / 2:=⟨_,rfl⟩
  have w5:=Za (n:=h) (by omega);have hhl:h<l.length:=by omega
  have he:=fun A=>fJ (A:=A) 8 hhl rfl;have hn:=JA l[h].bE a;have hw:=eG (i:=h) (by omega);have f139:=w8 l[h] a;rcases hb:eT l[h].bE a
  ·rw[hb] at hn;have hlo:∀ k (h':k<l.length),h≤k→eT l[k].bE a=false:=fun k hkl hk=>by
    cases hbk:eT l[k].bE a with
    |false=>rfl
    |true =>
     by_cases e:k=h
     ·subst e;rw[hb] at hbk;cases hbk
     ·have:=tY (wD hs (show h<k by omega) hkl) hbk;rw[this] at hb;cases hb
   clear hb;generalize l[h]=r at *;have R:=y6 @hc (y6 @w1 (y6 @w2 (y6 @w5 (y6 @he (y6 @hn (y6 @hw (y6 @Bm (y6 @vr (y6 @Bl (y6 @j8 az))))))))))
   repeat' ((first |(with_reducible refine .guard (fun hb =>?_) (fun hb =>?_) <;>try simp only[hb])|refine U.aE (by decide +kernel) rfl fun K hK =>?_|refine .flat _ (f139) rfl ?_|(refine .aA [0,1,2,4,6,7,8,9,10,11,17,31] hK ?_;clear hK K)|(with_reducible refine .done (hK _ ?_);clear hK K)|refine U.of rfl ?_|(with_reducible refine au.aD (fun h =>?_) (fun h =>?_) <;>try simp only[h])) <;>try simp only[aF,R,←hh,zz4,simprocAttr])
   all_goals clear R
   refine ⟨(i,h),⟨by simp only;omega,by simp only;omega,h3,hlo⟩,by simp only;omega,?_⟩;clear hlo;refine bw.cN ?_ ?_ ?_ ?_ <;>simp[cj,ct,cq,bU,aH,cg,dT,I.only,I.cH,ai.only,bK]
   all_goals rfl
  ·rw[hb] at hn;have hhi:∀ k (h':k<l.length),k<h+1→eT l[k].bE a=true:=fun k hkl hk=>by
    by_cases e:k=h
    ·subst e;exact hb
    ·cases hbk:eT l[k].bE a with
     |true=>rfl
     |false =>
      have:=tY (wD hs (show k<h by omega) hhl) hb;rw[this] at hbk;cases hbk
   clear hb;generalize l[h]=r at *;have R:=y6 @hc (y6 @w1 (y6 @w2 (y6 @w5 (y6 @he (y6 @hn (y6 @hw (y6 @Bm (y6 @vr (y6 @Bl (y6 @j8 az))))))))))
   repeat' ((first |(with_reducible refine .guard (fun hb =>?_) (fun hb =>?_) <;>try simp only[hb])|refine U.aE (by decide +kernel) rfl fun K hK =>?_|refine .flat _ (f139) rfl ?_|(refine .aA [0,1,2,4,6,7,8,9,10,11,17,31] hK ?_;clear hK K)|(with_reducible refine .done (hK _ ?_);clear hK K)|refine U.of rfl ?_|(with_reducible refine au.aD (fun h =>?_) (fun h =>?_) <;>try simp only[h])) <;>try simp only[aF,R,←hh,zz4,simprocAttr])
   all_goals clear R
   refine ⟨(h+1,j),⟨by simp only;omega,h2,hhi,h4⟩,by simp only;omega,?_⟩;clear hhi;refine bw.cN ?_ ?_ ?_ ?_ <;>simp[cj,ct,cq,bU,aH,cg,dT,I.only,I.cH,ai.only,bK]
   all_goals rfl
 ·have hij:i=j:=by omega
  subst hij;have hc:=fu hlt;have hp:fD l a=i:=B3 h2 h3 fun h=>h4 i h (Z3 _);have hh:=AG hs a;rw[hp];by_cases hil:i<l.length
  ·have hc2:=eP hil;have he:=fun A=>fJ (A:=A) 8 hil rfl;have hz:=JB l[i].bE a;have hhz:kd l a=decide (l[i].bE=a):=by
    rw[Bool.eq_iff_iff,hh,decide_eq_true_eq];constructor
    ·rintro ⟨_,e⟩;simp only[hp] at e;exact e
    ·intro e;exact ⟨by omega,by simp only[hp];exact e⟩
   have f139:=w8 l[i] a;rw[hhz];clear hhz h3 h4;generalize l[i]=r at *;have R:=y6 @hc (y6 @hc2 (y6 @he (y6 @hz (y6 @j8 az))))
   repeat' ((first |(with_reducible refine .guard (fun hb =>?_) (fun hb =>?_) <;>try simp only[hb])|refine U.aE (by decide +kernel) rfl fun K hK =>?_|refine .flat _ (f139) rfl ?_|(refine .aA [0,1,2,4,6,7,8,9,10,11,17,31] hK ?_;clear hK K)|(with_reducible refine .done (hK _ ?_);clear hK K)|refine U.of rfl ?_|(with_reducible refine au.aD (fun h =>?_) (fun h =>?_) <;>try simp only[h])) <;>try simp only[aF,R,zz4,simprocAttr])
   all_goals clear R
   all_goals rfl
  ·have hc2:=fu hil;have hhz:kd l a=false:=by
    cases q:kd l a
    ·rfl
    ·obtain ⟨h,_⟩:=hh.1 q;omega
   rw[hhz];have R:=y6 @hc (y6 @hc2 az)
   repeat' ((first |(with_reducible refine .guard (fun hb =>?_) (fun hb =>?_) <;>try simp only[hb])|refine U.aE (by decide +kernel) rfl fun K hK =>?_|(refine .aA [0,1,2,4,6,7,8,9,10,11,17,31] hK ?_;clear hK K)|(with_reducible refine .done (hK _ ?_);clear hK K)|refine U.of rfl ?_|(with_reducible refine au.aD (fun h =>?_) (fun h =>?_) <;>try simp only[h])) <;>try simp only[aF,R,simprocAttr])
   all_goals clear R
   all_goals rfl
theorem FD(l:List aj)(a:Item)(hs:pc l)(hl:l.length≤1000):aM Tryz.prog 94 [enc (⟨l⟩:iX),enc a] (.tuple [enc (fD l a:Int),enc (kd l a)]):=by
 have hF:=E9 l a hs hl;refine aM.bL Tryz.func94 H6 Jn KG (t8 rfl) (fun hwf W0 bC E1 =>?_);simp only[y5,Db,bB,Z5];clear hwf;have R:=az
 repeat' ((first |refine U.aE (by decide +kernel) rfl fun K hK =>?_|refine .lead _ (hF) ?_|(refine .aA [0,1,2,3,4,5] hK ?_;clear hK K)|(with_reducible refine .done (hK _ ?_);clear hK K)|refine U.of rfl ?_|(with_reducible refine au.aD (fun h =>?_) (fun h =>?_) <;>try simp only[h])) <;>try simp only[aF,R,simprocAttr])
 all_goals clear R
 all_goals rfl
def kW(x:aj):List aj→Nat→Int
 | [],_=>-1
 |r::l,i=>if x=r then (i:Int) else kW x l (i+1)
theorem AM(x:aj):∀ (l:List aj) (i:Nat),decide (kW x l i≥0)=decide (x∈l)
 | [],i=>by simp[kW]
 |r::l,i=>by
  rw[kW];by_cases h:x=r
  ·rw[if_pos h];subst h;simp
  ·rw[if_neg h,AM x l (i+1)];simp[h]
theorem Ff(l:List aj)(x:aj)(hl:l.length≤1000000000):aM Tryz.prog 159 [enc l,enc x] (enc (kW x l 0)):=by
 refine aM.bL Tryz.func159 Hm ID JW (t8 rfl) (fun hwf W0 bC E1 =>?_);simp only[yl,Ct,bB,Z5];clear hwf;have R:=az
 repeat' ((first |refine U.aE (by decide +kernel) rfl fun K hK =>?_|(refine .aA [0,1,3,4,5,7,8,9,16] hK ?_;clear hK K)|(with_reducible refine .done (hK _ ?_);clear hK K)|refine U.of rfl ?_|(with_reducible refine au.aD (fun h =>?_) (fun h =>?_) <;>try simp only[h])) <;>try simp only[aF,R,simprocAttr])
 all_goals clear R
 refine U.loop (fun i:Nat=>ay [(0,enc l),(3,.ptr 3 []),(7,.int .i64 l.length),(8,.int .i64 i)] [(3,.box (enc x))]) (fun i=>i≤l.length∧kW x l 0=kW x (l.drop i) i) (fun i=>l.length-i) 0 ⟨Nat.zero_le _,by simp⟩ ?_ ?_
 ·refine bw.cN ?_ ?_ ?_ ?_ <;>simp[cj,ct,cq,bU,aH,cg,dT,I.only,ai.only,bK]
  all_goals rfl
 rintro i ⟨hi,heq⟩;rw[heq];by_cases hlt:i<l.length
 ·have hlc:=eP hlt;have he:=fun A=>fJ (A:=A) 8 hlt rfl;have hw:=eG (i:=i) (by omega);have hd:=List.drop_eq_getElem_cons hlt;rw[hd,kW] at heq ⊢;generalize l[i]=r at *;by_cases q:x=r
  ·rw[if_pos q];have q1:decide (x=r)=true:=decide_eq_true q;have R:=y6 @hlc (y6 @he (y6 @hw (y6 @q1 az)))
   repeat' ((first |refine U.aE (by decide +kernel) rfl fun K hK =>?_|(refine .aA [0,1,3,4,5,7,8,9,16] hK ?_;clear hK K)|(with_reducible refine .done (hK _ ?_);clear hK K)|refine U.of rfl ?_|(with_reducible refine au.aD (fun h =>?_) (fun h =>?_) <;>try simp only[h])) <;>try simp only[aF,R,simprocAttr])
   all_goals clear R
   all_goals rfl
  ·rw[if_neg q] at heq ⊢;have q1:decide (x=r)=false:=decide_eq_false q;have R:=y6 @hlc (y6 @he (y6 @hw (y6 @q1 az)))
   repeat' ((first |refine U.aE (by decide +kernel) rfl fun K hK =>?_|(refine .aA [0,1,3,4,5,7,8,9,16] hK ?_;clear hK K)|(with_reducible refine .done (hK _ ?_);clear hK K)|refine U.of rfl ?_|(with_reducible refine au.aD (fun h =>?_) (fun h =>?_) <;>try simp only[h])) <;>try simp only[aF,R,simprocAttr])
   all_goals clear R
   refine ⟨i+1,⟨by omega,rfl⟩,by omega,?_⟩;clear hd heq;refine bw.cN ?_ ?_ ?_ ?_ <;>simp[cj,ct,cq,bU,aH,cg,dT,I.only,ai.only,bK]
   all_goals rfl
 ·have hlc:=fu hlt;rw[List.drop_eq_nil_of_le (by omega),kW];have R:=y6 @hlc az
  repeat' ((first |refine U.aE (by decide +kernel) rfl fun K hK =>?_|(refine .aA [0,1,3,4,5,7,8,9,16] hK ?_;clear hK K)|(with_reducible refine .done (hK _ ?_);clear hK K)|refine U.of rfl ?_|(with_reducible refine au.aD (fun h =>?_) (fun h =>?_) <;>try simp only[h])) <;>try simp only[aF,R,simprocAttr])
  all_goals clear R
  all_goals rfl
theorem E7(l:List aj)(x:aj)(hl:l.length≤1000000000):aM Tryz.prog 136 [enc l,enc x] (enc (decide (x∈l))):=by
 refine aM.bL Tryz.func136 Hc Iu JO (t8 rfl) (fun hwf W0 bC E1 =>?_);simp only[yc,Cl,bB,Z5];clear hwf;have f:=Ff l x hl;have h:=AM x l 0;have R:=y6 @h az
 repeat' ((first |refine U.aE (by decide +kernel) rfl fun K hK =>?_|refine .flat _ (f) rfl ?_|(refine .aA [0,1,3,4] hK ?_;clear hK K)|(with_reducible refine .done (hK _ ?_);clear hK K)|refine U.of rfl ?_|(with_reducible refine au.aD (fun h =>?_) (fun h =>?_) <;>try simp only[h])) <;>try simp only[aF,R,simprocAttr])
 all_goals clear R
 all_goals rfl
def gw(l:List aj):Item:=match l.getLast? with
 |none=>⟨-1,0⟩
 |some a=>a.bE
theorem YT(l:List aj)(r:aj):jx l r=(decide (r.bE=⟨(gw l).bf,(gw l).no+1⟩)||(!decide (r.bf≤(gw l).bf) && !(r.no != 0))):=by
 have e:∀ p:Item,decide ((r.bf=p.bf∧r.no=p.no+1)∨(p.bf<r.bf∧r.no=0))=(decide (r.bE=⟨p.bf,p.no+1⟩)||(!decide (r.bf≤p.bf) && !(r.no != 0))):=fun p=>by
  rw[Bool.eq_iff_iff];simp[aj.bE]
 rcases h:l.getLast? with _ | a
 ·have h1:jx l r=decide ((r.bf=-1∧r.no=1)∨(-1<r.bf∧r.no=0)):=by rw[jx,h]
  have h2:gw l=⟨-1,0⟩:=by rw[gw,h]
  rw[h1,h2];exact e ⟨-1,0⟩
 ·have h1:jx l r=decide ((r.bf=a.bf∧r.no=a.no+1)∨(a.bf<r.bf∧r.no=0)):=by rw[jx,h]
  have h2:gw l=a.bE:=by rw[gw,h]
  rw[h1,h2];exact e a.bE
def nJ(l:List aj):Bool:=ik (fun out r=>bg r&&jx out r) [] l&&decide (l.length≤60)
theorem FX{aR:List aj→aj→Bool}{l:List aj}{i:Nat}(h:i<l.length):ik aR (l.take i) (l.drop i)=(aR (l.take i) l[i]&&ik aR (l.take (i+1)) (l.drop (i+1))):=by
 rw[List.drop_eq_getElem_cons h,ik,←jy h]
theorem zK:I.agg [enc (⟨0,0⟩:Item),.int .i64 0,.int .i64 0,.int .i64 0,enc (⟨0,0⟩:Item),.ah ⟨#[]⟩]=enc (default:aj):=rfl
theorem Ek:(∀ A n b rest (q r:Item),ev A (some 2) n [] b (enc q) rest (some (enc r))=aq rest (A.aP n (.box (enc q))))∧fp [.int .i64 0,.int .i64 0] [(0,.int .i64 (-1))]=some [.int .i64 (-1),.int .i64 0]∧I.agg [.int .i64 (-1),.int .i64 0]=enc (⟨-1,0⟩:Item) ∧
  (∀ (x:Item),(I.agg [.int .i64 x.bf,.int .i64 (x.no+1)])=enc (⟨x.bf,x.no+1⟩:Item)) :=
 ⟨fun A n b rest q r=>by rw[fq (fh _) (by rw[ir];rfl) ((eD _).trans (eD _).symm),fo],rfl,rfl,fun _=>rfl⟩
theorem XJ{l:List aj}{i:Nat}(h:i<l.length):gw (l.take (i+1))=l[i].bE:=by
 rw[gw,jy h,List.getLast?_concat]
theorem XK{l:List aj}(h:∀ r∈l,bg r=true):-1≤(gw l).bf∧(gw l).bf≤5∧0≤(gw l).no∧(gw l).no≤9999:=by
 rw[gw];cases e:l.getLast? with
 |none=>simp
 |some a =>
  have:=p9 (qa (h a (List.mem_of_getLast? e)));simp only[aj.bE];omega
theorem FC(l:List aj)(hl:l.length≤1000000000):aM Tryz.prog 92 [enc (⟨l⟩:iX)] (enc (nJ l)):=by
 refine aM.bL Tryz.func92 H5 Jm KF (t8 rfl) (fun hwf W0 bC E1 =>?_);simp only[yZ,Da,bB];clear hwf;have R:=az
 repeat' ((first |(with_reducible refine .guard (fun hb =>?_) (fun hb =>?_) <;>try simp only[hb])|refine U.aE (by decide +kernel) rfl fun K hK =>?_|(refine .aA [0,1,2,3,4,5,7,8,9,10,16,19,49] hK ?_;clear hK K)|(with_reducible refine .done (hK _ ?_);clear hK K)|refine U.of rfl ?_|(with_reducible refine au.aD (fun h =>?_) (fun h =>?_) <;>try simp only[h])) <;>try simp only[aF,R,simprocAttr])
 all_goals clear R
 refine U.loop (fun i:Nat=>ay [(1,.ptr 1 []),(7,enc l),(8,.int .i64 l.length),(9,.int .i64 i)] [(1,.box (enc (⟨l⟩:iX)))]) (fun i=>i≤l.length∧(∀ r∈l.take i,bg r=true)∧nJ l=(ik (fun out r=>bg r&&jx out r) (l.take i) (l.drop i)&&decide (l.length≤60))) (fun i=>l.length-i) 0 ⟨Nat.zero_le _,by simp,rfl⟩ ?_ ?_
 ·refine bw.cN ?_ ?_ ?_ ?_ <;>simp[cj,ct,cq,bU,aH,cg,dT,I.only,ai.only,bK]
  all_goals rfl
 rintro i ⟨hi,hk,heq⟩;rw[heq];by_cases hlt:i<l.length
 ·have hlc:=eP hlt;have he:=fun A=>fJ (A:=A) 8 hlt rfl;have hw:=eG (i:=i) (by omega);have hnx:=BH hlt hk;have hpi:=XK hk;have hst:=YT (l.take i) l[i];rw[FX hlt] at heq ⊢;have hpz:i=0→gw (l.take i)=⟨-1,0⟩:=fun e=>by subst e;rfl
  have hps:∀ h:0<i,gw (l.take i)=(l[i-1]'(by omega)).bE:=fun h=>by
   have:=XJ (l:=l) (i:=i-1) (by omega)
   rwa [show i-1+1=i by omega] at this
  generalize l[i]=r at *;have f80:=o7 r;cases q1:bg r
  ·rw[q1] at f80;have R:=y6 @hlc (y6 @he (y6 @hw (y6 @ef (y6 @dJ az))))
   repeat' ((first |(with_reducible refine .guard (fun hb =>?_) (fun hb =>?_) <;>try simp only[hb])|refine U.aE (by decide +kernel) rfl fun K hK =>?_|refine .flat _ (f80) rfl ?_|(refine .aA [0,1,2,3,4,5,7,8,9,10,16,19,49] hK ?_;clear hK K)|(with_reducible refine .done (hK _ ?_);clear hK K)|refine U.of rfl ?_|(with_reducible refine au.aD (fun h =>?_) (fun h =>?_) <;>try simp only[h])) <;>try simp only[aF,R,simprocAttr])
   all_goals clear R
   all_goals rfl
  rw[q1] at f80;generalize gw (l.take i)=p at *;have hww:IntKind.i64.wrap (p.no+1)=p.no+1:=dC _ (by omega) (by omega);rw[hst] at heq ⊢;by_cases hz:0<i
  ·have hgt:decide ((i:Int)>0)=true:=decide_eq_true (by omega);have hpe:=fun A=>fJ (A:=A) (l:=l) (k:=i-1) 8 (by omega) rfl;have hw1:IntKind.i64.wrap ((i:Int)-1)=((i-1:Nat):Int):=by rw[dC _ (by omega) (by omega)];omega
   have hpm:=(hps hz).symm;clear hps hpz hst;generalize l[i-1]=q at *;cases c1:decide (r.bE=⟨p.bf,p.no+1⟩) <;>cases c2:decide (r.bf≤p.bf) <;>cases c3:(r.no != 0)
   all_goals
    rw[c1,c2,c3] at heq;have R:=y6 @hlc (y6 @he (y6 @hw (y6 @hgt (y6 @hpm (y6 @hpe (y6 @hw1 (y6 @hww (y6 @c1 (y6 @c2 (y6 @c3 (y6 @zK (y6 @ef (y6 @py (y6 @dJ (y6 @Ek (y6 @kK az))))))))))))))))
    repeat' ((first |(with_reducible refine .guard (fun hb =>?_) (fun hb =>?_) <;>try simp only[hb])|refine U.aE (by decide +kernel) rfl fun K hK =>?_|refine .flat _ (f80) rfl ?_|(refine .aA [0,1,2,3,4,5,7,8,9,10,16,19,49] hK ?_;clear hK K)|(with_reducible refine .done (hK _ ?_);clear hK K)|refine U.of rfl ?_|(with_reducible refine au.aD (fun h =>?_) (fun h =>?_) <;>try simp only[h])) <;>try simp only[aF,R,simprocAttr])
    all_goals clear R
    all_goals first
     |rfl
     |(refine ⟨i+1,⟨by omega,hnx q1,by rfl⟩,by omega,?_⟩;clear heq hnx;(refine bw.cN ?_ ?_ ?_ ?_ <;>simp[cj,ct,cq,bU,aH,cg,dT,I.only,ai.only,bK]);all_goals rfl)
  ·have hgt:decide ((i:Int)>0)=false:=decide_eq_false (by omega);have hpm:=(hpz (by omega)).symm;clear hps hpz hst;cases c1:decide (r.bE=⟨p.bf,p.no+1⟩) <;>cases c2:decide (r.bf≤p.bf) <;>cases c3:(r.no != 0)
   all_goals
    rw[c1,c2,c3] at heq;have R:=y6 @hlc (y6 @he (y6 @hw (y6 @hgt (y6 @hpm (y6 @hww (y6 @c1 (y6 @c2 (y6 @c3 (y6 @zK (y6 @ef (y6 @py (y6 @dJ (y6 @Ek (y6 @kK az))))))))))))))
    repeat' ((first |(with_reducible refine .guard (fun hb =>?_) (fun hb =>?_) <;>try simp only[hb])|refine U.aE (by decide +kernel) rfl fun K hK =>?_|refine .flat _ (f80) rfl ?_|(refine .aA [0,1,2,3,4,5,7,8,9,10,16,19,49] hK ?_;clear hK K)|(with_reducible refine .done (hK _ ?_);clear hK K)|refine U.of rfl ?_|(with_reducible refine au.aD (fun h =>?_) (fun h =>?_) <;>try simp only[h])) <;>try simp only[aF,R,simprocAttr])
    all_goals clear R
    all_goals first
     |rfl
     |(refine ⟨i+1,⟨by omega,hnx q1,by rfl⟩,by omega,?_⟩;clear heq hnx;(refine bw.cN ?_ ?_ ?_ ?_ <;>simp[cj,ct,cq,bU,aH,cg,dT,I.only,ai.only,bK]);all_goals rfl)
 ·have hlc:=fu hlt;rw[List.drop_eq_nil_of_le (by omega),ik];have hle:decide ((l.length:Int)≤60)=decide (l.length≤60):=by rw[decide_eq_decide];omega
  have R:=y6 @hlc (y6 @hle az)
  repeat' ((first |(with_reducible refine .guard (fun hb =>?_) (fun hb =>?_) <;>try simp only[hb])|refine U.aE (by decide +kernel) rfl fun K hK =>?_|(refine .aA [0,1,2,3,4,5,7,8,9,10,16,19,49] hK ?_;clear hK K)|(with_reducible refine .done (hK _ ?_);clear hK K)|refine U.of rfl ?_|(with_reducible refine au.aD (fun h =>?_) (fun h =>?_) <;>try simp only[h])) <;>try simp only[aF,R,simprocAttr])
  all_goals clear R
  all_goals rfl
theorem Ev(l:List aj)(m:Nat):(l++List.replicate m cB).take l.length=l:=List.take_left
theorem tF(l:List aj)(hl:l.length≤1000):aM Tryz.prog 93 [enc l] (enc l):=by
 refine aM.bL Tryz.func93 zf zk zu (t8 rfl) (fun hwf W0 bC E1 =>?_);simp only[ud,vV,bB];refine .dP (by decide +kernel) fun K hK =>?_;simp only[uZ,aZ,simprocAttr];refine .done (hK _ ?_);clear hK K;refine U.seq (U.seq ?_);by_cases hn:l=[]
 ·subst hn;refine .hG (by decide +kernel) fun K hK =>?_;simp only[pI,aZ,simprocAttr];simp only[tp,List.isEmpty_nil,ou];refine .any rfl fun b _ =>?_
  try simp only[aZ,simprocAttr]
  generalize (b==0)=t;cases t
  ·refine .done (hK _ ?_);clear hK K;try simp only[cT]
   refine U.gG ?_;simp only[au,aZ,simprocAttr];refine ⟨fun h =>?_,fun h =>?_⟩
   ·cases h
   refine U.skip ?_;try simp only[cT,simprocAttr]
   refine .dP (by decide +kernel) fun K hK =>?_;simp only[pJ,aZ,simprocAttr]
   try simp only[ij,kP,aZ,simprocAttr]
   refine .done (hK _ ?_);clear hK K;refine U.ret ?_;simp only[aZ,simprocAttr]
   all_goals rfl
  ·refine .done (hK _ ?_);clear hK K;refine U.gG ?_;simp only[au,aZ,simprocAttr];refine ⟨fun h =>?_,fun h =>?_⟩
   ·refine .dP (by decide +kernel) fun K hK =>?_;simp only[u1,aZ,simprocAttr];refine .done (hK _ ?_);clear hK K;refine U.ret ?_;simp only[cT,aZ,simprocAttr]
    all_goals rfl
   ·cases h
 ·have hu:iV (enc l)=false:=by rw[tp];simpa using hn
  refine .hG (by decide +kernel) fun K hK =>?_;simp only[pI,aZ,simprocAttr]
  try simp only[hu,Br _ l hn,aZ,simprocAttr]
  refine .done (hK _ ?_);clear hK K;try simp only[cT]
  refine U.gG ?_;simp only[au,aZ,simprocAttr];refine ⟨fun h =>?_,fun h =>?_⟩
  ·cases h
  refine U.skip ?_;try simp only[cT,simprocAttr]
  refine .dP (by decide +kernel) fun K hK =>?_;simp only[pJ,aZ,simprocAttr]
  try simp only[ij,kP,aZ,simprocAttr]
  refine aY.tQ cB rfl hn rfl (by omega) (by simp only[maxLen];omega) fun m =>?_
  try simp only[aZ,simprocAttr]
  refine .done (hK _ ?_);clear hK K;refine U.ret ?_;simp only[aZ,simprocAttr]
  try simp only[rE (α:=aj) (sz:=8) rfl,Ev,aZ,simprocAttr]
def AO(g:aj):bY:=fun r os'=>∃ q,r=.view 25 [] 8 0 1∧os'=eR 25 [g] q
theorem D7(A:ab):jw A 8 (some (.int .i64 0)) none none (.c0 8)=some (.slice 8 [])∧jw A 8 (some (.int .i64 0)) none none (.nils 8)=some (.slice 8 []):=by
 constructor <;>simp[jw,iF,gR]
theorem ET(x:I)(hx:x=.nils 8∨x=.c0 8)(g:aj):eJ Tryz.prog 101 [x,enc (0:Int),enc [g]] [] (AO g):=by
 rcases hx with rfl | rfl
 ·refine eJ.bL Tryz.func101 ue ug uo (t8 rfl) (t8 rfl) (fun m hm=>by simp[aH,aJ] at hm) (fun hwf W0 bC E1 =>?_);simp only[ri,sL,bB,Z5,Nat.reduceAdd];refine .dP (by decide +kernel) fun K hK =>?_;simp only[rI,aZ];refine .done (hK _ ?_);clear hK K;refine .dP (by decide +kernel) fun K hK =>?_;simp only[rJ,aZ,Nat.reduceEqDiff,reduceIte]
  try simp only[zy8,(D7 _).2,aZ]
  refine .done (hK _ ?_);clear hK K;refine .dP (by decide +kernel) fun K hK =>?_;simp only[rK,aZ,Nat.reduceEqDiff,reduceIte]
  try simp only[typR,iW,jQ,jg,aZ,Nat.reduceEqDiff,reduceIte,Int.reduceBNe,Int.reduceBEq]
  refine .done (hK _ ?_);clear hK K;refine U.seq (U.seq ?_);refine .hG (by decide +kernel) fun K hK =>?_;simp only[rL,aZ,Nat.reduceEqDiff,reduceIte]
  try simp only[typR,iW,jQ,jg,aZ,Nat.reduceEqDiff,reduceIte,Int.reduceBNe,Int.reduceBEq]
  refine .done (hK _ ?_);clear hK K;try simp only[cT]
  refine U.gG ?_;simp only[au,aZ,Nat.reduceEqDiff,reduceIte];refine ⟨fun h =>?_,fun h =>?_⟩
  ·first | cases h | simp at h
  refine U.skip ?_;try simp only[cT]
  refine .dP (by decide +kernel) fun K hK =>?_;simp only[rM,aZ,Nat.reduceEqDiff,reduceIte]
  try simp only[typR,iW,jQ,jg,aZ,Nat.reduceEqDiff,reduceIte,Int.reduceBNe,Int.reduceBEq]
  refine .done (hK _ ?_);clear hK K;refine U.seq (U.seq ?_);refine .hG (by decide +kernel) fun K hK =>?_;simp only[rN,aZ,Nat.reduceEqDiff,reduceIte,Int.reduceBEq]
  try simp only[typR,iW,jQ,jg,aZ,Nat.reduceEqDiff,reduceIte,Int.reduceBNe,Int.reduceBEq]
  refine .done (hK _ ?_);clear hK K;try simp only[cT]
  refine U.gG ?_;simp only[au,aZ,Nat.reduceEqDiff,reduceIte];refine ⟨fun h =>?_,fun h =>?_⟩
  case refine_2.refine_2=>first | cases h | simp at h
  refine .dP (by decide +kernel) fun K hK =>?_;simp only[pH,aZ,Nat.reduceEqDiff,reduceIte]
  try simp only[kP]
  refine aY.F7 (esz:=8) cB (l:=[g]) rfl (by simp) rfl (by simp) (by simp[maxLen]) fun q =>?_
  try simp only[aZ,Nat.reduceEqDiff,reduceIte]
  refine .done (hK _ ?_);clear hK K;refine U.ret ?_;simp only[cT,jU];exact ⟨eR 25 [g] q,[.view 25 [] 8 0 1],n5 rfl (fun p=>fZ p _),⟨⟨_,rfl,.inl ⟨rfl,rfl,rfl⟩⟩,trivial⟩,q,rfl,rfl⟩
 ·refine eJ.bL Tryz.func101 ue ug uo (t8 rfl) (t8 rfl) (fun m hm=>by simp[aH,aJ] at hm) (fun hwf W0 bC E1 =>?_);simp only[ri,sL,bB,Z5,Nat.reduceAdd];refine .dP (by decide +kernel) fun K hK =>?_;simp only[rI,aZ];refine .done (hK _ ?_);clear hK K;refine .dP (by decide +kernel) fun K hK =>?_;simp only[rJ,aZ,Nat.reduceEqDiff,reduceIte]
  try simp only[zy8,(D7 _).1,aZ]
  refine .done (hK _ ?_);clear hK K;refine .dP (by decide +kernel) fun K hK =>?_;simp only[rK,aZ,Nat.reduceEqDiff,reduceIte]
  try simp only[typR,iW,jQ,jg,aZ,Nat.reduceEqDiff,reduceIte,Int.reduceBNe,Int.reduceBEq]
  refine .done (hK _ ?_);clear hK K;refine U.seq (U.seq ?_);refine .hG (by decide +kernel) fun K hK =>?_;simp only[rL,aZ,Nat.reduceEqDiff,reduceIte]
  try simp only[typR,iW,jQ,jg,aZ,Nat.reduceEqDiff,reduceIte,Int.reduceBNe,Int.reduceBEq]
  refine .done (hK _ ?_);clear hK K;try simp only[cT]
  refine U.gG ?_;simp only[au,aZ,Nat.reduceEqDiff,reduceIte];refine ⟨fun h =>?_,fun h =>?_⟩
  ·first | cases h | simp at h
  refine U.skip ?_;try simp only[cT]
  refine .dP (by decide +kernel) fun K hK =>?_;simp only[rM,aZ,Nat.reduceEqDiff,reduceIte]
  try simp only[typR,iW,jQ,jg,aZ,Nat.reduceEqDiff,reduceIte,Int.reduceBNe,Int.reduceBEq]
  refine .done (hK _ ?_);clear hK K;refine U.seq (U.seq ?_);refine .hG (by decide +kernel) fun K hK =>?_;simp only[rN,aZ,Nat.reduceEqDiff,reduceIte,Int.reduceBEq]
  try simp only[typR,iW,jQ,jg,aZ,Nat.reduceEqDiff,reduceIte,Int.reduceBNe,Int.reduceBEq]
  refine .done (hK _ ?_);clear hK K;try simp only[cT]
  refine U.gG ?_;simp only[au,aZ,Nat.reduceEqDiff,reduceIte];refine ⟨fun h =>?_,fun h =>?_⟩
  case refine_2.refine_2=>first | cases h | simp at h
  refine .dP (by decide +kernel) fun K hK =>?_;simp only[pH,aZ,Nat.reduceEqDiff,reduceIte]
  try simp only[kP]
  refine aY.tQ (esz:=8) cB (l:=[g]) rfl (by simp) rfl (by simp) (by simp[maxLen]) fun q =>?_
  try simp only[aZ,Nat.reduceEqDiff,reduceIte]
  refine .done (hK _ ?_);clear hK K;refine U.ret ?_;simp only[cT,jU];exact ⟨eR 25 [g] q,[.view 25 [] 8 0 1],n5 rfl (fun p=>fZ p _),⟨⟨_,rfl,.inl ⟨rfl,rfl,rfl⟩⟩,trivial⟩,q,rfl,rfl⟩
theorem dF.hE{aG:Bool}{ρ:List (Nat×Nat)}{k:Nat}{x:ai}{os0:List (Nat×ai)}{r c:I}(h1:∀ p,c.only p=true)(h2:aG=true→c.cY=true)(h3:r.only (aH [(k,.box c)])=true)(h4:aG=true→r.cY=true):dF aG ρ [(k,x)] os0 r [(k,.box c)]:=by
 refine ⟨fun m x h =>?_,fun m m' h h' _ =>?_,fun m h =>?_,fun m h h' =>?_,h3,h4⟩
 ·simp only[aJ] at h;split at h
  ·simp only[v6] at h;subst h;exact ⟨h1 _,rfl,h2⟩
  ·cases h
 ·rw[gF.1 h,gF.1 h']
 ·rw[gF.1 h];exact gF.2 rfl
 ·rw[gF.1 h] at h';have:aH [(k,x)] k=true:=gF.2 rfl;rw[this] at h';cases h'
theorem dF.oQ{aG:Bool}{ρ:List (Nat×Nat)}{k k' d d':Nat}{x:ai}{os0:List (Nat×ai)}{r c c':I}(hk:bp ρ k=d)(hk':bp ρ k'=d')(hd:d≠d')(hne:k≠k')(h1:∀ p,c.only p=true)(h2:aG=true→c.cY=true)(h1':∀ p,c'.only p=true)(h2':aG=true→c'.cY=true)
  (h3:r.only (aH [(k,.box c),(k',.box c')])=true) (h4:aG=true→r.cY=true) (h5:aJ os0 d=none) (h6:d<1000000):dF aG ρ [(k',x)] os0 r [(k,.box c),(k',.box c')]:=by
 have oQ:∀ m,aH [(k,ai.box c),(k',ai.box c')] m=true→m=k∨m=k':=fun m h=>by
  simp only[aH,aJ] at h;split at h
  ·rename_i e;exact .inl e
  ·split at h
   ·rename_i e;exact .inr e
   ·cases h
 refine ⟨fun m y h =>?_,fun m m' h h' e =>?_,fun m h =>?_,fun m h h' =>?_,h3,h4⟩
 ·simp only[aJ] at h;split at h
  ·simp only[v6] at h;subst h;exact ⟨h1 _,rfl,h2⟩
  ·split at h
   ·simp only[v6] at h;subst h;exact ⟨h1' _,rfl,h2'⟩
   ·cases h
 ·rcases oQ m h with rfl | rfl <;>rcases oQ m' h' with rfl | rfl
  ·rfl
  ·rw[hk,hk'] at e;exact absurd e hd
  ·rw[hk,hk'] at e;exact absurd e.symm hd
  ·rfl
 ·rw[gF.1 h];simp[aH,aJ,Ne.symm hne]
 ·rcases oQ m h with rfl | rfl
  ·rw[hk];exact ⟨h5,h6⟩
  ·have:aH [(m,x)] m=true:=gF.2 rfl;rw[this] at h';cases h'
def jc(l:List aj)(r:aj):List aj×Int :=
 if nJ l=false then ([],81) else if bg r=false then ([],80)
 else if kd l r.bE=true then (if l.getD (fD l r.bE) default=r then (l,0) else ([],82))
 else if (fg l r.bf:Int)<r.no then ([],83) else if l.length=60 then ([],2) else (fX l (fD l r.bE) r,0)
theorem xz{aR:List aj→aj→Bool} : ∀ {l out:List aj},ik (fun out r=>bg r&&aR out r) out l=true↔(∀ r∈l,bg r=true)∧ik aR out l=true
 | [],_=>by simp[ik]
 |r::l,out=>by
  simp only[ik,Z0,xz (l:=l),zx4,forall_eq_or_imp];constructor
  ·rintro ⟨⟨h1,h2⟩,h3,h4⟩;exact ⟨⟨h1,h3⟩,h2,h4⟩
  ·rintro ⟨⟨h1,h3⟩,h2,h4⟩;exact ⟨⟨h1,h2⟩,h3,h4⟩
structure FG (l:List aj):Prop where
 ok:∀ r∈l,bg r=true
 Ej:pc l
 len:l.length≤60
 step:ik jx [] l=true
theorem Xh{r:aj}(h:bg r=true):0≤r.bf∧0≤r.no:=by have:=p9 (qa h);omega
theorem GP{l:List aj}(h:nJ l=true):FG l:=by
 simp only[nJ,Z0,decide_eq_true_eq] at h;obtain ⟨h1,h2⟩:=h;obtain ⟨h3,h4⟩:=xz.1 h1;refine ⟨h3,?_,h2,h4⟩;have:=xP l [] trivial (fun r hr=>Xh (h3 r hr)) h4 List.Pairwise.nil;simpa using this
theorem iI:(∀ A n b rest,ev A (some 1) n [] b (.agg [.nils 8]) rest (some (.agg [.nils 8]))=aq rest (A.aP n (.box (.agg [.nils 8])))) ∧
  (∀ A n b rest m p lo k,ev A (some 1) n [] b (.agg [.view m p 8 lo k]) rest (some (.agg [.nils 8]))=aq rest (A.aP n (.box (.agg [.view m p 8 lo k])))) ∧
  (∀ A n b rest (l:List aj),ev A (some 1) n [] b (.agg [enc l]) rest (some (.agg [.nils 8]))=aq rest (A.aP n (.box (.agg [enc l])))) ∧
  (∀ l:List aj,fp [.nils 8] [(0,enc l)]=some [enc l])∧(∀ m p lo k,fp [.nils 8] [(0,.view m p 8 lo k)]=some [.view m p 8 lo k])∧(∀ l:List aj,bV (some 1) (.agg [enc l])=true)∧bV (some 1) (.agg [.nils 8])=true∧(∀ m p lo k,bV (some 1) (.agg [.view m p 8 lo k])=true) :=
 ⟨fun A n b rest=>by rw[fq (s:=some 1) (v:=.agg [.nils 8]) (old:=.agg [.nils 8]) rfl rfl rfl,fo],fun A n b rest m p lo k=>by rw[fq (s:=some 1) (v:=.agg [.view m p 8 lo k]) (old:=.agg [.nils 8]) rfl rfl rfl,fo],
  fun A n b rest l=>by rw[fq (s:=some 1) (v:=.agg [enc l]) (old:=.agg [.nils 8]) rfl rfl rfl,fo],fun _=>rfl,fun _ _ _ _=>rfl,fun _=>rfl,rfl,fun _ _ _ _=>rfl⟩
theorem Fu(l:List aj)(r:aj)(hl:l.length≤1000000000):aM Tryz.prog 44 [enc (⟨l⟩:iX),enc r] (.tuple [enc (⟨(jc l r).1⟩:iX),enc (jc l r).2]):=by
 refine aM.bL Tryz.func44 HJ I2 Kj (t8 rfl) (fun hwf W0 bC E1 =>?_);simp only[yJ,CQ,bB,Z5];clear hwf;have f92:=FC l hl;simp only[jc];cases q1:nJ l
 ·rw[q1] at f92;simp only[if_true];have R:=y6 @iI az
  repeat' ((first |(with_reducible refine .guard (fun hb =>?_) (fun hb =>?_) <;>try simp only[hb])|refine U.aE (by decide +kernel) rfl fun K hK =>?_|refine .flat _ (f92) rfl ?_|(refine .aA [0,1,2,3,4,5,6,7,8,13,25,40,43,56] hK ?_;clear hK K)|(with_reducible refine .done (hK _ ?_);clear hK K)|refine U.of rfl ?_|(with_reducible refine au.aD (fun h =>?_) (fun h =>?_) <;>try simp only[h])) <;>try simp only[aF,R,simprocAttr])
  all_goals clear R
  all_goals rfl
 rw[q1] at f92;have hb:=GP q1;have f80:=o7 r;simp only[Bool.true_eq_false,if_false];cases q2:bg r
 ·rw[q2] at f80;simp only[if_true];have R:=y6 @iI az
  repeat' ((first |(with_reducible refine .guard (fun hb =>?_) (fun hb =>?_) <;>try simp only[hb])|refine U.aE (by decide +kernel) rfl fun K hK =>?_|refine .flat _ (f92) rfl ?_|refine .flat _ (f80) rfl ?_|(refine .aA [0,1,2,3,4,5,6,7,8,13,25,40,43,56] hK ?_;clear hK K)|(with_reducible refine .done (hK _ ?_);clear hK K)|refine U.of rfl ?_|(with_reducible refine au.aD (fun h =>?_) (fun h =>?_) <;>try simp only[h])) <;>try simp only[aF,R,simprocAttr])
  all_goals clear R
  all_goals rfl
 rw[q2] at f80;simp only[Bool.true_eq_false,if_false];have hlen:=hb.len;have f94:=FD l r.bE hb.Ej (by omega);have hpl:=XG l r.bE;have hcl:=tF l (by omega);cases q3:kd l r.bE
 rotate_left
 ·rw[q3] at f94;obtain ⟨hp,hat⟩:=(AG hb.Ej r.bE).1 q3;simp only[if_true];have hg:l.getD (fD l r.bE) default=l[fD l r.bE]:=by simp[zz6,hp]
  rw[hg];have he:=fun A=>fJ (A:=A) 8 hp rfl;generalize l[fD l r.bE]=x at *;generalize fD l r.bE=p at *;by_cases q4:x=r
  ·have q4':decide (x=r)=true:=decide_eq_true q4;rw[if_pos q4];have R:=y6 @he (y6 @q4' (y6 @iI az))
   repeat' ((first |(with_reducible refine .guard (fun hb =>?_) (fun hb =>?_) <;>try simp only[hb])|refine U.aE (by decide +kernel) rfl fun K hK =>?_|refine .flat _ (f92) rfl ?_|refine .flat _ (f80) rfl ?_|refine .lead _ (f94) ?_|refine .lead _ (hcl) ?_|(refine .aA [0,1,2,3,4,5,6,7,8,13,25,40,43,56] hK ?_;clear hK K)|(with_reducible refine .done (hK _ ?_);clear hK K)|refine U.of rfl ?_|(with_reducible refine au.aD (fun h =>?_) (fun h =>?_) <;>try simp only[h])) <;>try simp only[aF,R,simprocAttr])
   all_goals clear R
   all_goals rfl
  ·have q4':decide (x=r)=false:=decide_eq_false q4;rw[if_neg q4];have R:=y6 @he (y6 @q4' (y6 @iI az))
   repeat' ((first |(with_reducible refine .guard (fun hb =>?_) (fun hb =>?_) <;>try simp only[hb])|refine U.aE (by decide +kernel) rfl fun K hK =>?_|refine .flat _ (f92) rfl ?_|refine .flat _ (f80) rfl ?_|refine .lead _ (f94) ?_|refine .lead _ (hcl) ?_|(refine .aA [0,1,2,3,4,5,6,7,8,13,25,40,43,56] hK ?_;clear hK K)|(with_reducible refine .done (hK _ ?_);clear hK K)|refine U.of rfl ?_|(with_reducible refine au.aD (fun h =>?_) (fun h =>?_) <;>try simp only[h])) <;>try simp only[aF,R,simprocAttr])
   all_goals clear R
   all_goals rfl
 rw[q3] at f94;simp only[Z8,if_false];have hin:pL l:=fun x hx=>lV (hb.ok x hx);have f100:=wX l hl hin;have hix:=vg l (lV q2);by_cases q5:(fg l r.bf:Int)<r.no
 ·have q5':decide ((fg l r.bf:Int)<r.no)=true:=decide_eq_true q5;rw[if_pos q5];have R:=y6 @hix (y6 @q5' (y6 @kz (y6 @iI az)))
  repeat' ((first |(with_reducible refine .guard (fun hb =>?_) (fun hb =>?_) <;>try simp only[hb])|refine U.aE (by decide +kernel) rfl fun K hK =>?_|refine .flat _ (f92) rfl ?_|refine .flat _ (f80) rfl ?_|refine .lead _ (f94) ?_|refine .lead _ (f100) ?_|(refine .aA [0,1,2,3,4,5,6,7,8,13,25,40,43,56] hK ?_;clear hK K)|(with_reducible refine .done (hK _ ?_);clear hK K)|refine U.of rfl ?_|(with_reducible refine au.aD (fun h =>?_) (fun h =>?_) <;>try simp only[h])) <;>try simp only[aF,R,simprocAttr])
  all_goals clear R
  all_goals rfl
 have q5':decide ((fg l r.bf:Int)<r.no)=false:=decide_eq_false q5;rw[if_neg q5];by_cases q6:l.length=60
 ·have q6':((l.length:Int)==60)=true:=by rw[beq_iff_eq];omega
  rw[if_pos q6];have R:=y6 @hix (y6 @q5' (y6 @q6' (y6 @kz (y6 @iI az))))
  repeat' ((first |(with_reducible refine .guard (fun hb =>?_) (fun hb =>?_) <;>try simp only[hb])|refine U.aE (by decide +kernel) rfl fun K hK =>?_|refine .flat _ (f92) rfl ?_|refine .flat _ (f80) rfl ?_|refine .lead _ (f94) ?_|refine .lead _ (f100) ?_|(refine .aA [0,1,2,3,4,5,6,7,8,13,25,40,43,56] hK ?_;clear hK K)|(with_reducible refine .done (hK _ ?_);clear hK K)|refine U.of rfl ?_|(with_reducible refine au.aD (fun h =>?_) (fun h =>?_) <;>try simp only[h])) <;>try simp only[aF,R,simprocAttr])
  all_goals clear R
  all_goals rfl
 have q6':((l.length:Int)==60)=false:=by rw[beq_eq_false_iff_ne];omega
 rw[if_neg q6];have hbs:gD 8 (some [enc r])=some (enc [r]):=po 8 r rfl;have R:=y6 @hix (y6 @q5' (y6 @q6' (y6 @hbs (y6 @kz (y6 @iI az)))))
 repeat' ((first |(with_reducible refine .guard (fun hb =>?_) (fun hb =>?_) <;>try simp only[hb])|(refine U.jt (gs:=uU) [101] [(2,[2]),(3,[3]),(4,[4]),(62,[2])] [0,1,3,4,5,2,6,7,8,9] (by decide +kernel) (dq.of (by simp[gW,cg,Bj,I.only])) fun K hK =>?_;simp only[iA,uU,List.getD_cons_zero,List.getD_cons_succ,R,simprocAttr])|refine U.aE (by decide +kernel) rfl fun K hK =>?_|refine .flat _ (f92) rfl ?_|refine .flat _ (f80) rfl ?_|refine .lead _ (f94) ?_|refine .lead _ (f100) ?_|(refine .aA [0,1,2,3,4,5,6,7,8,13,25,40,43,56] hK ?_;clear hK K)|(with_reducible refine .done (hK _ ?_);clear hK K)|refine U.of rfl ?_|(with_reducible refine au.aD (fun h =>?_) (fun h =>?_) <;>try simp only[h])) <;>try simp only[aF,R,simprocAttr])
 all_goals clear R
 obtain ⟨ao,hL⟩:∃ ao,ao=fX l (fD l r.bE) r:=⟨_,rfl⟩
 have hLn:l.length+1=ao.length:=by rw[hL,Vp r hpl]
 have hfin:∀ q,kR 8 0 (l.length+1) (some ((ao++List.replicate q cB).map enc))=some (enc ao):=fun q=>by
  rw[rE (α:=aj) (sz:=8) rfl,hLn,Ev]
 refine .bx [(7,64)] [enc l] (rn l) (xp l (by omega)) eK.nil ⟨.inl ⟨(iP _ _).symm,bK _ _,fh _⟩,trivial⟩ ?_ ?_
 ·rintro x os' (⟨_,h | h,rfl⟩ | ⟨_,k,rfl,rfl⟩)
  ·subst h;exact dF.nil (fun _=>rfl) (fun h=>by cases h)
  ·subst h;exact dF.nil (fun _=>rfl) (fun h=>by cases h)
  ·exact dF.vC (fun p=>fZ p _) (fun h=>by cases h) rfl (fun h=>by cases h) rfl (by decide)
 rintro x os' (⟨hn,h,rfl⟩ | ⟨hn,k,rfl,rfl⟩)
 ·have hren:x.aS (bp [(7,64)])=x∧x.cn=true∧∀ q,x.only q=true:=by rcases h with rfl | rfl <;>exact ⟨by simp only[I.aS],rfl,fun _=>rfl⟩
  have hren2:x.aS (bp [(25,68)])=x:=by rcases h with rfl | rfl <;>simp only[I.aS]
  have hpos:fD l r.bE=0:=by rw[hn];rfl
  rw[hren.1,hpos]
  try simp only[oF,zy7,az,aZ,simprocAttr]
  refine .bx [(25,68)] [x,enc (0:Int),enc [r]] (AO r) (ET x h r) eK.nil ⟨.inl ⟨hren2.symm,hren.2.2 _,hren.2.1⟩,.inl ⟨rfl,rfl,rfl⟩,.inl ⟨(iP _ _).symm,bK _ _,fh _⟩,trivial⟩ ?_ ?_
  ·rintro x os' ⟨k,rfl,rfl⟩;exact dF.vC (fun p=>fZ p _) (fun h=>by cases h) rfl (fun h=>by cases h) rfl (by decide)
  ·rintro x os' ⟨k,rfl,rfl⟩;have hLg:[r]=ao:=by rw[hL,hpos,hn];rfl
   have hf1:=hfin k;rw[hn] at hf1;simp only[zy6,Z5] at hf1;rw[hLg]
   try simp only[eR,oF,mV,zz4,zy7,iI,aZ,simprocAttr]
   refine .done (hK _ ?_);clear hK K;refine U.ret ?_;simp only[aZ,simprocAttr]
   try simp only[hf1,iI,aZ,simprocAttr]
   rw[←hL];rfl
 ·try simp only[eR,oF,mV,zz4,zy7,az,aZ,simprocAttr]
  refine .vF false [(1000000,64),(25,68),(40,69)] (eR 1000000 l k) [.view 1000000 [] 8 0 l.length,enc (fD l r.bE:Int),enc [r]] (AP l (fD l r.bE) r k) rfl (ES l (fD l r.bE) r k hpl hn (by omega)) ⟨?_,?_⟩ ⟨.inl ⟨?_,?_,rfl⟩,.inl ⟨rfl,rfl,rfl⟩,.inl ⟨(iP _ _).symm,bK _ _,fh _⟩,trivial⟩ ?_ ?_
  ·intro n x h;simp only[eR,aJ] at h;split at h
   ·rename_i hn';subst hn';simp only[v6] at h;subst h;exact ⟨by simp only[oF,mV,aZ,simprocAttr],fZ _ _,rfl⟩
   ·cases h
  ·intro a b ha hb _;rw[Go.Abs.gF.1 ha,Go.Abs.gF.1 hb]
  ·try simp only[oF,simprocAttr]
  ·exact Go.Abs.gF.2 rfl
  ·rintro x os' (⟨q,rfl,rfl⟩ | ⟨d,q,rfl | rfl,rfl,rfl⟩)
   ·exact dF.hE (fun p=>fZ p _) (fun h=>by cases h) rfl (fun h=>by cases h)
   ·exact dF.oQ rfl rfl (by decide) (by decide) (fun p=>fZ p _) (fun h=>by cases h) (fun p=>fZ p _) (fun h=>by cases h) rfl (fun h=>by cases h) rfl (by decide)
   ·exact dF.oQ rfl rfl (by decide) (by decide) (fun p=>fZ p _) (fun h=>by cases h) (fun p=>fZ p _) (fun h=>by cases h) rfl (fun h=>by cases h) rfl (by decide)
  ·rintro x os' (⟨q,rfl,rfl⟩ | ⟨d,q,rfl | rfl,rfl,rfl⟩)
   all_goals
    rw[←hL];have hf1:=hfin q
    try simp only[eR,oF,mV,zz4,zy7,iI,aZ,simprocAttr]
    refine .done (hK _ ?_);clear hK K;refine U.ret ?_;simp only[aZ,simprocAttr]
    try simp only[hf1,iI,aZ,simprocAttr]
    rw[←hL];rfl
end Go.Proofs.YtoffnnjbplgnaaaGreatDoor
namespace Go.Proofs.YtoffnnjbplgnaaaGreatDoor
open Go Go.Abs Go.Shelf Go.RowKit Go.Sort Go.Proofs
open Go.Abs.Enc (enc)
def A8:Go.Shelf.Ren:=⟨fun | 6=>141 | 15=>163 | 14=>162 | 28=>184 | 29=>185 | 20=>176 | 21=>177 | 22=>178 | 23=>179 | 24=>180 | 25=>181 | 26=>182 | 27=>183 | 46=>199 | 47=>200 | 48=>201 | 49=>202 | 50=>203 | 57=>213 | n=>n,fun | 22=>23 | 24=>50 | 25=>188 | 3=>3 | 39=>208 | 0=>0 | 53=>225 | 55=>227 | 4=>4 | 46=>219 | 45=>218 | 50=>144 | 5=>5 | 9=>9 | 66=>243 | 70=>247 | 76=>258 | 77=>259 | n=>n,fun | n=>n⟩
theorem VS:Go.Proofs.SlLaysF0.n6 Tryz.prog A8 := {
 mixed:=by kernel_rfl
 f6 := ⟨ "slices.SortFunc[[]pinfold/api.Record,pinfold/api.Record]", by decide, Tryz.func141.trans (congrArg some (by kernel_rfl))⟩
 f14 := ⟨ "slices.pdqsortCmpFunc[pinfold/api.Record]", by decide, Tryz.func162.trans (congrArg some (by kernel_rfl))⟩
 f15:=Tryz.func163.trans (congrArg some (by kernel_rfl))
 f20 := ⟨ "slices.insertionSortCmpFunc[pinfold/api.Record]", by decide, Tryz.func176.trans (congrArg some (by kernel_rfl))⟩
 f21 := ⟨ "slices.heapSortCmpFunc[pinfold/api.Record]", by decide, Tryz.func177.trans (congrArg some (by kernel_rfl))⟩
 f22 := ⟨ "slices.breakPatternsCmpFunc[pinfold/api.Record]", by decide, Tryz.func178.trans (congrArg some (by kernel_rfl))⟩
 f23 := ⟨ "slices.choosePivotCmpFunc[pinfold/api.Record]", by decide, Tryz.func179.trans (congrArg some (by kernel_rfl))⟩
 f24 := ⟨ "slices.reverseRangeCmpFunc[pinfold/api.Record]", by decide, Tryz.func180.trans (congrArg some (by kernel_rfl))⟩
 f25 := ⟨ "slices.partialInsertionSortCmpFunc[pinfold/api.Record]", by decide, Tryz.func181.trans (congrArg some (by kernel_rfl))⟩
 f26 := ⟨ "slices.partitionEqualCmpFunc[pinfold/api.Record]", by decide, Tryz.func182.trans (congrArg some (by kernel_rfl))⟩
 f27 := ⟨ "slices.partitionCmpFunc[pinfold/api.Record]", by decide, Tryz.func183.trans (congrArg some (by kernel_rfl))⟩
 f28:=Tryz.func184.trans (congrArg some (by kernel_rfl))
 f29:=Tryz.func185.trans (congrArg some (by kernel_rfl))
 f46 := ⟨ "slices.siftDownCmpFunc[pinfold/api.Record]", by decide, Tryz.func199.trans (congrArg some (by kernel_rfl))⟩
 f47:=Tryz.func200.trans (congrArg some (by kernel_rfl))
 f48:=Tryz.func201.trans (congrArg some (by kernel_rfl))
 f49 := ⟨ "slices.medianAdjacentCmpFunc[pinfold/api.Record]", by decide, Tryz.func202.trans (congrArg some (by kernel_rfl))⟩
 f50 := ⟨ "slices.medianCmpFunc[pinfold/api.Record]", by decide, Tryz.func203.trans (congrArg some (by kernel_rfl))⟩
 f57 := ⟨ "slices.order2CmpFunc[pinfold/api.Record]", by decide, Tryz.func213.trans (congrArg some (by kernel_rfl))⟩
 t0:=Tryz.underlying0
 a0:=Tryz.isAgg0
 z0:=Tryz.sizeOf0
 v0:=Tryz.zeroValue0
 t3:=Tryz.underlying3
 a3:=Tryz.isAgg3
 z3:=Tryz.sizeOf3
 v3:=Tryz.zeroValue3
 t4:=Tryz.underlying4
 a4:=Tryz.isAgg4
 z4:=Tryz.sizeOf4
 v4:=Tryz.zeroValue4
 t5:=Tryz.underlying5
 a5:=Tryz.isAgg5
 z5:=Tryz.sizeOf5
 v5:=Tryz.zeroValue5
 t9:=Tryz.underlying9
 a9:=Tryz.isAgg9
 z9:=Tryz.sizeOf9
 v9:=Tryz.zeroValue9
 t22:=Tryz.underlying23
 a22:=Tryz.isAgg23
 z22:=Tryz.sizeOf23
 v22:=Tryz.zeroValue23
 t25:=Tryz.underlying188
 a25:=Tryz.isAgg188
 z25:=Tryz.sizeOf188
 v25:=Tryz.zeroValue188
 t39:=Tryz.underlying208
 a39:=Tryz.isAgg208
 z39:=Tryz.sizeOf208
 v39:=Tryz.zeroValue208
 t45:=Tryz.underlying218
 a45:=Tryz.isAgg218
 z45:=Tryz.sizeOf218
 v45:=Tryz.zeroValue218
 t46:=Tryz.underlying219
 a46:=Tryz.isAgg219
 z46:=Tryz.sizeOf219
 v46:=Tryz.zeroValue219
 t50:=Tryz.underlying144
 a50:=Tryz.isAgg144
 z50:=Tryz.sizeOf144
 v50:=Tryz.zeroValue144
 t53:=Tryz.underlying225
 a53:=Tryz.isAgg225
 z53:=Tryz.sizeOf225
 v53:=Tryz.zeroValue225
 t55:=Tryz.underlying227
 a55:=Tryz.isAgg227
 z55:=Tryz.sizeOf227
 v55:=Tryz.zeroValue227
 t66:=Tryz.underlying243
 a66:=Tryz.isAgg243
 z66:=Tryz.sizeOf243
 v66:=Tryz.zeroValue243
 t70:=Tryz.underlying247
 a70:=Tryz.isAgg247
 z70:=Tryz.sizeOf247
 v70:=Tryz.zeroValue247
 t76:=Tryz.underlying258
 a76:=Tryz.isAgg258
 z76:=Tryz.sizeOf258
 v76:=Tryz.zeroValue258
 t77:=Tryz.underlying259
 a77:=Tryz.isAgg259
 z77:=Tryz.sizeOf259
 v77:=Tryz.zeroValue259 }
theorem Fc:aM Tryz.prog 141 [enc ([]:List aj),.func 142 []] (.tuple []):=by
 refine ⟨by kernel_rfl,fun w D vs _ hD hv =>?_⟩;simp only[al] at hv;obtain ⟨u,rest,cs',rfl,hp,hr',hv2⟩:=hv;obtain ⟨a,cap,h1,_⟩:=hr';have h2:cs'=[u]:=hp;rw[h1] at h2;obtain rfl:u=.slice a 0 cap:=by simpa using h2.symm
 obtain ⟨f,rest2,cs2,rfl,hp2,hr2,rfl⟩:=hv2;simp only[ae] at hr2;obtain ⟨vs2,e2,e3⟩:=hr2;have h3:cs2=[f]:=hp2;rw[e2] at h3;simp only[al] at e3;subst e3;obtain rfl:f=.func (.func 142) #[] #[]:=by
  have:=h3.symm;simp only[zz8,and_true] at this;rw[this];rfl
 refine (AnyF.slices_SortFunc_none (P:=Tryz.prog) (ρ:=A8) { VS with } a cap (.func (.func 142) #[] #[]) w).mono ?_;rintro e w' ⟨rfl,rfl⟩;exact ⟨.tuple #[],D,rfl,⟨[],rfl,rfl⟩,⟨rfl,rfl,rfl,Z3 _,fun _ _=>rfl⟩,hD,fun _ _ h _=>h⟩
theorem FE:aM Tryz.prog 95 [enc ([]:List aj)] (enc (⟨[]⟩:iX)):=by
 refine aM.bL Tryz.func95 H7 Jo KH (t8 rfl) (fun hwf W0 bC E1 =>?_);simp only[y7,Dc,bB];clear hwf;have h1:=tF [] (by simp);have R:=y6 @iI (y6 @j8 az)
 repeat' ((first |refine U.aE (by decide +kernel) rfl fun K hK =>?_|refine .lead _ (h1) ?_|refine .flat _ (Fc) rfl ?_|(refine .aA [0,2,3] hK ?_;clear hK K)|(with_reducible refine .done (hK _ ?_);clear hK K)|refine U.of rfl ?_|(with_reducible refine au.aD (fun h =>?_) (fun h =>?_) <;>try simp only[h])) <;>try simp only[aF,R,simprocAttr])
 all_goals clear R
 all_goals rfl
end Go.Proofs.YtoffnnjbplgnaaaGreatDoor
namespace Go.Proofs.YtoffnnjbplgnaaaGreatDoor
open Go Go.Abs
open Go.Abs.Enc (enc)
theorem EI{l:List aj}(h:gQ [] l=true):l.length≤60:=by
 have:=ja.len (by simp) ((wV l []).1 h);simpa using this
theorem EJ{l:List aj}(h:gQ [] l=true):∀ r∈l,bg r=true:=ja.ok ((wV l []).1 h)
def nZ(r:cP)(l:List aj):Bool:=gQ [] l&&decide (r.cK.all=eS 1 l)&&(List.range (l.length+1)).any fun i=>decide (r.copy.all=eS 1 (l.take i))
theorem F0{p:Nat→Bool}{n i:Nat}(hi:i<n)(h:∀ k,k<i→p k=false)(hp:p i=true):(List.range n).any p=true:=List.any_eq_true.2 ⟨i,by simpa using hi,hp⟩
theorem FZ{p:Nat→Bool}{n:Nat}(h:∀ k,k<n→p k=false):(List.range n).any p=false:=by
 rw[List.any_eq_false];intro k hk;rw[h k (by simpa using hk)];decide
theorem FA(r:cP)(h:r.small)(l:List aj)(hl:l.length≤1000000):aM Tryz.prog 87 [enc r,enc l] (enc (nZ r l)):=by
 refine aM.bL Tryz.func87 H2 Jj KC (t8 rfl) (fun hwf W0 bC E1 =>?_);simp only[yW,C7,bB,Z5];clear hwf;have f98:=FF l (by omega);have f1:=oZ r.cK h.1;have f2:=oZ r.copy h.2;simp only[nZ];cases q1:gQ [] l
 ·rw[q1] at f98;have R:=y6 @bd az
  repeat' ((first |(with_reducible refine .guard (fun hb =>?_) (fun hb =>?_) <;>try simp only[hb])|refine U.aE (by decide +kernel) rfl fun K hK =>?_|refine .flat _ (f98) rfl ?_|(refine .aA [0,1,2,4,5,16,19,20,21,30] hK ?_;clear hK K)|(with_reducible refine .done (hK _ ?_);clear hK K)|refine U.of rfl ?_|(with_reducible refine au.aD (fun h =>?_) (fun h =>?_) <;>try simp only[h])) <;>try simp only[aF,R,simprocAttr])
  all_goals clear R
  all_goals rfl
 rw[q1] at f98;have hok:=EJ q1;have hln:=EI q1;have f135:=w7 l hl hok;have hpre:=fun i=>w7 (l.take i) (by rw[Z7];omega) fun x hx=>hok x (List.mem_of_mem_take hx);cases q2:decide (r.cK.all=eS 1 l)
 ·have R:=y6 @q2 (y6 @gO (y6 @bd az))
  repeat' ((first |(with_reducible refine .guard (fun hb =>?_) (fun hb =>?_) <;>try simp only[hb])|refine U.aE (by decide +kernel) rfl fun K hK =>?_|refine .flat _ (f98) rfl ?_|refine .flat _ (f1) rfl ?_|refine .flat _ (f135) rfl ?_|(refine .aA [0,1,2,4,5,16,19,20,21,30] hK ?_;clear hK K)|(with_reducible refine .done (hK _ ?_);clear hK K)|refine U.of rfl ?_|(with_reducible refine au.aD (fun h =>?_) (fun h =>?_) <;>try simp only[h])) <;>try simp only[aF,R,simprocAttr])
  all_goals clear R
  all_goals rfl
 have hw0:=eG (i:=l.length) (by omega);have R:=y6 @q2 (y6 @hw0 (y6 @gO (y6 @bd az)))
 repeat' ((first |(with_reducible refine .guard (fun hb =>?_) (fun hb =>?_) <;>try simp only[hb])|refine U.aE (by decide +kernel) rfl fun K hK =>?_|refine .flat _ (f98) rfl ?_|refine .flat _ (f1) rfl ?_|refine .flat _ (f135) rfl ?_|(refine .aA [0,1,2,4,5,16,19,20,21,30] hK ?_;clear hK K)|(with_reducible refine .done (hK _ ?_);clear hK K)|refine U.of rfl ?_|(with_reducible refine au.aD (fun h =>?_) (fun h =>?_) <;>try simp only[h])) <;>try simp only[aF,R,simprocAttr])
 all_goals clear R
 refine U.loop (fun i:Nat=>ay [(1,enc l),(2,.ptr 2 []),(19,.int .i64 ((l.length+1:Nat):Int)),(20,.int .i64 i)] [(2,.box (enc r))]) (fun i=>i≤l.length+1∧∀ k,k<i→decide (r.copy.all=eS 1 (l.take k))=false) (fun i=>l.length+1-i) 0 ⟨Nat.zero_le _,fun k hk=>by omega⟩ ?_ ?_
 ·refine bw.cN ?_ ?_ ?_ ?_ <;>simp[cj,ct,cq,bU,aH,cg,dT,I.only,ai.only,bK]
  all_goals rfl
 rintro i ⟨hi,hk⟩;by_cases hlt:i<l.length+1
 ·have hlc:=eP hlt;have hw:=eG (i:=i) (by omega);have hsl:=fun A=>Ea (l:=l) (k:=i) A (esz:=8) rfl (by omega);have f135':=hpre i;cases q3:decide (r.copy.all=eS 1 (l.take i))
  ·have R:=y6 @hlc (y6 @hw (y6 @hsl (y6 @q3 (y6 @lu (y6 @bd az)))))
   repeat' ((first |(with_reducible refine .guard (fun hb =>?_) (fun hb =>?_) <;>try simp only[hb])|refine U.aE (by decide +kernel) rfl fun K hK =>?_|refine .flat _ (f2) rfl ?_|refine .flat _ (f135') rfl ?_|(refine .aA [0,1,2,4,5,16,19,20,21,30] hK ?_;clear hK K)|(with_reducible refine .done (hK _ ?_);clear hK K)|refine U.of rfl ?_|(with_reducible refine au.aD (fun h =>?_) (fun h =>?_) <;>try simp only[h])) <;>try simp only[aF,R,zy8,simprocAttr])
   all_goals clear R
   refine ⟨i+1,⟨by omega,fun k hk2 =>?_⟩,by omega,?_⟩
   ·by_cases e:k=i
    ·rw[e];exact q3
    ·exact hk k (by omega)
   ·clear hk;refine bw.cN ?_ ?_ ?_ ?_ <;>simp[cj,ct,cq,bU,aH,cg,dT,I.only,ai.only,bK]
    all_goals rfl
  ·rw[F0 hlt hk q3];have R:=y6 @hlc (y6 @hw (y6 @hsl (y6 @q3 (y6 @lu (y6 @bd az)))))
   repeat' ((first |(with_reducible refine .guard (fun hb =>?_) (fun hb =>?_) <;>try simp only[hb])|refine U.aE (by decide +kernel) rfl fun K hK =>?_|refine .flat _ (f2) rfl ?_|refine .flat _ (f135') rfl ?_|(refine .aA [0,1,2,4,5,16,19,20,21,30] hK ?_;clear hK K)|(with_reducible refine .done (hK _ ?_);clear hK K)|refine U.of rfl ?_|(with_reducible refine au.aD (fun h =>?_) (fun h =>?_) <;>try simp only[h])) <;>try simp only[aF,R,zy8,simprocAttr])
   all_goals clear R
   all_goals rfl
 ·have hlc:=fu hlt;rw[FZ fun k hk2=>hk k (by omega)];have R:=y6 @hlc az
  repeat' ((first |(with_reducible refine .guard (fun hb =>?_) (fun hb =>?_) <;>try simp only[hb])|refine U.aE (by decide +kernel) rfl fun K hK =>?_|(refine .aA [0,1,2,4,5,16,19,20,21,30] hK ?_;clear hK K)|(with_reducible refine .done (hK _ ?_);clear hK K)|refine U.of rfl ?_|(with_reducible refine au.aD (fun h =>?_) (fun h =>?_) <;>try simp only[h])) <;>try simp only[aF,R,simprocAttr])
  all_goals clear R
  all_goals rfl
section
variable {α:Type} [Enc α] {P:Program} {hs:List FuncId} {Y:Value→List I→List (Nat×ai)→bY→Prop} {K:ab→Prop} {rest:List av} {d e esz bytes:Nat}
def mj(esz:Nat)(v:I)(os:List (Nat×ai))(l:List α)(S:List Nat):Prop:=(l=[]∧(v=.c0 esz∨v=.nils esz))∨∃ n q,n∈S∧v=.view n [] esz 0 l.length∧aJ os n=some (.box (.agg ((l++q).map enc)))
theorem Gb{A:ab}{w:I}(hw:w=.c0 esz∨w=.nils esz)(z:I){l:List α}(hsz:Enc.sz α=esz)(hl:l≠[])(hf:A.o d=none)(hb:l.length*bytes≤140737488355328)(hml:l.length≤maxLen) :
  ∃ p:Nat→Prop,eM A (some d) e esz bytes z (enc l) rest w=.any p fun m=>aq rest ((A.aP d (.box (.agg (l.map enc++List.replicate m z)))).aN (some d) (.view d [] esz 0 l.length)):=by
 have hne:l.map (enc (α:=α))≠[]:=by simpa using hl
 have h1:cR A esz w=some []:=by rcases hw with rfl | rfl <;>rfl
 refine ⟨fun m=>l.length+m≤maxLen,?_⟩;rcases hw with rfl | rfl <;>simp only[eM,h1,ky A esz l hsz,eb,if_neg hne,eL,hf,zy6,Z5,Z2,if_pos (y6 hb hml),zy7]
theorem Ga{A:ab}(z:I)(hsz:Enc.sz α=esz){n l:Nat}{xs ys:List α}(hy:ys≠[])(ho:A.o n=some (.box (.agg (xs.map enc))))(hl:l≤xs.length)(hr:xs.length<l+ys.length)(hf:A.o d=none)(hb:(l+ys.length)*bytes≤140737488355328)(hml:l+ys.length≤maxLen) :
  ∃ p:Nat→Prop,eM A (some d) e esz bytes z (enc ys) rest (.view n [] esz 0 l)=.any p fun m=>aq rest ((A.aP d (.box (.agg ((xs.take l).map enc++(ys.map enc++List.replicate m z))))).aN (some d) (.view d [] esz 0 (l+ys.length))):=by
 have h1:=nk (A:=A) (esz:=esz) (lo:=0) (k:=l) ho (by omega);have h2:(I.agg (xs.map (enc (α:=α)))).at []=some (.agg (xs.map enc)):=rfl;have h4:(xs.take l).length=l:=by rw[Z7];omega
 refine ⟨fun m=>l+ys.length+m≤maxLen,?_⟩;simp only[eM,h1,List.drop_zero,ky A esz ys hsz,eb];rw[if_neg (by simpa using hy)];simp only[ho,h2,Z2,Z5];rw[if_neg (by omega)];simp only[eL,hf,Z2,h4];rw[if_pos ⟨hb,hml⟩]
theorem Vj(z:α){ts:List (Nat×I)}{os:List (Nat×ai)}{v:I}{l ys:List α}{S:List Nat}(hsz:Enc.sz α=esz)(hg:mj esz v os l S)(hf:aJ os d=none)(hb:(l.length+ys.length)*bytes≤140737488355328)(hml:l.length+ys.length≤maxLen) :
  (∃ v' os',eM (ay ts os) (some d) e esz bytes (enc z) (enc ys) rest v=aq rest (ay ((d,v')::ts) os')∧mj esz v' os' (l++ys) (d::S)∧∀ m,m∉d::S→aJ os' m=aJ os m) ∨
  (∃ p,∃ v':Nat→I,∃ os':Nat→List (Nat×ai),eM (ay ts os) (some d) e esz bytes (enc z) (enc ys) rest v=.any p (fun m=>aq rest (ay ((d,v' m)::ts) (os' m)))∧∀ k,mj esz (v' k) (os' k) (l++ys) (d::S)∧∀ m,m∉d::S→aJ (os' k) m=aJ os m):=by
 by_cases hy:ys=[]
 ·subst hy;rw[List.append_nil];rcases hg with ⟨rfl,hv⟩ | ⟨n,q,hn,rfl,ho⟩
  ·rcases hv with rfl | rfl
   ·exact .inl ⟨.c0 esz,os,Gc _ hsz,.inl ⟨rfl,.inl rfl⟩,fun _ _=>rfl⟩
   ·refine .inl ⟨.nils esz,os,?_,.inl ⟨rfl,.inr rfl⟩,fun _ _=>rfl⟩;have h1:cR (ay ts os) esz (.nils esz)=some []:=rfl;simp only[eM,h1,ky _ esz ([]:List α) hsz,eb,zz9,if_true];rfl
  ·refine .inl ⟨_,os,?_,.inr ⟨n,q,List.mem_cons_of_mem _ hn,rfl,ho⟩,fun _ _=>rfl⟩;have h1:=nk (A:=ay ts os) (esz:=esz) (lo:=0) (k:=l.length) ho (by simp);simp only[eM,h1,ky _ esz ([]:List α) hsz,eb,zz9,if_true];rfl
 ·rcases hg with ⟨rfl,hv⟩ | ⟨n,q,hn,rfl,ho⟩
  ·obtain ⟨p,h1⟩:=Gb (A:=ay ts os) (rest:=rest) (e:=e) hv (enc z) hsz hy hf (by simpa using hb) (by simpa using hml);refine .inr ⟨p,fun m=>.view d [] esz 0 ys.length,fun m=>(d,.box (.agg (ys.map enc++List.replicate m (enc z))))::os,h1,fun k=>⟨.inr ⟨d,List.replicate k z,List.mem_cons_self,by simp,?_⟩,fun m hm =>?_⟩⟩
   ·simp[aJ]
   ·rw[dT,if_neg (fun h=>by rw[h] at hm;exact hm List.mem_cons_self)]
  ·by_cases hr:l.length+ys.length≤(l++q).length
   ·have h1:=xD (A:=ay ts os) (rest:=rest) (d:=some d) (e:=e) (bytes:=bytes) (esz:=esz) (enc z) hsz hy ho hr;have e1:(l++q).take l.length++(ys++(l++q).drop (l.length+ys.length))=(l++ys)++q.drop ys.length:=by simp[List.drop_append]
    rw[e1] at h1;refine .inl ⟨_,(n,.box (.agg (((l++ys)++q.drop ys.length).map enc)))::os,h1,.inr ⟨n,q.drop ys.length,List.mem_cons_of_mem _ hn,by simp,by simp[aJ]⟩,fun m hm =>?_⟩;rw[dT,if_neg (fun h=>by rw[h] at hm;exact hm (List.mem_cons_of_mem _ hn))]
   ·obtain ⟨p,h1⟩:=Ga (A:=ay ts os) (rest:=rest) (d:=d) (e:=e) (bytes:=bytes) (esz:=esz) (enc z) hsz hy ho (by simp) (by omega) hf hb hml;refine .inr ⟨p,fun m=>.view d [] esz 0 (l.length+ys.length),fun m=>(d,.box (.agg (((l++q).take l.length).map enc++(ys.map enc++List.replicate m (enc z)))))::os,h1,fun k=>⟨.inr ⟨d,List.replicate k z,List.mem_cons_self,by simp,?_⟩,fun m hm =>?_⟩⟩
    ·simp[aJ]
    ·rw[dT,if_neg (fun h=>by rw[h] at hm;exact hm List.mem_cons_self)]
theorem bH.Vg(z:α){ts:List (Nat×I)}{os:List (Nat×ai)}{v:I}{l ys:List α}{S:List Nat}(hsz:Enc.sz α=esz)(hg:mj esz v os l S)(hf:aJ os d=none)(hb:(l.length+ys.length)*bytes≤140737488355328)(hml:l.length+ys.length≤maxLen)
  (h:∀ v' os',mj esz v' os' (l++ys) (d::S)→(∀ m,m∉d::S→aJ os' m=aJ os m)→bH P Y hs K (aq rest (ay ((d,v')::ts) os'))):bH P Y hs K (eM (ay ts os) (some d) e esz bytes (enc z) (enc ys) rest v):=by
 rcases Vj (rest:=rest) (e:=e) z hsz hg hf hb hml (ts:=ts) with ⟨v',os',h1,h2,h3⟩ | ⟨p,v',os',h1,h2⟩
 ·rw[h1];exact h v' os' h2 h3
 ·rw[h1];exact .any fun m _=>h _ _ (h2 m).1 (h2 m).2
theorem Vi{v:I}{os:List (Nat×ai)}{l:List α}{S:List Nat}{A:ab}(hsz:Enc.sz α=esz)(h:mj esz v os l S)(hA:∀ m∈S,A.o m=aJ os m):ba true A v=some (enc l):=by
 rcases h with ⟨rfl,rfl | rfl⟩ | ⟨n,q,hn,rfl,ho⟩
 ·simp only[ba,gT,zz9,hsz]
 ·simp only[ba,gT,zz9,hsz]
 ·have h1:ba true A (.view n [] esz 0 l.length)=kR esz 0 l.length (some ((l++q).map enc)):=by
   rw[uR,hA n hn,ho];rfl
  rw[h1,rE hsz,List.take_left]
end
theorem Vh{l:List aj}{x:I}{os' os0:List (Nat×ai)}{d:Nat}(h:rn l x os'):mj 8 (x.aS (bp [(7,d)])) (c7 [(7,d)] os'++os0) l [d]:=by
 rcases h with ⟨hn,rfl | rfl,rfl⟩ | ⟨hn,k,rfl,rfl⟩
 ·exact .inl ⟨hn,.inr rfl⟩
 ·exact .inl ⟨hn,.inl rfl⟩
 ·refine .inr ⟨d,List.replicate k cB,by simp,?_,?_⟩
  ·simp[I.aS,bp]
  ·simp only[eR,mV,Z4,zz4,aJ,c7,bp,if_true,ai.aS,I.aS]
def ju:cP:=⟨⟨[],[]⟩,⟨[],[]⟩⟩
theorem pA:I.agg [.agg [.ah ⟨#[]⟩,.ah ⟨#[]⟩],.agg [.ah ⟨#[]⟩,.ah ⟨#[]⟩]]=enc ju:=rfl
def oS(r:cP)(l s:List aj)(x:aj):cP×List aj×Int :=
 if x∈l then (r,l,0) else if (jc s x).2≠0 then (ju,[],(jc s x).2) else (⟨⟨r.cK.bD,r.cK.cE++cV (eA 1 l) x⟩,r.copy⟩,l++[x],0)
theorem FQ{s:List aj}{x:aj}(h:(jc s x).2=0):bg x=true:=by
 simp only[jc] at h;cases q:bg x
 ·rw[q] at h
  (repeat' split at h) <;>simp_all
 ·rfl
theorem En:(∀ A n b rest (q:iX),ev A (some 1) n [] b (enc q) rest (some (.agg [.nils 8]))=aq rest (A.aP n (.box (enc q)))) ∧
  (∀ A n rest (r:cP) (x y:List UInt8),ev A none n [0,1] (enc r) (enc (ak.of x)) rest (some (enc (ak.of y)))=aq rest (A.aP n (.box (enc (⟨⟨r.cK.bD,x⟩,r.copy⟩:cP))))) :=
 ⟨fun A n b rest q=>by rw[fq (s:=some 1) (v:=enc q) (old:=.agg [.nils 8]) (fh _) rfl rfl,fo],
  fun A n rest r x y=>by rw[fq (s:=none) (v:=enc (ak.of x)) (old:=enc (ak.of y)) (fh _) rfl rfl];rfl⟩
theorem FB(r:cP)(h:r.small)(l s:List aj)(hl:l.length≤60)(hok:∀ x∈l,bg x=true)(hsl:s.length≤60)(h95:aM Tryz.prog 95 [enc l] (enc (⟨s⟩:iX)))(x:aj) :
  aM Tryz.prog 88 [enc r,enc l,enc x] (.tuple [enc (oS r l s x).1,enc (oS r l s x).2.1,enc (oS r l s x).2.2]):=by
 refine aM.bL Tryz.func88 H3 Jk KD (t8 rfl) (fun hwf W0 bC E1 =>?_);simp only[yX,C8,bB,Z5,Nat.reduceAdd];clear hwf;have f136:=E7 l x (by omega);have f93:=tF l (by omega);have f44:=Fu s x (by omega);simp only[oS];cases q1:decide (x∈l)
 rotate_left
 ·rw[q1] at f136;rw[if_pos (of_decide_eq_true q1)];have R:=y6 @pA (y6 @ej (y6 @bd az))
  repeat' ((first |refine U.aE (by decide +kernel) rfl fun K hK =>?_|refine .flat _ (f136) rfl ?_|refine .lead _ (f93) ?_|(refine U.jt (gs:=uX) [] [(3,[3]),(6,[6])] [0,1,2,3,4,5] (by decide +kernel) (dq.of (by simp[gW,cg,Bj,I.only,bK])) fun K hK =>?_;simp only[iA,uX,List.getD_cons_zero,List.getD_cons_succ,R,simprocAttr])|(refine .aA [0,1,2,3,5,6,7,8,10,11,15,27] hK ?_;clear hK K)|(with_reducible refine .done (hK _ ?_);clear hK K)|refine U.of rfl ?_|(with_reducible refine au.aD (fun h =>?_) (fun h =>?_) <;>try simp only[h])) <;>try simp only[aF,R,simprocAttr])
  all_goals clear R
  all_goals rfl
 rw[q1] at f136;rw[if_neg (of_decide_eq_false q1)];by_cases q2:(jc s x).2=0
 rotate_left
 ·have q2':((jc s x).2 != 0)=true:=by simpa using q2
  rw[if_pos q2];generalize jc s x=p at *;have R:=y6 @pA (y6 @q2' (y6 @En (y6 @iI (y6 @ej (y6 @bd az)))))
  repeat' ((first |refine U.aE (by decide +kernel) rfl fun K hK =>?_|refine .flat _ (f136) rfl ?_|refine .lead _ (h95) ?_|refine .lead _ (f44) ?_|(refine .aA [0,1,2,3,5,6,7,8,10,11,15,27] hK ?_;clear hK K)|(with_reducible refine .done (hK _ ?_);clear hK K)|refine U.of rfl ?_|(with_reducible refine au.aD (fun h =>?_) (fun h =>?_) <;>try simp only[h])) <;>try simp only[aF,R,simprocAttr])
  all_goals clear R
  all_goals rfl
 have q2':((jc s x).2 != 0)=false:=by simp[q2]
 rw[if_neg (by simp[q2])];have hx:=FQ q2;have f137:=E8 l (by omega) hok;have hin:=tk l;have f81:=o8 (eA 1 l) hin x hx;have hll:=r9 hin hx;have hadd:=dV r.cK.cE (cV (eA 1 l) x) (by have:=h.1.2;omega);generalize jc s x=p at *;have hbs:gD 8 (some [enc x])=some (enc [x]):=po 8 x rfl;have R:=y6 @pA (y6 @q2' (y6 @hadd (y6 @En (y6 @iI (y6 @ej (y6 @bd az))))))
 repeat' ((first |refine U.aE (by decide +kernel) rfl fun K hK =>?_|refine .flat _ (f136) rfl ?_|refine .lead _ (h95) ?_|refine .lead _ (f44) ?_|refine .flat _ (f137) rfl ?_|refine .lead _ (f81) ?_|(refine .aA [0,1,2,3,5,6,7,8,10,11,15,27] hK ?_;clear hK K)|(with_reducible refine .done (hK _ ?_);clear hK K)|refine U.of rfl ?_|(with_reducible refine au.aD (fun h =>?_) (fun h =>?_) <;>try simp only[h])) <;>try simp only[aF,R,simprocAttr])
 all_goals clear R
 obtain ⟨r',hr'⟩:∃ r':cP,r'=⟨⟨r.cK.bD,r.cK.cE++cV (eA 1 l) x⟩,r.copy⟩:=⟨_,rfl⟩
 rw[←hr'];refine U.sub (bw.rH [3] 3 (x:=.ptr 3 []) (y:=.ref (enc r')) (ts':=[(1,enc l),(3,.ref (enc r')),(5,.ptr 5 []),(6,.ptr 6 [])]) (os':=[(6,.box (enc ju)),(5,.box (enc x))]) rfl ?_ ?_ ?_ ?_ ?_ ?_) ?_
 ·rw[uQ];simp[nU,dA,ay,ke,aJ,j8,nG]
 ·simp[dQ,bU,ai.only,I.only,I.cH,bK]
 ·simp[cj,jh,cg,I.only,bK]
 ·simp[ct,dQ,aJ]
 ·simp[cq,aH,aJ,I.only,bK]
 ·simp[bU,ai.only,bK]
 refine U.sub (bw.rH [5] 5 (x:=.ptr 5 []) (y:=.ref (enc x)) (ts':=[(1,enc l),(3,.ref (enc r')),(5,.ref (enc x)),(6,.ptr 6 [])]) (os':=[(6,.box (enc ju))]) rfl ?_ ?_ ?_ ?_ ?_ ?_) ?_
 ·rw[uQ];simp[nU,dA,ay,ke,aJ,j8,nG]
 ·simp[dQ,bU,ai.only,bK]
 ·simp[cj,jh,cg,I.only,bK]
 ·simp[ct,dQ,aJ]
 ·simp[cq,aH,aJ,I.only,bK]
 ·simp[bU,ai.only,bK]
 have R:=y6 @hbs (y6 @ef (y6 @ej (y6 @bd az)))
 repeat' ((first |refine U.aE (by decide +kernel) rfl fun K hK =>?_|refine .flat _ (8 [0,1,3,4,2,5,6,7,8] [(3,[]),(5,[]),(6,[6])]) rfl ?_|(refine .aA [0,1,2,3,5,6,7,8,10,11,15,27] hK ?_;clear hK K)|(with_reducible refine .done (hK _ ?_);clear hK K)|refine U.of rfl ?_|(with_reducible refine au.aD (fun h =>?_) (fun h =>?_) <;>try simp only[h])) <;>try simp only[aF,R,simprocAttr])
 all_goals clear R
 refine U.jt (gs:=uY) [] [(3,[]),(5,[]),(6,[6])] [0,1,3,4,2,5,6,7,8] (by decide +kernel) (dq.of (by simp[gW,cg,I.only,bK])) fun K hK =>?_
 try simp only[iA,uY,Z4,zz9,List.getD_cons_zero,List.getD_cons_succ,hbs,az,aZ,simprocAttr]
 refine .bx [(7,46)] [enc l] (rn l) (xp l (by omega)) eK.nil ⟨.inl ⟨(iP _ _).symm,bK _ _,fh _⟩,trivial⟩ ?_ ?_
 ·rintro x os' (⟨_,h | h,rfl⟩ | ⟨_,k,rfl,rfl⟩)
  ·subst h;exact dF.nil (fun _=>rfl) (fun h=>by cases h)
  ·subst h;exact dF.nil (fun _=>rfl) (fun h=>by cases h)
  ·exact dF.vC (fun p=>fZ p _) (fun h=>by cases h) rfl (fun h=>by cases h) rfl (by decide)
 intro y os' hp;have hg:=Vh (d:=46) (os0:=[(6,.box (enc ju))]) hp;have h6:∀ m,m≠46→aJ (c7 [(7,46)] os'++[(6,ai.box (enc ju))]) m=aJ [(6,ai.box (enc ju))] m:=by
  intro m hm;rcases hp with ⟨_,_,rfl⟩ | ⟨_,k,_,rfl⟩
  ·rfl
  ·simp only[eR,c7,Z4,zz9,bp,if_true,zz4,zy7,aJ,if_neg hm]
 generalize y.aS (bp [(7,46)])=v at hg ⊢;generalize c7 [(7,46)] os'++[(6,ai.box (enc ju))]=os at hg h6 ⊢;have h49:aJ os 49=none:=h6 49 (by decide)
 try simp only[ef,aZ,simprocAttr]
 refine bH.Vg (default:aj) (ys:=[x]) rfl hg h49 (by simp;omega) (by simp[maxLen];omega) fun v' os'' hg2 hk =>?_;have h66:aJ os'' 6=some (.box (enc ju)):=by rw[hk 6 (by decide),h6 6 (by decide)];rfl
 try simp only[h66,ej,aZ,simprocAttr]
 have hf:∀ ts,ba true (ay ts ((6,.box (enc r'))::os'')) v'=some (enc (l++[x])):=fun ts=>Vi rfl hg2 fun m hm=>by
  have:m≠6:=by
   simp only[zx4,List.not_mem_nil,or_false] at hm;omega
  simp[ay,aJ,this]
 refine .done (hK _ ?_);clear hK K;refine U.ret ?_;simp only[aZ,simprocAttr]
 try simp only[hf,az,aZ,simprocAttr]
 all_goals rfl
def qL(r:cP)(l s:List aj)(x:aj):cP×List aj×Int:=if nZ r l=false then (ju,[],84) else oS r l s x
theorem Fs(r:cP)(h:r.small)(l s:List aj)(hl:l.length≤1000000)(hsl:s.length≤60)(h95:nZ r l=true→aM Tryz.prog 95 [enc l] (enc (⟨s⟩:iX)))(x:aj) :
  aM Tryz.prog 35 [enc r,enc l,enc x] (.tuple [enc (qL r l s x).1,enc (qL r l s x).2.1,enc (qL r l s x).2.2]):=by
 refine aM.bL Tryz.func35 HG I0 Kh (t8 rfl) (fun hwf W0 bC E1 =>?_);simp only[yI,CO,bB,Z5,Nat.reduceAdd];clear hwf;have f:=FA r h l hl;simp only[qL];cases q:nZ r l
 ·rw[q] at f;have R:=y6 @pA (y6 @ej (y6 @bd az))
  repeat' ((first |refine U.aE (by decide +kernel) rfl fun K hK =>?_|refine .flat _ (f) rfl ?_|(refine .aA [0,1,2,3,5,6,7,8,12] hK ?_;clear hK K)|(with_reducible refine .done (hK _ ?_);clear hK K)|refine U.of rfl ?_|(with_reducible refine au.aD (fun h =>?_) (fun h =>?_) <;>try simp only[h])) <;>try simp only[aF,R,simprocAttr])
  all_goals clear R
  all_goals rfl
 rw[q] at f;have hw:gQ [] l=true:=by simp only[nZ,Z0] at q;exact q.1.1
 have f88:=FB r h l s (EI hw) (EJ hw) hsl (h95 q) x;simp only[Bool.true_eq_false,if_false];generalize oS r l s x=p at *;have R:=y6 @pA (y6 @ej (y6 @bd az))
 repeat' ((first |refine U.aE (by decide +kernel) rfl fun K hK =>?_|refine .flat _ (f) rfl ?_|refine .lead _ (f88) ?_|(refine .aA [0,1,2,3,5,6,7,8,12] hK ?_;clear hK K)|(with_reducible refine .done (hK _ ?_);clear hK K)|refine U.of rfl ?_|(with_reducible refine au.aD (fun h =>?_) (fun h =>?_) <;>try simp only[h])) <;>try simp only[aF,R,simprocAttr])
 all_goals clear R
 all_goals rfl
end Go.Proofs.YtoffnnjbplgnaaaGreatDoor
namespace Go.Proofs.YtoffnnjbplgnaaaGreatDoor
open Go Go.Abs Go.RowKit
open Go.Abs.Enc (enc)
def eQ(p:List Int)(i:Nat):Int:=if p=[] then 0 else p.getD (i%p.length) 0
def fG(p:List Int)(i:Nat)(n:Int):Int:=if p=[] then 0 else fk (p.getD (i%p.length) 0) n
theorem Wh{n:Int}(hn:0<n∧n≤4611686018427387904):fk 0 n=0:=by rw[vv (by omega) hn];simp
theorem tW(p:List Int)(i:Nat){n:Int}(hn:0<n∧n≤4611686018427387904):fG p i n=fk (eQ p i) n:=by
 simp only[fG,eQ];split
 ·rw[Wh hn]
 ·rfl
theorem Dp(i n:Nat):(i:Int).tmod (n:Int)=((i%n:Nat):Int):=rfl
theorem tz(p:List Int)(i:Nat)(n:Int)(hn:n≠0)(hi:i≤1000)(hp:p.length≤1000000000000000):aM Tryz.prog 121 [enc p,.int .i64 (i:Int),enc n] (enc (fG p i n)):=by
 refine aM.bL Tryz.func121 G0 Im JG (t8 rfl) (fun hwf W0 bC E1 =>?_);simp only[xX,Cd,bB,Z5,Nat.reduceAdd];clear hwf;simp only[fG];by_cases h:p=[]
 ·have q:((p.length:Int)==0)=true:=by rw[h];rfl
  rw[if_pos h];have R:=y6 @q az
  repeat' ((first |refine U.aE (by decide +kernel) rfl fun K hK =>?_|(refine .aA [0,1,2,6,9] hK ?_;clear hK K)|(with_reducible refine .done (hK _ ?_);clear hK K)|refine U.of rfl ?_|(with_reducible refine au.aD (fun h =>?_) (fun h =>?_) <;>try simp only[h])) <;>try simp only[aF,R,simprocAttr])
  all_goals clear R
  all_goals rfl
 ·have hpos:0<p.length:=zx2.2 h;have q:((p.length:Int)==0)=false:=by rw[beq_eq_false_iff_ne];omega
  have hnz:¬ (p.length:Int)=0:=by omega
  have hr:=Dp i p.length;have hlt:i%p.length<p.length:=Nat.mod_lt _ hpos;have he:=fun A=>fJ (A:=A) 1 hlt rfl;rw[if_neg h];have hg:p.getD (i%p.length) 0=p[i%p.length]:=by simp[zz6,hlt]
  rw[hg];generalize p[i%p.length]=x at *;have R:=y6 @q (y6 @hnz (y6 @hr (y6 @he (y6 @hn az))))
  repeat' ((first |refine U.aE (by decide +kernel) rfl fun K hK =>?_|(refine .aA [0,1,2,6,9] hK ?_;clear hK K)|(with_reducible refine .done (hK _ ?_);clear hK K)|refine U.of rfl ?_|(with_reducible refine au.aD (fun h =>?_) (fun h =>?_) <;>try simp only[h])) <;>try simp only[aF,R,simprocAttr])
  all_goals clear R
  all_goals rfl
theorem nz(p:List Int)(i:Nat)(hi:i≤1000)(hp:p.length≤1000000000000000):aM Tryz.prog 77 [enc p,.int .i64 (i:Int)] (enc (eQ p i)):=by
 refine aM.bL Tryz.func77 HS Ja Ks (t8 rfl) (fun hwf W0 bC E1 =>?_);simp only[yP,CY,bB,Z5];clear hwf;simp only[eQ];by_cases h:p=[]
 ·have q:((p.length:Int)==0)=true:=by rw[h];rfl
  rw[if_pos h];have R:=y6 @q az
  repeat' ((first |refine U.aE (by decide +kernel) rfl fun K hK =>?_|(refine .aA [0,1,4,7] hK ?_;clear hK K)|(with_reducible refine .done (hK _ ?_);clear hK K)|refine U.of rfl ?_|(with_reducible refine au.aD (fun h =>?_) (fun h =>?_) <;>try simp only[h])) <;>try simp only[aF,R,simprocAttr])
  all_goals clear R
  all_goals rfl
 ·have hpos:0<p.length:=zx2.2 h;have q:((p.length:Int)==0)=false:=by rw[beq_eq_false_iff_ne];omega
  have hnz:¬ (p.length:Int)=0:=by omega
  have hr:=Dp i p.length;have hlt:i%p.length<p.length:=Nat.mod_lt _ hpos;have he:=fun A=>fJ (A:=A) 1 hlt rfl;rw[if_neg h];have hg:p.getD (i%p.length) 0=p[i%p.length]:=by simp[zz6,hlt]
  rw[hg];generalize p[i%p.length]=x at *;have R:=y6 @q (y6 @hnz (y6 @hr (y6 @he az)))
  repeat' ((first |refine U.aE (by decide +kernel) rfl fun K hK =>?_|(refine .aA [0,1,4,7] hK ?_;clear hK K)|(with_reducible refine .done (hK _ ?_);clear hK K)|refine U.of rfl ?_|(with_reducible refine au.aD (fun h =>?_) (fun h =>?_) <;>try simp only[h])) <;>try simp only[aF,R,simprocAttr])
  all_goals clear R
  all_goals rfl
end Go.Proofs.YtoffnnjbplgnaaaGreatDoor
namespace Go.Proofs.YtoffnnjbplgnaaaGreatDoor
open Go Go.Abs
open Go.Abs.Enc (enc)
def qK(u:List UInt8)(p:List Int)(i:Nat):List UInt8:=u.take (fG p i (u.length+1:Nat)).toNat
def oO(w:List UInt8)(p:List Int)(i:Nat):List UInt8:=if fG p (i+1) 2=1∧0<w.length then w.set (fG p (i+2) (w.length:Nat)).toNat 63 else w
def tm(r:cI)(p:List Int)(i:Nat):List UInt8:=r.bD++oO (qK r.cE p i) p i
def iU(r:cI)(p:List Int)(i:Nat):cI:=⟨tm r p i,[]⟩
theorem Ee(w:List UInt8)(p:List Int)(i:Nat):(oO w p i).length=w.length:=by
 rw[oO];split <;>simp
theorem tV{p:List Int}{i:Nat}{n:Nat}(hn:0<n∧n≤4611686018427387904)(hp:∀ x∈p,-9223372036854775808≤x∧x≤9223372036854775807):0≤fG p i (n:Nat)∧fG p i (n:Nat)<n:=by
 rw[fG];by_cases h:p=[]
 ·rw[if_pos h];omega
 ·rw[if_neg h];have hpos:0<p.length:=zx2.2 h;have hlt:i%p.length<p.length:=Nat.mod_lt _ hpos;have hm:p.getD (i%p.length) 0∈p:=by simp only[zz6,zz2 hlt,Option.getD_some];exact List.getElem_mem hlt
  rw[vv (hp _ hm) (by omega)];exact ⟨Int.emod_nonneg _ (by omega),Int.emod_lt_of_pos _ (by omega)⟩
theorem xS:∀ l:List UInt8,mw (l.map enc)=some l
 | []=>rfl
 |b::l=>by
  have h:=xS l;rw[Z4]
  show (match I.int .u8 (b.toNat:Int),mw (l.map enc) with | .int .u8 n,some l=>some (UInt8.ofNat n.toNat::l) | _,_=>none)=_
  rw[h]
  show some (UInt8.ofNat ((b.toNat:Int)).toNat::l)=_
  simp
theorem lG(l:List UInt8):kI (some (l.map enc))=some (enc (ak.of l)):=by
 rw[kI,xS];rfl
theorem tc(A:ab)(t:List UInt8):jY A 1 (enc (ak.of t))=some (t.map enc):=rfl
theorem sV(n:Nat):List.replicate n (I.int .u8 0)=(List.replicate n (0:UInt8)).map enc:=by rw[List.map_replicate];rfl
def tf(sz z lo k:Nat):Option (List I)→Option (List I)
 |some fs=>if lo+k≤fs.length∧z=sz then some ((fs.drop lo).take k) else none
 |none=>none
theorem lB(A:ab)(sz n z lo k:Nat)(p:List Nat):jY A sz (.view n p z lo k)=tf sz z lo k (eg (dA p (A.o n))):=by
 show cR A sz (.view n p z lo k)=_
 simp only[cR,jG,ft];cases dA p (A.o n) with
 |none=>rfl
 |some c=>cases c <;>rfl
theorem me(l q:List UInt8){n:Nat}(h:n=l.length):tf 1 1 0 n (some ((l++q).map enc))=some (l.map enc):=by
 subst h;simp only[tf,Z2,List.drop_zero,←List.map_take,List.take_left];rw[if_pos ⟨by simp,trivial⟩]
theorem td(A:ab)(k n:Nat)(l:List UInt8)(hn:n=l.length)(h:A.o k=some (.box (.agg (l.map enc)))):cR A 1 (.view k [] 1 0 n)=some (l.map enc):=by
 subst hn;have e:=nk (A:=A) (esz:=1) (lo:=0) (k:=l.length) h (by simp);rw[List.drop_zero,List.take_length] at e;exact e
theorem zt{A:ab}{d:Option Nat}{z esz:Nat}{rest:List av}{ys:List I} : j6 A d esz (aq rest) (.c0 z) (some ys)=aq rest (A.aN d (.int .i64 0)):=rfl
theorem YK{n:Nat}{p:List Nat}{sz k:Nat} : iG n p sz 0 k k (some (.int .i64 k)) none none=some (.c0 sz):=by
 simp only[iG,gR];rw[if_pos ⟨by omega,by omega,by omega⟩,if_pos (by omega)]
theorem D8{A:ab}{n k i:Nat}{xs:List UInt8}(hk:k=xs.length)(hi:i<k)(h:A.o n=some (.box (.agg (xs.map enc)))):jw A 1 (some (.int .i64 i)) none none (.view n [] 1 0 k)=some (.view n [] 1 i (k-i)):=by
 subst hk;rw[wA,h]
 show lz n [] 1 0 xs.length 1 _ none none (some (xs.map enc))=_
 rw[wB,Z2,mb (by omega) (by omega) hi]
theorem D9{A:ab}{n k:Nat}{xs:List UInt8}(hk:k=xs.length)(h:A.o n=some (.box (.agg (xs.map enc)))):jw A 1 (some (.int .i64 k)) none none (.view n [] 1 0 k)=some (.c0 1):=by
 subst hk;rw[wA,h]
 show lz n [] 1 0 xs.length 1 _ none none (some (xs.map enc))=_
 rw[wB,Z2,YK]
theorem rq{A:ab}{d:Option Nat}{n k m:Nat}{rest:List av}{a:List UInt8}(hk:k=a.length+m)(h:A.o n=some (.box (.agg ((List.replicate k (0:UInt8)).map enc)))) :
  j6 A d 1 (aq rest) (.view n [] 1 0 k) (some (a.map enc))=aq rest ((A.aP n (.box (.agg ((a++List.replicate m (0:UInt8)).map enc)))).aN d (.int .i64 (a.length:Nat))):=by
 subst hk;rw[nN (c:=a.length) h (by simp) (by omega)];simp
theorem zr{A:ab}{d:Option Nat}{n i m:Nat}{rest:List av}{a b:List UInt8}(hi:i=a.length)(hm:m=b.length)(h:A.o n=some (.box (.agg ((a++List.replicate m (0:UInt8)).map enc)))) :
  j6 A d 1 (aq rest) (.view n [] 1 i m) (some (b.map enc))=aq rest ((A.aP n (.box (.agg ((a++b).map enc)))).aN d (.int .i64 (b.length:Nat))):=by
 subst hi hm;rw[nN (c:=b.length) h (by simp) (by omega)];simp
theorem xj(r:cI)(hr:r.small)(p:List Int)(i:Nat)(hi:i≤900)(hp:p.length≤100000000000000)(hpi:∀ x∈p,-9223372036854775808≤x∧x≤9223372036854775807):aM Tryz.prog 75 [enc r,enc p,.int .i64 (i:Int)] (enc (iU r p i)):=by
 obtain ⟨n1,hn1⟩:∃ n1:Nat,fG p i ((r.cE.length+1:Nat):Int)=(n1:Int):=zz1 (tV (by have:=hr.2;omega) hpi).1;have hn1l:n1≤r.cE.length:=by have:=(tV (p:=p) (i:=i) (n:=r.cE.length+1) (by have:=hr.2;omega) hpi).2;omega
 have hd:=hr.1;have hu:=hr.2;have e1:qK r.cE p i=r.cE.take n1:=by rw[qK,hn1];rfl
 have hnl:(r.cE.take n1).length=n1:=by rw[Z7];omega
 rw[iU,tm,e1];refine aM.bL Tryz.func75 HQ I8 Kq (t8 rfl) (fun hwf W0 bC E1 =>?_);simp only[c75,CW,bB,Z5,Nat.reduceAdd];clear hwf;have f1:=tz p i ((r.cE.length+1:Nat):Int) (by omega) (by omega) (by omega);have f2:=tz p (i+1) 2 (by omega) (by omega) (by omega);have hss:=nd (ak.of r.cE) (j:=n1) (by rw[ak.c8];exact hn1l);rw[ak.c8] at hss;have hs2:=s9 (r.cE.take n1);have hl:=fun t=>kv t;have hw1:IntKind.i64.wrap (((r.cE.length:Nat):Int)+1)=((r.cE.length+1:Nat):Int):=by rw[dC _ (by omega) (by omega)];omega
 have hw2:IntKind.i64.wrap ((i:Int)+1)=((i+1:Nat):Int):=by rw[dC _ (by omega) (by omega)];omega
 have hw3:IntKind.i64.wrap ((i:Int)+2)=((i+2:Nat):Int):=by rw[dC _ (by omega) (by omega)];omega
 rw[hn1] at f1
 replace f2:aM Tryz.prog 121 [enc p,.int .i64 ((i+1:Nat):Int),.int .i64 2] (.int .i64 (fG p (i+1) 2)):=f2
 replace f1:aM Tryz.prog 121 [enc p,.int .i64 (i:Int),.int .i64 ((r.cE.length+1:Nat):Int)] (.int .i64 (n1:Int)):=f1
 obtain ⟨l2,hl2⟩:∃ l2,oO (r.cE.take n1) p i=l2:=⟨_,rfl⟩
 have hl2n:l2.length=n1:=by rw[←hl2,Ee,hnl]
 rw[hl2];rw[oO] at hl2;generalize r.cE.take n1=w at *;have hpi':=hpi;clear e1;have hiv:=trivial;have hat:=trivial;have hst:=trivial;have f3:=f2;rcases Nat.eq_zero_or_pos n1 with h0 | h0
 ·have hw0:l2=w:=by
   rw[if_neg] at hl2
   ·exact hl2.symm
   ·intro h;omega
  subst hw0;have hg:decide ((n1:Int)>0)=false:=decide_eq_false (by omega);cases hb:fG p (i+1) 2==1
  ·generalize fG p (i+1) 2=a2 at *;have hw4:IntKind.i64.wrap ((r.bD.length:Int)+(n1:Int))=((r.bD.length+n1:Nat):Int):=by rw[dC _ (by omega) (by omega)];omega
   have hmk:=fun (A:ab) (rest:List av)=>su (A:=A) (d:=44) (bytes:=1) (z:=.int .u8 0) (rest:=rest) (n:=r.bD.length+n1) (by omega) (by unfold maxLen;omega);have hcp:=fun (A:ab) (rest:List av)=>rq (A:=A) (d:=some 48) (n:=44) (k:=r.bD.length+n1) (m:=n1) (rest:=rest) (a:=r.bD) rfl;have hcv:=fun (q:List UInt8)=>me l2 q (n:=n1) hl2n.symm;have hsb:=fun (A:ab)=>td A 44 (r.bD.length+n1) (r.bD++l2) (by simp[hl2n]);have hbs:=lG (r.bD++l2);have hce:=fun (A:ab)=>tc A r.bD;have hl0:l2=[]:=zy9 (by omega);have hsl:=fun (A:ab)=>D9 (A:=A) (n:=44) (k:=r.bD.length+n1) (xs:=r.bD++List.replicate n1 0) (by simp);have hn:((r.bD.length+n1:Nat):Int)=(r.bD.length:Int):=by omega
   have hrp:r.bD++List.replicate n1 (0:UInt8)=r.bD++l2:=by rw[hl0,h0];rfl
   rw[hn,hrp] at hsl;rw[hrp] at hcp;have R:=y6 @hg (y6 @kY (y6 @lB (y6 @lU (y6 @sV (y6 @hw1 (y6 @hw2 (y6 @hw3 (y6 @hw4 (y6 @hb (y6 @hnl (y6 @hmk (y6 @hcp (y6 @hcv (y6 @hsb (y6 @hbs (y6 @hce (y6 @hsl (y6 @zt (y6 @eW (y6 @ej (y6 @gl (y6 @hl (y6 @hss (y6 @hs2 (y6 @bd (y6 @lR az))))))))))))))))))))))))))
   repeat' ((first |(with_reducible refine .guard (fun hb =>?_) (fun hb =>?_) <;>try simp only[hb])|(refine U.jt (gs:=kU) [] [] [0,1,2,3,4,5,6,7,8,9,10,11] (by decide +kernel) (dq.of (by simp[gW])) fun K hK =>?_;simp only[iA,kU,List.getD_cons_zero,List.getD_cons_succ,R,simprocAttr])|refine bH.dU rfl fun m =>?_|refine U.aE (by decide +kernel) rfl fun K hK =>?_|refine .flat _ (f1) rfl ?_|refine .flat _ (f2) rfl ?_|(refine .aA [0,1,2,3,6,7,8,29] hK ?_;clear hK K)|(with_reducible refine .done (hK _ ?_);clear hK K)|refine U.of rfl ?_|(with_reducible refine au.aD (fun h =>?_) (fun h =>?_) <;>try simp only[h])) <;>try simp only[aF,R,zy8,simprocAttr])
   all_goals clear R
   all_goals rfl
  ·generalize fG p (i+1) 2=a2 at *;have hw4:IntKind.i64.wrap ((r.bD.length:Int)+(n1:Int))=((r.bD.length+n1:Nat):Int):=by rw[dC _ (by omega) (by omega)];omega
   have hmk:=fun (A:ab) (rest:List av)=>su (A:=A) (d:=44) (bytes:=1) (z:=.int .u8 0) (rest:=rest) (n:=r.bD.length+n1) (by omega) (by unfold maxLen;omega);have hcp:=fun (A:ab) (rest:List av)=>rq (A:=A) (d:=some 48) (n:=44) (k:=r.bD.length+n1) (m:=n1) (rest:=rest) (a:=r.bD) rfl;have hcv:=fun (q:List UInt8)=>me l2 q (n:=n1) hl2n.symm;have hsb:=fun (A:ab)=>td A 44 (r.bD.length+n1) (r.bD++l2) (by simp[hl2n]);have hbs:=lG (r.bD++l2);have hce:=fun (A:ab)=>tc A r.bD;have hl0:l2=[]:=zy9 (by omega);have hsl:=fun (A:ab)=>D9 (A:=A) (n:=44) (k:=r.bD.length+n1) (xs:=r.bD++List.replicate n1 0) (by simp);have hn:((r.bD.length+n1:Nat):Int)=(r.bD.length:Int):=by omega
   have hrp:r.bD++List.replicate n1 (0:UInt8)=r.bD++l2:=by rw[hl0,h0];rfl
   rw[hn,hrp] at hsl;rw[hrp] at hcp;have R:=y6 @hg (y6 @kY (y6 @lB (y6 @lU (y6 @sV (y6 @hw1 (y6 @hw2 (y6 @hw3 (y6 @hw4 (y6 @hb (y6 @hnl (y6 @hmk (y6 @hcp (y6 @hcv (y6 @hsb (y6 @hbs (y6 @hce (y6 @hsl (y6 @zt (y6 @eW (y6 @ej (y6 @gl (y6 @hl (y6 @hss (y6 @hs2 (y6 @bd (y6 @lR az))))))))))))))))))))))))))
   repeat' ((first |(with_reducible refine .guard (fun hb =>?_) (fun hb =>?_) <;>try simp only[hb])|(refine U.jt (gs:=kU) [] [] [0,1,2,3,4,5,6,7,8,9,10,11] (by decide +kernel) (dq.of (by simp[gW])) fun K hK =>?_;simp only[iA,kU,List.getD_cons_zero,List.getD_cons_succ,R,simprocAttr])|refine bH.dU rfl fun m =>?_|refine U.aE (by decide +kernel) rfl fun K hK =>?_|refine .flat _ (f1) rfl ?_|refine .flat _ (f2) rfl ?_|(refine .aA [0,1,2,3,6,7,8,29] hK ?_;clear hK K)|(with_reducible refine .done (hK _ ?_);clear hK K)|refine U.of rfl ?_|(with_reducible refine au.aD (fun h =>?_) (fun h =>?_) <;>try simp only[h])) <;>try simp only[aF,R,zy8,simprocAttr])
   all_goals clear R
   all_goals rfl
 ·have hg:decide ((n1:Int)>0)=true:=decide_eq_true (by omega);cases hb:fG p (i+1) 2==1
  ·have hw0:l2=w:=by
    rw[if_neg] at hl2
    ·exact hl2.symm
    ·intro h;rw[h.1] at hb;cases hb
   subst hw0;generalize fG p (i+1) 2=a2 at *;have hw4:IntKind.i64.wrap ((r.bD.length:Int)+(n1:Int))=((r.bD.length+n1:Nat):Int):=by rw[dC _ (by omega) (by omega)];omega
   have hmk:=fun (A:ab) (rest:List av)=>su (A:=A) (d:=44) (bytes:=1) (z:=.int .u8 0) (rest:=rest) (n:=r.bD.length+n1) (by omega) (by unfold maxLen;omega);have hcp:=fun (A:ab) (rest:List av)=>rq (A:=A) (d:=some 48) (n:=44) (k:=r.bD.length+n1) (m:=n1) (rest:=rest) (a:=r.bD) rfl;have hcv:=fun (q:List UInt8)=>me l2 q (n:=n1) hl2n.symm;have hsb:=fun (A:ab)=>td A 44 (r.bD.length+n1) (r.bD++l2) (by simp[hl2n]);have hbs:=lG (r.bD++l2);have hce:=fun (A:ab)=>tc A r.bD;have hsl:=fun (A:ab)=>D8 (A:=A) (n:=44) (k:=r.bD.length+n1) (i:=r.bD.length) (xs:=r.bD++List.replicate n1 0) (by simp) (by omega);rw[Nat.add_sub_cancel_left] at hsl;have hcb:=fun (A:ab) (rest:List av)=>zr (A:=A) (d:=some 55) (n:=44) (i:=r.bD.length) (m:=n1) (rest:=rest) (a:=r.bD) (b:=l2) rfl hl2n.symm;have R:=y6 @hg (y6 @hiv (y6 @hat (y6 @hst (y6 @mB (y6 @kY (y6 @lB (y6 @lU (y6 @sV (y6 @hw1 (y6 @hw2 (y6 @hw3 (y6 @hw4 (y6 @hb (y6 @hnl (y6 @hmk (y6 @hcp (y6 @hcv (y6 @hsb (y6 @hbs (y6 @hce (y6 @hsl (y6 @hcb (y6 @eW (y6 @ej (y6 @gl (y6 @hl (y6 @hss (y6 @hs2 (y6 @bd (y6 @lR az))))))))))))))))))))))))))))))
   repeat' ((first |(with_reducible refine .guard (fun hb =>?_) (fun hb =>?_) <;>try simp only[hb])|(refine U.jt (gs:=kU) [] [] [0,1,2,3,4,5,6,7,8,9,10,11] (by decide +kernel) (dq.of (by simp[gW])) fun K hK =>?_;simp only[iA,kU,List.getD_cons_zero,List.getD_cons_succ,R,simprocAttr])|refine bH.dU rfl fun m =>?_|refine U.aE (by decide +kernel) rfl fun K hK =>?_|refine .flat _ (f1) rfl ?_|refine .flat _ (f2) rfl ?_|refine .flat _ (f3) rfl ?_|(refine .aA [0,1,2,3,6,7,8,29] hK ?_;clear hK K)|(with_reducible refine .done (hK _ ?_);clear hK K)|refine U.of rfl ?_|(with_reducible refine au.aD (fun h =>?_) (fun h =>?_) <;>try simp only[h])) <;>try simp only[aF,R,zy8,simprocAttr])
   all_goals clear R
   all_goals rfl
  ·obtain ⟨j,hj,hjn⟩:∃ j:Nat,fG p (i+2) (n1:Int)=(j:Int)∧j<n1:=by
    have:=tV (p:=p) (i:=i+2) (n:=n1) (by omega) hpi';obtain ⟨j,hj⟩:=zz1 this.1;exact ⟨j,hj,by omega⟩
   have hw0:w.set j 63=l2:=by
    rw[if_pos ⟨by simpa using hb,by omega⟩,hnl,hj] at hl2;exact hl2
   clear f3 hiv hat hst;have f3:=tz p (i+2) (n1:Int) (by omega) (by omega) (by omega);rw[hj] at f3
   replace f3:aM Tryz.prog 121 [enc p,.int .i64 ((i+2:Nat):Int),.int .i64 (n1:Int)] (.int .i64 (j:Int)):=f3
   have hiv:=fun (fs:List I)=>AW (m:=19) (sz:=1) (lo:=0) (l:=n1) (i:=j) (fs:=fs) hjn;rw[Z5] at hiv;have hat:∀ q:List UInt8,jB j [] (some ((w++q).map enc))=some (enc w[j]):=fun q=>by
    have h2:((w++q).map (enc (α:=UInt8)))[j]?=some (enc w[j]):=by
     rw[zy0,zy3 (by omega),zz2 (by omega)];rfl
    simp only[jB,h2,mu,nG]
   have hst:∀ (A:ab) (q:List UInt8) (u:UInt8) (rest:List av),ev A none 19 [j] (.agg ((w++q).map enc)) (.int .u8 63) rest (some (enc u))=aq rest (A.aP 19 (.box (.agg ((l2++q).map enc)))):=fun A q u rest=>by
    have:=Em (A:=A) (n:=19) (i:=j) (xs:=w++q) 63 u (rest:=rest) rfl (by simp;omega);rw[List.set_append_left _ _ (by omega),hw0] at this;exact this
   generalize fG p (i+1) 2=a2 at *;have hw4:IntKind.i64.wrap ((r.bD.length:Int)+(n1:Int))=((r.bD.length+n1:Nat):Int):=by rw[dC _ (by omega) (by omega)];omega
   have hmk:=fun (A:ab) (rest:List av)=>su (A:=A) (d:=44) (bytes:=1) (z:=.int .u8 0) (rest:=rest) (n:=r.bD.length+n1) (by omega) (by unfold maxLen;omega);have hcp:=fun (A:ab) (rest:List av)=>rq (A:=A) (d:=some 48) (n:=44) (k:=r.bD.length+n1) (m:=n1) (rest:=rest) (a:=r.bD) rfl;have hcv:=fun (q:List UInt8)=>me l2 q (n:=n1) hl2n.symm;have hsb:=fun (A:ab)=>td A 44 (r.bD.length+n1) (r.bD++l2) (by simp[hl2n]);have hbs:=lG (r.bD++l2);have hce:=fun (A:ab)=>tc A r.bD;have hsl:=fun (A:ab)=>D8 (A:=A) (n:=44) (k:=r.bD.length+n1) (i:=r.bD.length) (xs:=r.bD++List.replicate n1 0) (by simp) (by omega);rw[Nat.add_sub_cancel_left] at hsl;have hcb:=fun (A:ab) (rest:List av)=>zr (A:=A) (d:=some 55) (n:=44) (i:=r.bD.length) (m:=n1) (rest:=rest) (a:=r.bD) (b:=l2) rfl hl2n.symm;have R:=y6 @hg (y6 @hiv (y6 @hat (y6 @hst (y6 @mB (y6 @kY (y6 @lB (y6 @lU (y6 @sV (y6 @hw1 (y6 @hw2 (y6 @hw3 (y6 @hw4 (y6 @hb (y6 @hnl (y6 @hmk (y6 @hcp (y6 @hcv (y6 @hsb (y6 @hbs (y6 @hce (y6 @hsl (y6 @hcb (y6 @eW (y6 @ej (y6 @gl (y6 @hl (y6 @hss (y6 @hs2 (y6 @bd (y6 @lR az))))))))))))))))))))))))))))))
   repeat' ((first |(with_reducible refine .guard (fun hb =>?_) (fun hb =>?_) <;>try simp only[hb])|(refine U.jt (gs:=kU) [] [] [0,1,2,3,4,5,6,7,8,9,10,11] (by decide +kernel) (dq.of (by simp[gW])) fun K hK =>?_;simp only[iA,kU,List.getD_cons_zero,List.getD_cons_succ,R,simprocAttr])|refine bH.dU rfl fun m =>?_|refine U.aE (by decide +kernel) rfl fun K hK =>?_|refine .flat _ (f1) rfl ?_|refine .flat _ (f2) rfl ?_|refine .flat _ (f3) rfl ?_|(refine .aA [0,1,2,3,6,7,8,29] hK ?_;clear hK K)|(with_reducible refine .done (hK _ ?_);clear hK K)|refine U.of rfl ?_|(with_reducible refine au.aD (fun h =>?_) (fun h =>?_) <;>try simp only[h])) <;>try simp only[aF,R,zy8,simprocAttr])
   all_goals clear R
   all_goals rfl
def iT(r:cP)(p:List Int):cP:=⟨iU r.cK p 0,iU r.copy p 3⟩
theorem qO(r:cP)(h:r.small)(p:List Int)(hp:p.length≤100000000000000)(hpi:∀ x∈p,-9223372036854775808≤x∧x≤9223372036854775807):aM Tryz.prog 22 [enc r,enc p] (enc (iT r p)):=by
 refine aM.bL Tryz.func22 Hx IQ J8 (t8 rfl) (fun hwf W0 bC E1 =>?_);simp only[yz,CF,bB,Z5];clear hwf;have f1:=xj r.cK h.1 p 0 (by omega) hp hpi;have f2:=xj r.copy h.2 p 3 (by omega) hp hpi
 replace f1:aM Tryz.prog 75 [enc r.cK,enc p,.int .i64 0] (enc (iU r.cK p 0)):=f1
 replace f2:aM Tryz.prog 75 [enc r.copy,enc p,.int .i64 3] (enc (iU r.copy p 3)):=f2
 simp only[iT];generalize iU r.cK p 0=a at *;generalize iU r.copy p 3=b at *;have R:=y6 @gl (y6 @eW (y6 @iu (y6 @rA (y6 @ej az))))
 repeat' ((first |refine U.aE (by decide +kernel) rfl fun K hK =>?_|refine .flat _ (f1) rfl ?_|refine .flat _ (f2) rfl ?_|(refine .aA [0,1,2,4] hK ?_;clear hK K)|(with_reducible refine .done (hK _ ?_);clear hK K)|refine U.of rfl ?_|(with_reducible refine au.aD (fun h =>?_) (fun h =>?_) <;>try simp only[h])) <;>try simp only[aF,R,simprocAttr])
 all_goals clear R
 all_goals rfl
def oN(w:List UInt8)(b c:Int):List UInt8:=if fk b 2=1∧0<w.length then w.set (fk c (w.length:Nat)).toNat 63 else w
def tn(r:cI)(a b c:Int):cI:=⟨r.bD++oN (r.cE.take (fk a (r.cE.length+1:Nat)).toNat) b c,[]⟩
theorem EA(r:cI)(hr:r.cE.length≤140737488351232)(p:List Int)(i:Nat):tn r (eQ p i) (eQ p (i+1)) (eQ p (i+2))=iU r p i:=by
 have e1:=tW p i (n:=((r.cE.length+1:Nat):Int)) (by omega);have e2:=tW p (i+1) (n:=2) (by omega);rw[tn,iU,tm,qK,oN,oO,e1,e2];generalize hw:r.cE.take (fk (eQ p i) ((r.cE.length+1:Nat):Int)).toNat=w;have hwl:w.length≤140737488351232:=by rw[←hw,Z7];omega
 by_cases h:0<w.length
 ·rw[tW p (i+2) (n:=(w.length:Int)) (by omega)]
 ·rw[if_neg (fun k=>h k.2),if_neg (fun k=>h k.2)]
def iB:aj:=⟨2,0,5,10,12,0,0,[97]⟩
def iM:List UInt8:=[51,55,52,56,51,55,32,50,32,48,32,53,32,49,48,32,49,50,32,48,32,48,32,97,10]
def cS:cP:=⟨⟨[],iM⟩,⟨[],[]⟩⟩
theorem L1:kg 1 iB=(iM,374837,0):=by decide +kernel
theorem L4:fM 1 iM=(iB,374837,0):=by decide +kernel
theorem L6:qL ju [] [] iB=(cS,[iB],0):=by decide +kernel
theorem L2:(gK (iT cS [])).2=[]:=by decide +kernel
theorem L3:(gK (iT cS [25,0,0])).2=[iB]:=by decide +kernel
theorem L5:(gK (iT cS [25,1,3])).2=[]:=by decide +kernel
theorem L0:gK (lH (ma cS) false)=(⟨⟨iM,[]⟩,⟨iM,[]⟩⟩,[iB]):=by decide +kernel
theorem mq:iM.length=25:=rfl
theorem FM:iM.drop 7=[50,32,48,32,53,32,49,48,32,49,50,32,48,32,48,32,97,10]:=rfl
theorem LQ:I.agg [.agg [.int .i64 2,.int .i64 0],.int .i64 5,.int .i64 10,.int .i64 12,.agg [.int .i64 0,.int .i64 0],.ah ⟨#[97]⟩]=enc iB:=rfl
theorem wO(p:List Int):(iT cS p).small:=by
 refine ⟨⟨?_,?_⟩,⟨?_,?_⟩⟩ <;>simp[iT,iU,tm,Ee,qK,cS,mq] <;>omega
theorem Fa:aM Tryz.prog 14 [] (enc true):=by
 refine aM.bL Tryz.func14 Hg Iz JS (t8 rfl) (fun hwf W0 bC E1 =>?_);simp only[yh,Cp,bB];clear hwf;have f29:=Fo 1 iB;rw[L1] at f29;have f31:=Fp 1 iM (by rw[mq];omega);rw[L4] at f31;have f35:=Fs ju ⟨⟨by decide,by decide⟩,⟨by decide,by decide⟩⟩ [] [] (by decide) (by decide) (fun _=>FE) iB;rw[L6] at f35;have h0:cS.small:=by refine ⟨⟨?_,?_⟩,⟨?_,?_⟩⟩ <;>simp[cS,mq]
 have t1:=qO cS h0 [] (by simp) (by simp);have t2:=qO cS h0 [25,0,0] (by simp) (by simp);have t3:=qO cS h0 [25,1,3] (by simp) (by simp);have o1:=oY _ (wO []);have o2:=oY _ (wO [25,0,0]);have o3:=oY _ (wO [25,1,3]);have f20:=xe cS h0;have f24:=tD (ma cS) false;have o4:=oY (lH (ma cS) false) (by refine ⟨⟨?_,?_⟩,⟨?_,?_⟩⟩ <;>simp[ma,lH,cS,cI.all,mq]);rw[L2] at o1;rw[L3] at o2;rw[L5] at o3;rw[L0] at o4;generalize iT cS []=T1 at *;generalize iT cS [25,0,0]=T2 at *;generalize iT cS [25,1,3]=T3 at *;generalize ma cS=T4 at *;generalize lH T4 false=T5 at *;generalize (gK T1).1=U1 at *;generalize (gK T2).1=U2 at *;generalize (gK T3).1=U3 at *
 dsimp only at f29 f31 f35 o4
 have hl:lQ (enc (ak.of iM))=some (.int .i64 25):=by rw[kv,mq];rfl
 have hww:cS.cK.cE=iM:=rfl;have hl2:(((ak.of iM).l.length:Nat):Int)=25:=by rw[ak.c8,mq];rfl
 have hd1:decide (cS.copy=(⟨[],[]⟩:cI))=true:=rfl;have hw7:IntKind.i64.wrap 7=7:=by decide
 have hl1:(((([iB]:List aj).length:Nat):Int)==1)=true:=rfl;have hn0:(((([]:List aj).length:Nat):Int)==0)=true:=rfl;have hse:bJ .eql (enc (ak.of [50,32,48,32,53,32,49,48,32,49,50,32,48,32,48,32,97,10])) (.ah ⟨#[50,32,48,32,53,32,49,48,32,49,50,32,48,32,48,32,97,10]⟩)=some (.bool true):=by
  show bJ .eql (enc (ak.of _)) (enc (ak.of [50,32,48,32,53,32,49,48,32,49,50,32,48,32,48,32,97,10]))=_
  rw[lu];simp
 have hp1:fp [.int .i64 0,.int .i64 0] [(0,.int .i64 2)]=some [.int .i64 2,.int .i64 0]:=rfl;have hp2:fp [.agg [.int .i64 0,.int .i64 0],.int .i64 0,.int .i64 0,.int .i64 0,.agg [.int .i64 0,.int .i64 0],.ah ⟨#[]⟩] [(0,.agg [.int .i64 2,.int .i64 0]),(1,.int .i64 5),(2,.int .i64 10),(3,.int .i64 12),(5,.ah ⟨#[97]⟩)]=some [.agg [.int .i64 2,.int .i64 0],.int .i64 5,.int .i64 10,.int .i64 12,.agg [.int .i64 0,.int .i64 0],.ah ⟨#[97]⟩]:=rfl;have hb2:gD 1 (some [.int .i64 25,.int .i64 0,.int .i64 0])=some (enc ([25,0,0]:List Int)):=rfl;have hb3:gD 1 (some [.int .i64 25,.int .i64 1,.int .i64 3])=some (enc ([25,1,3]:List Int)):=rfl;have hs:=wo (ak.of iM) (i:=7) (by rw[ak.c8,mq];omega);rw[ak.c8,FM] at hs
 replace hs:dX (.ss true false) [enc (ak.of iM),.int .i64 7]=some (enc (ak.of [50,32,48,32,53,32,49,48,32,49,50,32,48,32,48,32,97,10])):=hs
 have R:=y6 @hw7 (y6 @hl1 (y6 @hn0 (y6 @hse (y6 @hww (y6 @hl2 (y6 @hd1 (y6 @hl (y6 @hb2 (y6 @hb3 (y6 @hs (y6 @hp1 (y6 @hp2 (y6 @lu (y6 @LQ (y6 @ef (y6 @dJ (y6 @rA (y6 @eW (y6 @iu (y6 @ej (y6 @gl (y6 @bd az))))))))))))))))))))))
 repeat' ((first |(with_reducible refine .guard (fun hb =>?_) (fun hb =>?_) <;>try simp only[hb])|refine U.aE (by decide +kernel) rfl fun K hK =>?_|refine .flat _ (f29) rfl ?_|refine .flat _ (f31) rfl ?_|refine .flat _ (f35) rfl ?_|refine .flat _ (t1) rfl ?_|refine .flat _ (o1) rfl ?_|refine .flat _ (t2) rfl ?_|refine .flat _ (o2) rfl ?_|refine .flat _ (t3) rfl ?_|refine .flat _ (o3) rfl ?_|refine .flat _ (f20) rfl ?_|refine .flat _ (f24) rfl ?_|refine .flat _ (o4) rfl ?_|refine .lead _ (f35) ?_|refine .lead _ (o1) ?_|refine .lead _ (o2) ?_|refine .lead _ (o3) ?_|refine .lead _ (o4) ?_|(refine .aA [0,1,2,3,4,5,6,7,8,9,10,12,14,16,17,18,19,20] hK ?_;clear hK K)|(with_reducible refine .done (hK _ ?_);clear hK K)|refine U.of rfl ?_|(with_reducible refine au.aD (fun h =>?_) (fun h =>?_) <;>try simp only[h])) <;>try simp only[aF,R,eq_self,decide_true,simprocAttr])
 all_goals clear R
 all_goals rfl
theorem DW(b6:Int→List UInt8→Option (aj×Int)):∀ (ao:List (List UInt8)) (out:List aj) (s:Int) (z:Nat),out.length≤60→(gh b6 de out s z ao).1.length≤60
 | [],out,s,z,h=>by rw[gh];exact h
 |x::ao,out,s,z,h=>by
  rw[gh];cases b6 s x with
  |none=>exact h
  |some q =>
   simp only;split
   ·rename_i hn;refine DW b6 ao _ _ _ ?_;simp only[de,Z0,decide_eq_true_eq] at hn;rw[Z1];simp only[zz5,zy6];omega
   ·exact h
theorem DX(t:List UInt8):(gz bg de t).1.length≤60:=DW _ _ _ _ _ (by simp)
theorem te(A:ab)(sz n z lo k:Nat)(p:List Nat):cR A sz (.view n p z lo k)=tf sz z lo k (eg (dA p (A.o n))):=lB A sz n z lo k p
theorem YL(w:List UInt8)(b c:Int):(oN w b c).length=w.length:=by
 rw[oN];split <;>simp
theorem vx{a:Int}{n:Nat}(hn:0<n∧n≤4611686018427387904)(ha:-9223372036854775808≤a∧a≤9223372036854775807):0≤fk a (n:Nat)∧fk a (n:Nat)<n:=by
 rw[vv ha (by omega)];exact ⟨Int.emod_nonneg _ (by omega),Int.emod_lt_of_pos _ (by omega)⟩
theorem jj{A:ab}{n:Nat}{a b c:Int}(h:A.o n=some (.box (.agg [.int .i64 a,.int .i64 b,.int .i64 c]))):jK A 3 1 0 (.ptr n [])=some (.ptr n [0])∧jK A 3 1 1 (.ptr n [])=some (.ptr n [1])∧jK A 3 1 2 (.ptr n [])=some (.ptr n [2]):=by
 refine ⟨?_,?_,?_⟩ <;>simp[jK,n9,gV,iv,dA,eg,I.db,h,nG,gp,I.size]
theorem xk(r:cI)(hr:r.small)(a b c:Int)(ha:-9223372036854775808≤a∧a≤9223372036854775807)(hc:-9223372036854775808≤c∧c≤9223372036854775807):aM Tryz.prog 76 [enc r,.agg [.int .i64 a,.int .i64 b,.int .i64 c]] (enc (tn r a b c)):=by
 obtain ⟨n1,hn1⟩:∃ n1:Nat,fk a ((r.cE.length+1:Nat):Int)=(n1:Int):=zz1 (vx (by have:=hr.2;omega) ha).1;have hn1l:n1≤r.cE.length:=by have:=(vx (a:=a) (n:=r.cE.length+1) (by have:=hr.2;omega) ha).2;omega
 have hd:=hr.1;have hu:=hr.2;have hnl:(r.cE.take n1).length=n1:=by rw[Z7];omega
 rw[tn,hn1,Int.toNat_natCast];refine aM.bL Tryz.func76 HR I9 Kr (t8 rfl) (fun hwf W0 bC E1 =>?_);simp only[c76,CX,bB,Z5];clear hwf;have f1:=tE a ((r.cE.length+1:Nat):Int) (by omega);have f2:=tE b 2 (by omega);have hss:=nd (ak.of r.cE) (j:=n1) (by rw[ak.c8];exact hn1l);rw[ak.c8] at hss;have hs2:=s9 (r.cE.take n1);have hl:=fun t=>kv t;have hw1:IntKind.i64.wrap (((r.cE.length:Nat):Int)+1)=((r.cE.length+1:Nat):Int):=by rw[dC _ (by omega) (by omega)];omega
 rw[hn1] at f1
 replace f2:aM Tryz.prog 28 [.int .i64 b,.int .i64 2] (.int .i64 (fk b 2)):=f2
 replace f1:aM Tryz.prog 28 [.int .i64 a,.int .i64 ((r.cE.length+1:Nat):Int)] (.int .i64 (n1:Int)):=f1
 obtain ⟨l2,hl2⟩:∃ l2,oN (r.cE.take n1) b c=l2:=⟨_,rfl⟩
 have hl2n:l2.length=n1:=by rw[←hl2,YL,hnl]
 rw[hl2];rw[oN] at hl2;generalize r.cE.take n1=w at *;have hiv:=trivial;have hat:=trivial;have hst:=trivial;have f3:=f2;rcases Nat.eq_zero_or_pos n1 with h0 | h0
 ·have hw0:l2=w:=by
   rw[if_neg] at hl2
   ·exact hl2.symm
   ·intro h;omega
  subst hw0;have hg:decide ((n1:Int)>0)=false:=decide_eq_false (by omega);cases hb:fk b 2==1
  ·generalize fk b 2=a2 at *;have hv3:(I.agg [.int .i64 a,.int .i64 b,.int .i64 c]).cn=true:=rfl;have hi0:=fun (A:ab) (h:A.o 3=some (.box (.agg [.int .i64 a,.int .i64 b,.int .i64 c])))=>(jj h).1;have hi1:=fun (A:ab) (h:A.o 3=some (.box (.agg [.int .i64 a,.int .i64 b,.int .i64 c])))=>(jj h).2.1;have hi2:=fun (A:ab) (h:A.o 3=some (.box (.agg [.int .i64 a,.int .i64 b,.int .i64 c])))=>(jj h).2.2;have hcv:=fun (q:List UInt8)=>me l2 q (n:=n1) hl2n.symm;have hbs:=lG l2;have hadd:=dV r.bD l2 (by omega);have R:=y6 @hv3 (y6 @hi0 (y6 @hi1 (y6 @hi2 (y6 @hg (y6 @hiv (y6 @hat (y6 @hst (y6 @mB (y6 @kY (y6 @lB (y6 @te (y6 @hw1 (y6 @hb (y6 @hnl (y6 @hcv (y6 @hbs (y6 @hadd (y6 @eW (y6 @ej (y6 @gl (y6 @hl (y6 @hss (y6 @hs2 (y6 @bd (y6 @lR az)))))))))))))))))))))))))
   repeat' ((first |(with_reducible refine .guard (fun hb =>?_) (fun hb =>?_) <;>try simp only[hb])|(refine U.jt (gs:=kV) [] [] [0,1,2,3,4,5,6,7,8,9,10,11] (by decide +kernel) (dq.of (by simp[gW])) fun K hK =>?_;simp only[iA,kV,List.getD_cons_zero,List.getD_cons_succ,R,simprocAttr])|refine bH.dU rfl fun m =>?_|refine U.aE (by decide +kernel) rfl fun K hK =>?_|refine .flat _ (f1) rfl ?_|refine .flat _ (f2) rfl ?_|refine .flat _ (f3) rfl ?_|(refine .aA [0,1,2,3,4,5,25] hK ?_;clear hK K)|(with_reducible refine .done (hK _ ?_);clear hK K)|refine U.of rfl ?_|(with_reducible refine au.aD (fun h =>?_) (fun h =>?_) <;>try simp only[h])) <;>try simp only[aF,R,simprocAttr])
   all_goals clear R
   all_goals rfl
  ·generalize fk b 2=a2 at *;have hv3:(I.agg [.int .i64 a,.int .i64 b,.int .i64 c]).cn=true:=rfl;have hi0:=fun (A:ab) (h:A.o 3=some (.box (.agg [.int .i64 a,.int .i64 b,.int .i64 c])))=>(jj h).1;have hi1:=fun (A:ab) (h:A.o 3=some (.box (.agg [.int .i64 a,.int .i64 b,.int .i64 c])))=>(jj h).2.1;have hi2:=fun (A:ab) (h:A.o 3=some (.box (.agg [.int .i64 a,.int .i64 b,.int .i64 c])))=>(jj h).2.2;have hcv:=fun (q:List UInt8)=>me l2 q (n:=n1) hl2n.symm;have hbs:=lG l2;have hadd:=dV r.bD l2 (by omega);have R:=y6 @hv3 (y6 @hi0 (y6 @hi1 (y6 @hi2 (y6 @hg (y6 @hiv (y6 @hat (y6 @hst (y6 @mB (y6 @kY (y6 @lB (y6 @te (y6 @hw1 (y6 @hb (y6 @hnl (y6 @hcv (y6 @hbs (y6 @hadd (y6 @eW (y6 @ej (y6 @gl (y6 @hl (y6 @hss (y6 @hs2 (y6 @bd (y6 @lR az)))))))))))))))))))))))))
   repeat' ((first |(with_reducible refine .guard (fun hb =>?_) (fun hb =>?_) <;>try simp only[hb])|(refine U.jt (gs:=kV) [] [] [0,1,2,3,4,5,6,7,8,9,10,11] (by decide +kernel) (dq.of (by simp[gW])) fun K hK =>?_;simp only[iA,kV,List.getD_cons_zero,List.getD_cons_succ,R,simprocAttr])|refine bH.dU rfl fun m =>?_|refine U.aE (by decide +kernel) rfl fun K hK =>?_|refine .flat _ (f1) rfl ?_|refine .flat _ (f2) rfl ?_|refine .flat _ (f3) rfl ?_|(refine .aA [0,1,2,3,4,5,25] hK ?_;clear hK K)|(with_reducible refine .done (hK _ ?_);clear hK K)|refine U.of rfl ?_|(with_reducible refine au.aD (fun h =>?_) (fun h =>?_) <;>try simp only[h])) <;>try simp only[aF,R,simprocAttr])
   all_goals clear R
   all_goals rfl
 ·have hg:decide ((n1:Int)>0)=true:=decide_eq_true (by omega);cases hb:fk b 2==1
  ·have hw0:l2=w:=by
    rw[if_neg] at hl2
    ·exact hl2.symm
    ·intro h;rw[h.1] at hb;cases hb
   subst hw0;generalize fk b 2=a2 at *;have hv3:(I.agg [.int .i64 a,.int .i64 b,.int .i64 c]).cn=true:=rfl;have hi0:=fun (A:ab) (h:A.o 3=some (.box (.agg [.int .i64 a,.int .i64 b,.int .i64 c])))=>(jj h).1;have hi1:=fun (A:ab) (h:A.o 3=some (.box (.agg [.int .i64 a,.int .i64 b,.int .i64 c])))=>(jj h).2.1;have hi2:=fun (A:ab) (h:A.o 3=some (.box (.agg [.int .i64 a,.int .i64 b,.int .i64 c])))=>(jj h).2.2;have hcv:=fun (q:List UInt8)=>me l2 q (n:=n1) hl2n.symm;have hbs:=lG l2;have hadd:=dV r.bD l2 (by omega);have R:=y6 @hv3 (y6 @hi0 (y6 @hi1 (y6 @hi2 (y6 @hg (y6 @hiv (y6 @hat (y6 @hst (y6 @mB (y6 @kY (y6 @lB (y6 @te (y6 @hw1 (y6 @hb (y6 @hnl (y6 @hcv (y6 @hbs (y6 @hadd (y6 @eW (y6 @ej (y6 @gl (y6 @hl (y6 @hss (y6 @hs2 (y6 @bd (y6 @lR az)))))))))))))))))))))))))
   repeat' ((first |(with_reducible refine .guard (fun hb =>?_) (fun hb =>?_) <;>try simp only[hb])|(refine U.jt (gs:=kV) [] [] [0,1,2,3,4,5,6,7,8,9,10,11] (by decide +kernel) (dq.of (by simp[gW])) fun K hK =>?_;simp only[iA,kV,List.getD_cons_zero,List.getD_cons_succ,R,simprocAttr])|refine bH.dU rfl fun m =>?_|refine U.aE (by decide +kernel) rfl fun K hK =>?_|refine .flat _ (f1) rfl ?_|refine .flat _ (f2) rfl ?_|refine .flat _ (f3) rfl ?_|(refine .aA [0,1,2,3,4,5,25] hK ?_;clear hK K)|(with_reducible refine .done (hK _ ?_);clear hK K)|refine U.of rfl ?_|(with_reducible refine au.aD (fun h =>?_) (fun h =>?_) <;>try simp only[h])) <;>try simp only[aF,R,simprocAttr])
   all_goals clear R
   all_goals rfl
  ·obtain ⟨j,hj,hjn⟩:∃ j:Nat,fk c (n1:Int)=(j:Int)∧j<n1:=by
    have:=vx (a:=c) (n:=n1) (by omega) hc;obtain ⟨j,hj⟩:=zz1 this.1;exact ⟨j,hj,by rw[hj] at this;omega⟩
   have hw0:w.set j 63=l2:=by
    rw[if_pos ⟨by simpa using hb,by omega⟩,hnl,hj] at hl2;exact hl2
   clear f3 hiv hat hst;have f3:=tE c (n1:Int) (by omega);rw[hj] at f3
   replace f3:aM Tryz.prog 28 [.int .i64 c,.int .i64 (n1:Int)] (.int .i64 (j:Int)):=f3
   have hiv:=fun (fs:List I)=>AW (m:=16) (sz:=1) (lo:=0) (l:=n1) (i:=j) (fs:=fs) hjn;rw[Z5] at hiv;have hat:∀ q:List UInt8,jB j [] (some ((w++q).map enc))=some (enc w[j]):=fun q=>by
    have h2:((w++q).map (enc (α:=UInt8)))[j]?=some (enc w[j]):=by
     rw[zy0,zy3 (by omega),zz2 (by omega)];rfl
    simp only[jB,h2,mu,nG]
   have hst:∀ (A:ab) (q:List UInt8) (u:UInt8) (rest:List av),ev A none 16 [j] (.agg ((w++q).map enc)) (.int .u8 63) rest (some (enc u))=aq rest (A.aP 16 (.box (.agg ((l2++q).map enc)))):=fun A q u rest=>by
    have:=Em (A:=A) (n:=16) (i:=j) (xs:=w++q) 63 u (rest:=rest) rfl (by simp;omega);rw[List.set_append_left _ _ (by omega),hw0] at this;exact this
   generalize fk b 2=a2 at *;have hv3:(I.agg [.int .i64 a,.int .i64 b,.int .i64 c]).cn=true:=rfl;have hi0:=fun (A:ab) (h:A.o 3=some (.box (.agg [.int .i64 a,.int .i64 b,.int .i64 c])))=>(jj h).1;have hi1:=fun (A:ab) (h:A.o 3=some (.box (.agg [.int .i64 a,.int .i64 b,.int .i64 c])))=>(jj h).2.1;have hi2:=fun (A:ab) (h:A.o 3=some (.box (.agg [.int .i64 a,.int .i64 b,.int .i64 c])))=>(jj h).2.2;have hcv:=fun (q:List UInt8)=>me l2 q (n:=n1) hl2n.symm;have hbs:=lG l2;have hadd:=dV r.bD l2 (by omega);have R:=y6 @hv3 (y6 @hi0 (y6 @hi1 (y6 @hi2 (y6 @hg (y6 @hiv (y6 @hat (y6 @hst (y6 @mB (y6 @kY (y6 @lB (y6 @te (y6 @hw1 (y6 @hb (y6 @hnl (y6 @hcv (y6 @hbs (y6 @hadd (y6 @eW (y6 @ej (y6 @gl (y6 @hl (y6 @hss (y6 @hs2 (y6 @bd (y6 @lR az)))))))))))))))))))))))))
   repeat' ((first |(with_reducible refine .guard (fun hb =>?_) (fun hb =>?_) <;>try simp only[hb])|(refine U.jt (gs:=kV) [] [] [0,1,2,3,4,5,6,7,8,9,10,11] (by decide +kernel) (dq.of (by simp[gW])) fun K hK =>?_;simp only[iA,kV,List.getD_cons_zero,List.getD_cons_succ,R,simprocAttr])|refine bH.dU rfl fun m =>?_|refine U.aE (by decide +kernel) rfl fun K hK =>?_|refine .flat _ (f1) rfl ?_|refine .flat _ (f2) rfl ?_|refine .flat _ (f3) rfl ?_|(refine .aA [0,1,2,3,4,5,25] hK ?_;clear hK K)|(with_reducible refine .done (hK _ ?_);clear hK K)|refine U.of rfl ?_|(with_reducible refine au.aD (fun h =>?_) (fun h =>?_) <;>try simp only[h])) <;>try simp only[aF,R,simprocAttr])
   all_goals clear R
   all_goals rfl
theorem Fm(r:cP)(h:r.small)(p:List Int)(hp:p.length≤100000000000000)(hpi:∀ x∈p,-9223372036854775808≤x∧x≤9223372036854775807):aM Tryz.prog 23 [enc r,enc p] (enc (iT r p)):=by
 have hin:∀ i,-9223372036854775808≤eQ p i∧eQ p i≤9223372036854775807:=fun i=>by
  rw[eQ];by_cases h:p=[]
  ·rw[if_pos h];omega
  ·rw[if_neg h];have hpos:0<p.length:=zx2.2 h;have hlt:i%p.length<p.length:=Nat.mod_lt _ hpos;have hm:p.getD (i%p.length) 0∈p:=by simp only[zz6,zz2 hlt,Option.getD_some];exact List.getElem_mem hlt
   exact hpi _ hm
 refine aM.bL Tryz.func23 Hy IS J9 (t8 rfl) (fun hwf W0 bC E1 =>?_);simp only[yA,CG,bB,Z5];clear hwf;have q0:=nz p 0 (by omega) (by omega);have q1:=nz p 1 (by omega) (by omega);have q2:=nz p 2 (by omega) (by omega);have q3:=nz p 3 (by omega) (by omega);have q4:=nz p 4 (by omega) (by omega);have q5:=nz p 5 (by omega) (by omega);have f1:=xk r.cK h.1 (eQ p 0) (eQ p 1) (eQ p 2) (hin 0) (hin 2);have f2:=xk r.copy h.2 (eQ p 3) (eQ p 4) (eQ p 5) (hin 3) (hin 5);rw[EA r.cK h.1.2 p 0] at f1;rw[EA r.copy h.2.2 p 3] at f2
 replace q0:aM Tryz.prog 77 [enc p,.int .i64 0] (.int .i64 (eQ p 0)):=q0
 replace q1:aM Tryz.prog 77 [enc p,.int .i64 1] (.int .i64 (eQ p 1)):=q1
 replace q2:aM Tryz.prog 77 [enc p,.int .i64 2] (.int .i64 (eQ p 2)):=q2
 replace q3:aM Tryz.prog 77 [enc p,.int .i64 3] (.int .i64 (eQ p 3)):=q3
 replace q4:aM Tryz.prog 77 [enc p,.int .i64 4] (.int .i64 (eQ p 4)):=q4
 replace q5:aM Tryz.prog 77 [enc p,.int .i64 5] (.int .i64 (eQ p 5)):=q5
 have hp3:∀ a b c:Int,fp [.int .i64 0,.int .i64 0,.int .i64 0] [(0,.int .i64 a),(1,.int .i64 b),(2,.int .i64 c)]=some [.int .i64 a,.int .i64 b,.int .i64 c]:=fun _ _ _=>rfl;simp only[iT];generalize iU r.cK p 0=a at *;generalize iU r.copy p 3=b at *;have R:=y6 @hp3 (y6 @gl (y6 @eW (y6 @iu (y6 @rA (y6 @ej az)))))
 repeat' ((first |refine U.aE (by decide +kernel) rfl fun K hK =>?_|refine .flat _ (f1) rfl ?_|refine .flat _ (f2) rfl ?_|refine .flat _ (q0) rfl ?_|refine .flat _ (q1) rfl ?_|refine .flat _ (q2) rfl ?_|refine .flat _ (q3) rfl ?_|refine .flat _ (q4) rfl ?_|refine .flat _ (q5) rfl ?_|(refine .aA [0,1,2,4,5,6] hK ?_;clear hK K)|(with_reducible refine .done (hK _ ?_);clear hK K)|refine U.of rfl ?_|(with_reducible refine au.aD (fun h =>?_) (fun h =>?_) <;>try simp only[h])) <;>try simp only[aF,R,simprocAttr])
 all_goals clear R
 all_goals rfl
theorem Xx(r:cP):(gK r).2.length≤60:=by
 simp only[gK,oA];split
 ·exact DX _
 ·exact DX _
theorem Ft(r:cP)(h:r.small)(p:List Int)(hp:p.length≤100000000000000):aM Tryz.prog 4 [enc r,enc p] (enc true):=by
 refine aM.bL Tryz.func4 HI I1 Ki (t8 rfl) (fun hwf W0 bC E1 =>?_);simp only[c4,CP,bB,Z5];have hpi:∀ x∈p,-9223372036854775808≤x∧x≤9223372036854775807:=fun x hx=>(Y5 x).1 (((Y6 p).1 hwf.2.1).2 x hx);clear hwf;have f18:=oY r h;have f19:=Fk r h;have f20:=xe r h;have f21:=Fl r h;have f22:=qO r h p hp hpi;have f23:=Fm r h p hp hpi;have f24:=tD r true;have f25:=xf r true;have f24':=tD r false;have f25':=xf r false;have hm:=Xx r;generalize gK r=q at *;generalize ma r=s at *;generalize iT r p=t at *;generalize lH r true=u at *;generalize lH r false=u' at *;have f17:=Fh q.2 q.2 (by omega);rw[decide_eq_true rfl] at f17;have R:=y6 @rA (y6 @eW (y6 @iu (y6 @ej az)))
 repeat' ((first |(with_reducible refine .guard (fun hb =>?_) (fun hb =>?_) <;>try simp only[hb])|refine U.aE (by decide +kernel) rfl fun K hK =>?_|refine .flat _ (Fa) rfl ?_|refine .lead _ (f18) ?_|refine .lead _ (f19) ?_|refine .flat _ (f17) rfl ?_|refine .flat _ (f20) rfl ?_|refine .flat _ (f21) rfl ?_|refine .flat _ (f22) rfl ?_|refine .flat _ (f23) rfl ?_|refine .flat _ (f24) rfl ?_|refine .flat _ (f25) rfl ?_|refine .flat _ (f24') rfl ?_|refine .flat _ (f25') rfl ?_|(refine .aA [0,1,2,4,5,6,7,8,9,10] hK ?_;clear hK K)|(with_reducible refine .done (hK _ ?_);clear hK K)|refine U.of rfl ?_|(with_reducible refine au.aD (fun h =>?_) (fun h =>?_) <;>try simp only[h])) <;>try simp only[aF,R,eq_self,decide_true,simprocAttr])
 all_goals clear R
 all_goals rfl
end Go.Proofs.YtoffnnjbplgnaaaGreatDoor
