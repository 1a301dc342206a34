/-
  A part of the proof that the law RollBooks returns true for every input; five variables of Go's library start as the text lays them (the card ties them); conditions: none beyond the statement's own. (part 5 of 7)
-/
import Derived.ChangeArms
import Derived.Test.YtoffnnjbplgnaaaGreatDoorRows
import Derived.Test.YtoffnnjbplgnaaaGreatDoorCards
import Derived.Test.YtoffnnjbplgnaaaGreatDoorTie
import Derived.LaidMore
import Derived.MakeChecks
import Derived.Lib.LaidTab
import Derived.Lib.LaidU8
import Derived.HandedShaped
import Derived.Shelf.Vars
import Derived.Shelf.SlSortCmp.WholeK
import Derived.Shelf.SlSortCmp.NoneTotal
import Derived.Shelf.Small.Wraps
import Derived.WalkKit
import Derived.Lib.RowBridge
import Derived.Lib.SortBridge
import Derived.StillTailTactics
import Derived.Test.YtoffnnjbplgnaaaGreatDoorNhd
set_option linter.unusedSimpArgs false
set_option linter.unusedVariables false
set_option maxHeartbeats 16000000
set_option maxRecDepth 100000
namespace Go.Abs
open Go Go.RowKit
open Enc (enc)
def He(P:Program)(nn:Nat)(x y:bh)(ps:List Nat)(tsR:List (Nat×I))(N:Nat)(item:Nat→List I)(aW J:Nat→List (Nat×ai)→Prop)(Ix:Option Nat→List (Nat×ai)→Prop):Prop :=
 ∀ k osb,k<N→aW k osb→∀ (w:World) (D:aJ) (E:aO) (l:Nat) (o1 o2:Obj),
  U ⟨P,w,D,nn,bU E,E,e8,some l,none⟩ x (cg (fun B=>B.o 1999999=some (.cz o1)∧U ⟨P,w,D,nn,bU E,E,e8,some l,none⟩ y (wZ o2 (J k) Ix) (B.aN 1999999 (.cz o2))) (fun _ _=>False)) (al (pd ps (item k) tsR) (bE o1 osb))
theorem yA{aE:Bool}{A0:ab}{ρ:List (Nat×Nat)}{os:List (Nat×ai)} : ∀ {caps:List I},(∀ x∈caps,x.only (aw os)=true∧x.cn=true)→gi aE A0 ρ os (caps.map fun x=>x.aR (bo ρ)) caps
 | [],_=>trivial
 |x::xs,h=>⟨.inl ⟨rfl,(h x (by simp)).1,(h x (by simp)).2⟩,yA fun y hy=>h y (by simp[hy])⟩
theorem HL{aE:Bool}{A0:ab}{ρ:List (Nat×Nat)}{os:List (Nat×ai)}{v:Value}{caps0 caps:List I}(hc:caps0=caps.map fun x=>x.aR (bo ρ))(h:∀ x∈caps,x.only (aw os)=true∧x.cn=true):gi aE A0 ρ os (.raw v::caps0) (.raw v::caps):=by
 subst hc;exact ⟨.inl ⟨by simp[I.aR],by simp[I.only],rfl⟩,yA h⟩
section
variable {c:ct} {Q:Exit→ab→Prop}
theorem U.abu{f:aF}{ps:List Nat}{x y:bh}{ts tsR:List (Nat×I)}{os0 osb0:List (Nat×ai)}{ρ:List (Nat×Nat)}{g:FuncId}{caps0 caps:List I}{N:Nat}{item:Nat→List I}
  (aW J:Nat→List (Nat×ai)→Prop) (Ix:Option Nat→List (Nat×ai)→Prop) (hr0:c.pf=none∧c.dV=none) (hn6:c.n≤1000000)
  (hf:af (al ts os0) f=.func g caps0) (hc0:caps0=caps.map fun x=>x.aR (bo ρ)) (hcp:∀ x∈caps,x.only (aw osb0)=true∧x.cn=true) (hcb:dH c.P g=true)
  (jg:∀ (Y:Value→List I→List (Nat×ai)→cd→Prop) (v:Value) (o:Obj) (oX:Option Nat→Obj),v.oneCell'=true →
   (∀ k osb post,k<N→aW k osb→(∀ r os2,(r=.bool true∧∃ osb2,os2=bE o osb2∧J k osb2)∨(r=.bool false∧∃ e osb2,os2=bE (oX e) osb2∧Ix e osb2)→post r os2)→Y v (item k) (bE o osb) post) →
   iH c.P g Y (.raw v::caps) (bE o osb0) (fun r os'=>r=.tuple []∧((∃ osb,os'=bE o osb∧aW N osb)∨∃ e osb,os'=bE (oX e) osb∧Ix e osb))) (hlen:∀ k,(item k).length=ps.length)
  (hfree:aG os0 999999=none) (h19:aw osb0 1999999=false) (hρ:bo ρ 1999999=999999)
  (hgv:∀ o,eF ρ (bE o osb0) ((999999,.cz o)::os0)) (hts:jt ρ (aw osb0) ts tsR)
  (hI:∀ k os,aW k os→dM osb0 os) (hIx:∀ e os,Ix e os→dM osb0 os) (h0:aW 0 osb0)
  (hround:He c.P c.n x y ps tsR N item aW J Ix)
  (hdone:∀ os,aW N os→Q .normal (al ts (cD ρ os++os0))) (hexit:∀ e os,Ix e os→Q (p6 e) (al ts (cD ρ os++os0))) :
  U c (.jN f ps x y) Q (al ts os0):=by
 obtain ⟨hr,hbase⟩:=hr0;intro code hc a w hs;cases code <;>simp only[dG] at hc <;>try (first | (cases hc;done) | ((repeat' split at hc) <;>cases hc;done))
 rename_i cf cps cx cy;split at hc
 case h_2=>cases hc
 rename_i f' x' y' hcf hcx hcy;split at hc
 case isFalse=>cases hc
 rename_i hpn;simp only[v6,bh.jN.injEq] at hc;obtain ⟨rfl,rfl,rfl,rfl⟩:=hc;obtain ⟨D,E,hs⟩:=hs;have hF:c.bj=Fence.wide:=by unfold ct.bj;rw[hr]
 have hE0:c.cA 999999=none:=hs.jf (.inr (by decide));have hval:∃ vs:List Value,a.eval cf=.func (.func g) #[] vs.toArray∧aB w D E caps0 vs:=by
  have hv:=br hs hcf;rw[hf] at hv;obtain ⟨cs,q1,q2⟩:=hv;simp only[ae] at q2;obtain ⟨vs,q3,q4⟩:=q2;exact ⟨vs,by rw[←lB (u3 hcb)];simpa[bd,I.isAgg,q3] using q1.symm,q4⟩
 obtain ⟨vs,hval,hvs⟩:=hval;rw[hF];refine wpIn_rangeFunc fun fn hfn =>?_;obtain ⟨rec,hrec⟩:∃ rec:LoopState→Option Code→Loop,rec=fun aS pe => { state:=aS,pending:=pe,fn,tmps:=a.tmps,params:=cps,assign:=cx,body:=cy,defers:=w.heap.size } :=⟨_,rfl⟩
 obtain ⟨E1,hs1,hE1,hup⟩:=hs.enter hbase hfree hE0 (o:=.loop (rec .ready none)) rfl;obtain ⟨W1,hW1⟩:∃ W1,(w.alloc (.deferred (some []))).alloc (.loop (rec .ready none))=W1:=⟨_,rfl⟩
 rw[hW1] at hs1 hup;obtain ⟨l,hl⟩:∃ l,l=w.heap.size+1:=⟨_,rfl⟩
 rw[←hl] at hE1;obtain ⟨yv,hyv⟩:∃ yv:Value,yv=.func (.yield l) #[] #[]:=⟨_,rfl⟩
 obtain ⟨a1,ha1⟩:∃ a1:Act,a1 = { a with defers := { target:=.collected w.heap.size,args := #[] } :: a.defers } :=⟨_,rfl⟩
 rw[←ha1] at hs1;refine ⟨l,[{ target:=.collected w.heap.size,args := #[] }],W1,{ target:=.fn (.func g) vs.toArray,args := #[yv] },W1,g,#[yv]++vs.toArray,W1,?_,?_,?_,?_,fun _=>by decide,?_⟩
 ·rw[←hW1,hrec,hl];exact run_enterLoop_outer _ _ _ _ _
 ·simp only[resolve,hval,hyv];simp[go_sem]
 ·intro f' _;trivial
 ·simp only[invoke,lR hcb]
 ·-- the iterator's own bargain
  have hG0:=hI 0 osb0 h0;obtain ⟨I',hI'⟩:∃ I':Nat→List (Nat×ai)→Prop,I'=fun k os=>∃ osb,os=bE (.loop (rec .ready none)) osb∧aW k osb:=⟨_,rfl⟩
  obtain ⟨J',hJ'⟩:∃ J':Nat→List (Nat×ai)→Prop,J'=fun k os=>∃ osb,os=bE (.loop (rec .ready none)) osb∧J k osb:=⟨_,rfl⟩
  obtain ⟨Ix',hIx'⟩:∃ Ix':List (Nat×ai)→Prop,Ix'=fun os=>∃ e osb,os=bE (.loop (rec .done (some (nq e)))) osb∧Ix e osb:=⟨_,rfl⟩
  obtain ⟨os1,hos1⟩:∃ os1,os1=bE (.loop (rec .ready none)) osb0:=⟨_,rfl⟩
  obtain ⟨Y,hY⟩:∃ Y:Value→List I→List (Nat×ai)→cd→Prop,Y=fun v args os post=>v=yv∧∃ k,args=item k∧k<N∧I' k os∧∀ r os2,(r=.bool true∧J' k os2)∨(r=.bool false∧Ix' os2)→post r os2:=⟨_,rfl⟩
  have gS:∀ k os',I' k os'→dM os1 os':=fun k os' h=>by
   rw[hI'] at h;obtain ⟨osb,rfl,h⟩:=h;rw[hos1];exact (hI k osb h).bE _ _
  have goodx:∀ os',Ix' os'→dM os1 os':=fun os' h=>by
   rw[hIx'] at h;obtain ⟨e,osb,rfl,h⟩:=h;rw[hos1];exact (hIx e osb h).bE _ _
  have hctr:iH c.P g Y (.raw yv::caps) os1 (fun r os'=>r=.tuple []∧(I' N os'∨Ix' os')):=by
   rw[hI',hIx',hos1];refine jg Y yv (.loop (rec .ready none)) (fun e=>.loop (rec .done (some (nq e)))) (by rw[hyv];rfl) (fun k osb post hk h1 h2 =>?_);rw[hY];refine ⟨rfl,k,rfl,hk,by rw[hI'];exact ⟨osb,rfl,h1⟩,fun r os2 h3=>h2 r os2 ?_⟩;rw[hJ',hIx'] at h3;exact h3
  have hgv1:eF ρ os1 ((999999,.cz (.loop (rec .ready none)))::os0):=by rw[hos1];exact hgv _
  obtain ⟨A0,hA0⟩:∃ A0:ab,A0=al ts ((999999,.cz (.loop (rec .ready none)))::os0):=⟨_,rfl⟩
  have hand:me (Calls c.P g) (fun w D E=>∀ n,mg ⟨c.P,w,D,n,bU E,E,Y,none,none⟩) (.raw yv::caps) os1 (fun r os'=>r=.tuple []∧(I' N os'∨Ix' os')):=fun w D E vs hy hlive hheld hv=>by
   refine (hctr.2 w D E vs hy hlive hheld hv).mono fun e w' ⟨v,he,D',E',r,os',q⟩=>⟨v,D',E',r,os',he,q⟩
  have hshare:=hs1.mR;obtain ⟨Dh,hDh⟩:∃ Dh,Dh=mQ (al ts ((999999,.cz (.loop (rec .ready none)))::os0)) D E1:=⟨_,rfl⟩
  rw[←hDh] at hshare;have hsh:=hshare.1;obtain ⟨Eh,hEh⟩:∃ Eh,Eh=az ρ os1 E1:=⟨_,rfl⟩
  have isrec:aw os1 1999999=true:=by rw[hos1,iq];simp
  have hEl:Eh 1999999=some (.op l):=by rw[hEh];simp only[az,isrec,if_true,hρ];exact hE1
  have EhIn:∀ n e,Eh n=some e→aw os1 n=true:=fun n e h=>by
   rw[hEh] at h;simp only[az] at h;split at h
   ·assumption
   ·cases h
  have hyok:∀ n,mg ⟨c.P,W1,Dh,n,bU Eh,Eh,Y,none,none⟩:=by
   refine fun n=>⟨by rw[hEh];exact hs1.nr,?_⟩
   intro v' args os' post' hYv w2 D2 E2 vs2 hsince hlive hheld hrvs;rw[hY] at hYv;obtain ⟨rfl,k,rfl,hkN,hIk,hpost⟩:=hYv;have hIk0:=hIk;rw[hI'] at hIk;obtain ⟨osb,rfl,hIk⟩:=hIk;have gk:=gS k _ hIk0;have gkb:=hI k osb hIk;have in2:∀ m,aw os1 m=true→E2 m≠none:=fun m hm=>by
    rw[←gk.same m] at hm;cases hx:aG (bE (.loop (rec .ready none)) osb) m with
    |none=>simp[aw,hx] at hm
    |some x=>have:=hheld.bx m;rw[hx] at this;exact mI this
   have same2:∀ m e,Eh m=some e→e.dO=true→E2 m=some e:=fun m e he hfx=>by
    rcases hsince.df m e he with h | ⟨e',h,hle⟩
    ·exact absurd h (in2 m (EhIn m e he))
    ·rw[hle.eq hfx] at h;exact h
   have hEl2:E2 1999999=some (.op l):=same2 _ _ hEl rfl;have hob:=hheld.bx 1999999;rw[mD,if_pos rfl] at hob;obtain ⟨b,j1,_,j3,_,_⟩:=hob;rw[hEl2] at j1;cases j1;have hsz:vs2.toArray.size=cps.size:=by have:=pj hrvs;rw[hlen] at this;simpa using this
   have hyr:=run_yield (P:=c.P) (args:=vs2.toArray) j3 (by rw[hrec];exact hsz);rw[hrec] at hyr;refine ⟨l,hyv,fn,_,cx,cy,hyr,roundIn_of_wpIn trivial ?_⟩;clear hyr
   -- the round's own frame
   obtain ⟨cr,hcr⟩:∃ cr:ct,cr=⟨c.P,w2,D2,c.n,bU E2,E2,e8,some l,none⟩:=⟨_,rfl⟩
   have hFr:cr.bj=Fence.wide.inRound l:=by rw[hcr];rfl
   have hlat:da W1 Dh Eh w2 D2 E2:=by
    refine ⟨hsince.cE,hsince.fm.cell,fun m b aL he=>same2 m _ he rfl,fun m aH l he =>?_,fun m b he=>same2 m _ he rfl,fun m b he=>same2 m _ he rfl,hsince.fm.iu⟩;rcases hsince.df m _ he with h | ⟨e',h,hle⟩
    ·exact absurd h (in2 m (EhIn m _ he))
    ·rcases hle with rfl | ⟨_,_,blk',l',e,rfl,k1,k2⟩
     ·exact ⟨aH,l,h,zz8 _,fun _=>rfl⟩
     ·cases e;exact ⟨blk',l',h,k1,k2⟩
   have hslots:jt ρ (aw os1) ts tsR:=by
    have:∀ tsR:List (Nat×I),jt ρ (aw osb0) ts tsR→jt ρ (aw os1) ts tsR:=by
     intro tsR
     induction tsR with
     |nil=>exact fun h=>h
     |cons q r ih =>
      intro h;obtain ⟨h1,h2,h3⟩:=h;exact ⟨h1,jn (fun n hn=>by rw[hos1,iq,hn];simp) _ h2,ih h3⟩
    exact this tsR hts
   have hsr:aM cr (al tsR (bE (.loop (rec .ready none)) osb)) { tmps:=a.tmps,defers:=[] } w2 D2 E2:=by
    rw[hcr];refine ⟨hs.sz,⟨[],rfl,.nil,fun _ h=>by simp at h⟩,fun t =>?_,eb.refl _ _,fun _ _ h _=>h,hlive,fun m=>(hheld.bx m).jk fun e b he hb=>.inr ⟨m,e,he,hb⟩,hheld.cG,fun _ e h=>.inr ⟨e,h,.refl e⟩,fun m hm =>?_,fun _ _ h=>h,⟨hsince.oR,fun _ _ _ _ h=>h.elim⟩,.refl _ _⟩
    ·rcases xn hslots t with h | ⟨h1,h2⟩
     ·simp only[al];rw[h];simp[aQ]
     ·have h3:=hsh.dn t;rw[ha1] at h3;simp only[al] at h3 ⊢;rw[h1] at h3;have h4:=(aQ.aR (w:=W1) (D:=Dh) (p:=aw os1) (ρ:=bo ρ) (E:=Eh) (E':=E1) (fun n hn=>by rw[hEh];simp only[az,hn,if_true]) h2).1 h3;exact aQ.later hlat h4
    ·have hmi:aw os1 m=true:=by
      rw[←gk.same m];have:=hheld.bx m;cases hx:aG (bE (.loop (rec .ready none)) osb) m with
      |none=>rw[hx] at this;exact absurd this hm
      |some x=>simp[aw,hx]
     have:=gk.j5 m hmi;exact ⟨Nat.le_trans hn6 this,this⟩
   have hsp:=aM.wO cps.toList vs2 (item k) tsR _ hsr (fun p hp=>by rw[hcr];have:=zx3.1 hpn p hp;simpa using this) hrvs (by have:=hsz;simpa using this.symm);have htm:(cps.zip vs2.toArray).foldl (fun t (q:Tmp×Value)=>t.setIfInBounds q.1 q.2) a.tmps=(cps.toList.zip vs2).foldl (fun t q=>t.setIfInBounds q.1 q.2) a.tmps:=by
    rw[←Array.foldl_toList];simp
   have hx:=hround k osb hkN hIk w2 D2 E2 l (.loop (rec .ready none)) (.loop { rec .ready none with state:=.busy });rw[←hcr] at hx;have hx1:=hx cx (by rw[hcr];exact hcx) _ w2 ⟨D2,E2,hsp⟩;rw[hFr] at hx1;simp only[←htm] at hx1;rw[hcr] at hx1;refine wpIn_mono hx1 ?_;rintro e ax wx ⟨B,hq,hsx⟩;rw[←hcr] at hq hsx;cases e <;>simp only[cg] at hq <;>try exact hq.elim
   simp only[Exit.then];obtain ⟨hB1,hB2⟩:=hq;obtain ⟨Dx,Ex,hsx⟩:=hsx;have hElx:Ex 1999999=some (.op l):=by
    have ho:=hsx.bx 1999999;rw[hB1] at ho;rcases hsx.qf (n:=1999999) (by rw[hcr];exact hEl2) rfl with h | h
    ·exact absurd h (mI ho)
    ·exact h
   have hLx:wx.heap[l]?=some (.loop (rec .ready none)):=by
    have ho:=hsx.bx 1999999;rw[hB1] at ho;obtain ⟨b,k1,_,k3,_⟩:=ho;rw[hElx] at k1;cases k1;exact k3
   refine ⟨_,run_beginRound hLx (by rw[hrec]),?_⟩;have hsb:=hsx.pt (o':=.loop { rec .ready none with state:=.busy }) hB1 hElx rfl;have hy1:=hB2 cy (by rw[hcr];exact hcy) _ _ ⟨Dx,Ex,hsb⟩;rw[hFr] at hy1;rw[hcr] at hy1;refine wpIn_mono hy1 ?_;rintro e a3 w3 ⟨A3,hq3,D3,E3,hs3⟩;rw[←hcr] at hs3
   -- the end of the round
   have bf:∀ (os:List (Nat×ai)) (jump:Option Code),oa (.loop { rec .ready none with state:=.busy }) A3 os→(post' (.bool jump.isNone) (bE (.loop (rec (if jump.isNone then .ready else .done) jump)) os)) →
     ∃ v w',(Instr.endRound l jump).run c.P w3=.ok v w'∧(fun e w'=>∃ v D' E' r os',e=Ending.returned v∧post' r os'∧aQ w' D' E' r v∧iX (fun b=>w2.heap.size≤b∨bU E2 b) w' D' E' (aG os') ∧
      eb (fun b=>w2.heap.size≤b∨bU E2 b) w2 w'∧(∀ b o,D2 b o→D' b o)∧(∀ b o,D' b o→b<w'.heap.size)∧(∀ b o,D' b o→b<w2.heap.size→¬ bU E2 b→D2 b o) ∧
      (∀ n e,E2 n=some e→aw os' n=true→∃ e',E' n=some e'∧e.fA e')∧fS w2 D2 w') (.returned v) w':=fun os jump hbk hp=>by
    have hA3:A3.o 1999999=some (.cz (.loop { rec .ready none with state:=.busy })):=(hbk 1999999 _ (by rw[mD,if_pos rfl])).1;have hEl3:E3 1999999=some (.op l):=by
     have ho:=hs3.bx 1999999;rw[hA3] at ho;rcases hs3.qf (n:=1999999) (by rw[hcr];exact hEl2) rfl with h | h
     ·exact absurd h (mI ho)
     ·exact h
    have hL3:w3.heap[l]?=some (.loop { rec .ready none with state:=.busy }):=by
     have ho:=hs3.bx 1999999;rw[hA3] at ho;obtain ⟨b,k1,_,k3,_⟩:=ho;rw[hEl3] at k1;cases k1;exact k3
    have hend:=run_endRound (P:=c.P) jump hL3;have erec:({ rec .ready none with state:=if jump.isNone then LoopState.ready else .done,pending:=jump } : Loop)=rec (if jump.isNone then .ready else .done) jump:=by rw[hrec]
    have hend':(Instr.endRound l jump).run c.P w3=.ok (.bool jump.isNone) (w3.putObj l (.loop (rec (if jump.isNone then .ready else .done) jump))):=by
     rw[hend];rw[hrec]
    have hs4:=hs3.pt (o':=.loop (rec (if jump.isNone then .ready else .done) jump)) hA3 hEl3 rfl;rw[hcr] at hs4;obtain ⟨D',E',_,_,_,q1,q2,q3,q4,q5,q6⟩:=hs4.sS (BZ hbk _);exact ⟨_,_,hend',_,D',E',.bool jump.isNone,_,rfl,hp,⟨[.bool jump.isNone],by simp[bd,I.isAgg],by simp[ae]⟩,q1,q2,q3,q4,q5,q6⟩
   cases e with
   |normal =>
    obtain ⟨os,hbk,hin⟩:=hq3;exact bf os none hbk (hpost _ _ (.inl ⟨rfl,by rw[hJ'];exact ⟨os,rfl,hin⟩⟩))
   |ret =>
    obtain ⟨os,hbk,hin⟩:=hq3;exact bf os (some .ret) hbk (hpost _ _ (.inr ⟨rfl,by rw[hIx'];exact ⟨none,os,rfl,hin⟩⟩))
   |exit id =>
    obtain ⟨os,hbk,hin⟩:=hq3;exact bf os (some (.exit id)) hbk (hpost _ _ (.inr ⟨rfl,by rw[hIx'];exact ⟨some id,os,rfl,hin⟩⟩))
   |goto t=>exact hq3.elim
   |panic ch=>exact hq3.elim
   |outgrown=>exact hq3.elim
  -- the call
  have hargs:dX (aQ W1 D E1) (.raw yv::caps0) (yv::vs):=by
   exact .cons ⟨[yv],by simp[bd,I.isAgg],by rw[hyv];exact ⟨rfl,rfl⟩⟩ (nO (hup caps0 vs hvs))
  have hus:=hand.use (ρ:=ρ) hs1 false (fun h=>h.mono) ⟨(fun h=>by cases h),fun _=>by rw[←hDh,←hEh];exact hyok⟩ hgv1 (HL hc0 fun x hx=>⟨jn (fun n hn=>by rw[hos1,iq,hn];simp) _ (hcp x hx).1,(hcp x hx).2⟩)
   (fun r os' hp=>by
    have gg:dM os1 os':=by
     rcases hp.2 with h | h
     ·exact gS _ _ h
     ·exact goodx _ h
    refine ⟨fun m x hx=>⟨(gg.ok m x hx).1,(gg.ok m x hx).2,fun h=>by cases h⟩,fun m m' h1 h2=>hgv1.inj m m' (by rw[←gg.same];exact h1) (by rw[←gg.same];exact h2),fun m hm=>by rw[gg.same];exact hm,fun m h1 h2=>(by rw[gg.same,h2] at h1;cases h1),(by rw[hp.1];simp[I.only,I.cB]),fun h=>by cases h⟩) hargs
  have ecl : #[yv]++vs.toArray=(yv::vs).toArray:=by simp
  rw[ecl];refine CallsIn.mono (callsIn_wide.2 hus) ?_;rintro e w3 ⟨v,r,os',D2,E2,rfl,hp,hs2,_,hE2⟩;have key:∀ (o3:Obj) (osb:List (Nat×ai)),os'=bE o3 osb→mB o3=true→E2 999999=some (.op l)∧w3.heap[l]?=some o3∧∀ o4,mB o4=true→bG c (al ts (cD ρ osb++os0)) a1 (w3.putObj l o4):=fun o3 osb he h3=>by
   subst he;have hn2:E2 999999=some (.op l):=by
    obtain ⟨e',h1,h2⟩:=hE2 1999999 (.op l) (by rw[←hEh];exact hEl) (by rw[iq];simp);rw[hρ] at h1;rw[h1,h2.eq rfl]
   have eos:cD ρ (bE o3 osb)=(999999,.cz o3)::cD ρ osb:=by simp only[bE,cD,zz7,hρ,ai.aR]
   rw[eos] at hs2;have ha:(al ts ((999999,ai.cz o3)::cD ρ osb++(999999,.cz (.loop (rec .ready none)))::os0)).o 999999=some (.cz o3):=by simp[al,aG]
   have hgb:∀ m,aw osb m=true→bo ρ m≠999999:=fun m hm e=>by
    have h5:aw (bE o3 osb) m=true:=by rw[iq,hm];simp
    have g5:dM os1 (bE o3 osb):=by
     rcases hp.2 with h | h
     ·exact gS _ _ h
     ·exact goodx _ h
    have h6:=hgv1.inj m 1999999 (by rw[←g5.same];exact h5) isrec (by rw[hρ];exact e);subst h6;have h7:dM osb0 osb:=by
     rcases hp.2 with h | h
     ·rw[hI'] at h;obtain ⟨osb',h8,h9⟩:=h;simp only[bE,zy6] at h8;rw[h8.2];exact hI _ _ h9
     ·rw[hIx'] at h;obtain ⟨e,osb',h8,h9⟩:=h;simp only[bE,zy6] at h8;rw[h8.2];exact hIx _ _ h9
    rw[h7.same,h19] at hm;cases hm
   refine ⟨hn2,?_,fun o4 h4 =>?_⟩
   ·have ho:=hs2.bx 999999;rw[ha] at ho;obtain ⟨b,k1,_,k3,_⟩:=ho;rw[hn2] at k1;cases k1;exact k3
   ·have h5:=(hs2.pt (o':=o4) ha hn2 h4).AJ hn2;have hst:(⟨((al ts ((999999,ai.cz o3)::cD ρ osb++(999999,.cz (.loop (rec .ready none)))::os0)).aN 999999 (.cz o4)).t,fun m=>if m=999999 then none else
      ((al ts ((999999,ai.cz o3)::cD ρ osb++(999999,.cz (.loop (rec .ready none)))::os0)).aN 999999 (.cz o4)).o m⟩:ab)=al ts (cD ρ osb++os0):=by
     simp only[al,ab.aN]
     congr 1
     funext m
     by_cases hm:m=999999
     ·subst hm;simp only[if_true,oU];cases hq:pre ρ osb 999999 with
      |none=>exact hfree.symm
      |some k=>exact absurd (kd hq).2 (hgb k (kd hq).1)
     ·simp only[if_neg hm,zy2,aG,oU]
    rw[hst] at h5;exact ⟨D2,_,h5⟩
  rcases hp.2 with h | h
  ·rw[hI'] at h;obtain ⟨osb,he,hin⟩:=h;obtain ⟨k1,k2,k3⟩:=key _ osb he rfl;refine ⟨none,_,(by have:=run_endLoop (P:=c.P) k2 (by rw[hrec];simp);rw[hrec] at this;exact this),_,hdone osb hin,?_⟩;have:=k3 (.loop { rec .ready none with state:=.exhausted }) rfl;rw[ha1] at this;rw[hrec] at this;exact this
  ·rw[hIx'] at h;obtain ⟨e,osb,he,hin⟩:=h;obtain ⟨k1,k2,k3⟩:=key _ osb he rfl;refine ⟨some (nq e),_,(by have:=run_endLoop (P:=c.P) k2 (by rw[hrec];simp);rw[hrec] at this;exact this),?_⟩;have:=k3 (.loop { rec .done (some (nq e)) with state:=.exhausted }) rfl;rw[ha1] at this;rw[hrec] at this;have hq:qz c Q (p6 e) { a with defers := { target:=.collected w.heap.size,args := #[] } :: a.defers } _:=⟨_,hexit e osb hin,this⟩
   cases e with
   |none=>exact wpIn_ret hq
   |some id=>exact wpIn_exit hq
end
end Go.Abs
namespace Go.Proofs.YtoffnnjbplgnaaaGreatDoor
open Go Go.Abs
open Go.Abs.Enc (enc)
theorem abN{out:List ah}{s:Int}{z:Nat}{x:List UInt8}{ao:List (List UInt8)}(h:ep bm s x=none):js (ep bm) en out s z (x::ao)=(out,z):=by rw[js,h]
theorem abO{out:List ah}{s:Int}{z:Nat}{x:List UInt8}{ao:List (List UInt8)}{q:ah×Int}(h:ep bm s x=some q):js (ep bm) en out s z (x::ao)=if en out q.1=true then js (ep bm) en (out++[q.1]) q.2 (z+x.length) ao else (out,z):=by rw[js,h]
structure pJ (t:List UInt8) (k:Nat) (out:List ah) (s:Int) (z:Nat):Prop where
 eq:js (ep bm) en [] 1 0 (dI t)=js (ep bm) en out s z ((dI t).drop k)
 sum:0≤s∧s<1000003
 ok:∀ r∈out,bm r=true
 len:out.length≤60
 size:z+(fF k t).length=t.length
structure rG (t:List UInt8) (out:List ah) (z:Nat):Prop where
 eq:js (ep bm) en [] 1 0 (dI t)=(out,z)
 len:out.length≤60
 size:z≤t.length
theorem abl{t:List UInt8}{k:Nat}(hk:k<(dI t).length):∃ w v,dz 10 (fF k t)=some (w,v)∧(dI t)[k]=w++[10]∧fF (k+1) t=v∧fF k t=w++10::v:=by
 have hrd:=wW (Nat.le_of_lt hk);cases h:dz 10 (fF k t) with
 |none=>rw[vY h] at hrd;have:=congrArg List.length hrd;simp at this;omega
 |some p =>
  obtain ⟨w,v⟩:=p;refine ⟨w,v,rfl,?_,wX h,(r7 h).1⟩;rw[sU h,List.drop_eq_getElem_cons hk] at hrd;exact (List.cons.inj hrd).1.symm
theorem Dl(t:List UInt8):pJ t 0 [] 1 0:=⟨rfl,by omega,by simp,by simp,by simp[fF]⟩
theorem aaO{t:List UInt8}{out:List ah}{s:Int}{z:Nat}(h:pJ t (dI t).length out s z):rG t out z :=
 ⟨by rw[h.eq,List.drop_length,js],h.len,by have:=h.size;omega⟩
theorem Bk{t:List UInt8}{out:List ah}{z:Nat}(h:rG t out z):jQ bm en t=(out,t.take z):=by rw[jQ,h.eq]
theorem ZC{out:List ah}{r:ah}(h:en out r=true):out.length<60:=by
 simp only[en,zz0,decide_eq_true_eq] at h;exact h.1
theorem xU(t:List UInt8)(ht:t.length≤281474976710656):aK Tryz.prog 15 [enc (aD.of t)] (.tuple [enc (jQ bm en t).1,enc (aD.of (jQ bm en t).2)]):=by
 refine aK.bJ Tryz.func15 IY Kk LO (t7 rfl) (fun hwf W0 bC E1 =>?_);simp only[zh,DS,bA];clear hwf;have h69:=GX t;have R:=y6 @rn (y6 @bu ak)
 repeat' ((first |(with_reducible refine .guard (fun hb =>?_) (fun hb =>?_) <;>try simp only[hb])|refine U.au (by decide +kernel) rfl fun K hK =>?_|(refine .aq [0,2,3,4,5,6,7,8,9,10,12,13,28] hK ?_;clear hK K)|(with_reducible refine .done (hK _ ?_);clear hK K)|refine U.of rfl ?_|(with_reducible refine aj.ar (fun h =>?_) (fun h =>?_) <;>try simp only[h])) <;>try simp only[av,R,simprocAttr])
 all_goals clear R
 refine .bx false [] [] [enc (aD.of t)] _ rfl h69 ⟨fun m y hy=>by simp[aG] at hy,fun m m' h=>by simp[aw,aG] at h⟩ ⟨.inl ⟨(gP _ _).symm,bt _ _,eW _⟩,trivial⟩ ?_ ?_
 ·rintro r os' ⟨rfl,rfl⟩;refine ⟨fun m y hy =>?_,fun m m' _ _ h=>h,fun m hm=>by simp[aw,aG] at hm,fun m hm _ =>?_,⟨rfl,fun h=>by cases h⟩⟩
  ·simp only[aG] at hy;split at hy
   ·cases hy;exact ⟨bt _ _,rfl,fun h=>by cases h⟩
   ·cases hy
  ·simp only[aw,aG] at hm;split at hm
   ·rename_i e;subst e;exact ⟨rfl,by decide⟩
   ·simp at hm
 rintro r os' ⟨rfl,rfl⟩
 try simp only[cD,zz7,zy9,ai.aR,gP,bo,I.aR,I.cP,zy2,zy4,aU,simprocAttr]
 refine .done (hK _ ?_);clear hK K;refine U.sub (bn.Hp 4 80 50 8 8 [] _ rfl rfl rfl (B:=al [(0,enc (aD.of t)),(4,.ptr 4 []),(5,.ptr 5 []),(6,.ptr 6 []),(12,.func 122 [.ptr 1 []])] [(4,.box (.own 80 0)),(80,.bM 50 8 []),(1,.box (enc (aD.of t))),(5,.box (.int .i64 1)),(6,.box (.int .i64 0))]) ?_) ?_
 ·simp only[ff];refine bn.bZ ?_ ?_ ?_ ?_ <;>simp[bK,bP,bO,bF,aw,bI,cL,I.only,I.cB,ai.only,bt]
 refine U.block (U.abu (osb0:=dx t [] 1 0) (tsR:=[(4,.ptr 1000004 []),(5,.ptr 1000005 []),(6,.ptr 1000006 [])]) (ρ:=[(1999999,999999),(1000001,1),(1000004,4),(1000080,80),(1000005,5),(1000006,6)]) (g:=122) (caps0:=[.ptr 1 []]) (caps:=[.ptr 1000001 []]) (N:=(dI t).length) (item:=oP t)
  (sH t (pJ t)) (sI t (pJ t)) (qp (rG t)) ⟨rfl,rfl⟩ (t7 rfl) (by simp only[aU,simprocAttr]) (by simp[I.aR,bo]) ?_ Ac (Za ht (Dl t)) (fun _=>rfl) rfl rfl rfl (fun o=>⟨?_,?_⟩) ?_ ?_ ?_ ?_ ?_ ?_ ?_)
 ·intro x hx;simp only[List.mem_singleton] at hx;subst hx;exact ⟨rfl,rfl⟩
 ·intro n x hx;simp only[bE,dx,aG] at hx
  repeat' split at hx
  all_goals first | (cases hx;done) | (subst_vars;simp only[v6] at hx;subst hx;simp[bE,dx,aw,bo,aG,ai.aR,I.aR,I.cP,gP,ai.only,I.only,I.cB,bt,ai.dO])
 ·intro a b ha hb;simp only[bE,dx,aw,aG] at ha hb
  repeat' split at ha
  all_goals first | (simp at ha;done) | skip
  all_goals (repeat' split at hb)
  all_goals first | (simp at hb;done) | (subst_vars;simp[bo])
 ·simp[jt,bI,I.aR,bo,I.only,dx,aw,aG]
 ·rintro k os ⟨out,s,z,rfl,_⟩;exact nS ..
 ·rintro e os ⟨_,u,out,s,z,rfl,_⟩;exact nS ..
 ·exact ⟨[],1,0,rfl,Dl t⟩
 ·rintro k osb hk ⟨out,s,z,rfl,hP⟩ W1 D1 E1 YQ o1 o2;obtain ⟨w,v,hcut,hL,hnext,hrest⟩:=abl hk;have jg:oP t k=[enc (aD.of (w++[10]))]:=by
   rw[oP,zz6,zz5 hk,Option.getD_some,hL]
  have hdrop:(dI t).drop k=(w++[10])::(dI t).drop (k+1):=by rw[List.drop_eq_getElem_cons hk,hL]
  have hsz:=hP.size;rw[hrest] at hsz;have hll:(w++[10]).length+v.length=(w++10::v).length:=by simp;omega
  generalize hx:w++[10]=line at jg hdrop hll;have hlen:z+line.length+v.length=t.length:=by omega
  have h70:=ya hP.sum (t:=line) (by omega);have hlt:=pn line;have hwz:IntKind.i64.wrap ((z:Int)+(line.length:Int))=((z+line.length:Nat):Int):=by rw[dE _ (by omega) (by omega)];rfl
  have hfo:kF out.length (some (.bM 50 8 (out.map enc)))=some (enc out):=p9 8 rfl rfl;have hpe:=hP.eq;rw[hdrop] at hpe;generalize hu:fF k t=u at *;rw[jg];simp only[pd,bE,dx];have R:=y6 @bu ak
  repeat' ((first |(with_reducible refine .guard (fun hb =>?_) (fun hb =>?_) <;>try simp only[hb])|refine U.au (by decide +kernel) rfl fun K hK =>?_|(refine .aq [0,2,3,4,5,6,7,8,9,10,12,13,28] hK ?_;clear hK K)|(with_reducible refine .done (hK _ ?_);clear hK K)|refine U.of rfl ?_|(with_reducible refine aj.ar (fun h =>?_) (fun h =>?_) <;>try simp only[h])) <;>try simp only[av,R,simprocAttr])
  all_goals clear R
  refine ⟨by simp[],?_⟩;have stop:js (ep bm) en [] 1 0 (dI t)=(out,z)→∀ ts z1 z2 z3,wZ o2 (sI t (pJ t) k) (qp (rG t)) (.exit 0)
    (al ts ([(8,z1),(8,z2),(1999999,.cz o2),(1999999,z3)]++dx u out s z)):=fun h ts z1 z2 z3=>by
   refine ⟨dx u out s z,?_,rfl,u,out,s,z,rfl,h,hP.len,by omega⟩;intro n x hx;simp only[bE,dx,aG] at hx
   (repeat' split at hx) <;>first
    |(cases hx;done)
    |(subst_vars;simp only[v6] at hx;subst hx;simp[bE,dx,aw,al,aG,ai.only,I.only,bt,ai.dO,eR])
  cases hq:ep bm s line with
  |none =>
   rw[gY,hq,kZ] at h70;rw[abN hq] at hpe;have R:=y6 @dY (y6 @ev (y6 @bu ak))
   repeat' ((first |(with_reducible refine .guard (fun hb =>?_) (fun hb =>?_) <;>try simp only[hb])|refine U.au (by decide +kernel) rfl fun K hK =>?_|refine .lead _ (h70) ?_|(refine .aq [0,2,3,4,5,6,7,8,9,10,12,13,28] hK ?_;clear hK K)|(with_reducible refine .done (hK _ ?_);clear hK K)|refine U.of rfl ?_|(with_reducible refine aj.ar (fun h =>?_) (fun h =>?_) <;>try simp only[h])) <;>try simp only[av,R,simprocAttr])
   all_goals clear R
   exact stop hpe _ _ _ _
  |some q =>
   obtain ⟨r,n⟩:=q;obtain ⟨hok,_,hns⟩:=aa8 bm hq;simp only at hok hns;rw[gY,hq,kZ] at h70;rw[abO hq] at hpe;simp only at hpe;have h71:=yb out r (by have:=hP.len;omega) (fun q hq=>jL (hP.ok q hq)) (jL hok);cases hn:en out r
   ·rw[hn] at h71 hpe;rw[if_neg (by decide)] at hpe;have R:=y6 @hfo (y6 @dY (y6 @ev (y6 @bu ak)))
    repeat' ((first |(with_reducible refine .guard (fun hb =>?_) (fun hb =>?_) <;>try simp only[hb])|refine U.au (by decide +kernel) rfl fun K hK =>?_|refine .lead _ (h70) ?_|refine .flat _ (h71) rfl ?_|(refine .aq [0,2,3,4,5,6,7,8,9,10,12,13,28] hK ?_;clear hK K)|(with_reducible refine .done (hK _ ?_);clear hK K)|refine U.of rfl ?_|(with_reducible refine aj.ar (fun h =>?_) (fun h =>?_) <;>try simp only[h])) <;>try simp only[av,R,simprocAttr])
    all_goals clear R
    exact stop hpe _ _ _ _
   ·have hol:=ZC hn;rw[hn] at h71 hpe;rw[if_pos rfl] at hpe;have stOwn:∀ (A:ab) n b m k m' k' rest,dT A none n [] b (.own m k) rest (some (.own m' k'))=aA rest (A.aN n (.box (.own m k))) :=
     fun _ _ _ m k m' k' _=>by rw[fg (s:=none) (v:=.own m k) (old:=.own m' k') rfl rfl rfl,ff]
    have hbs:gz 8 (some [enc r])=some (enc [r]):=ot 8 r rfl;have hap:=fun (A:ab) d rest=>yw (A:=A) (d:=d) 50 8 72 1000080 (l:=out.length) (es:=out) (ys:=[r]) (rest:=rest) rfl rfl (by simp) (by simp[maxLen];omega) (by simp;omega);have R:=y6 @hfo (y6 @hbs (y6 @hap (y6 @stOwn (y6 @hlt (y6 @hwz (y6 @dY (y6 @ev (y6 @rn (y6 @bu ak)))))))))
    repeat' ((first |(with_reducible refine .guard (fun hb =>?_) (fun hb =>?_) <;>try simp only[hb])|refine U.au (by decide +kernel) rfl fun K hK =>?_|refine .lead _ (h70) ?_|refine .flat _ (h71) rfl ?_|(refine .aq [0,2,3,4,5,6,7,8,9,10,12,13,28] hK ?_;clear hK K)|(with_reducible refine .done (hK _ ?_);clear hK K)|refine U.of rfl ?_|(with_reducible refine aj.ar (fun h =>?_) (fun h =>?_) <;>try simp only[h])) <;>try simp only[av,R,simprocAttr])
    all_goals clear R
    refine ⟨dx u (out++[r]) n (z+line.length),?_,out++[r],n,z+line.length,by rw[hu],⟨hpe,?_,?_,?_,?_⟩⟩
    ·intro n x hx;simp only[bE,dx,aG] at hx
     (repeat' split at hx) <;>first
      |(cases hx;done)
      |(subst_vars;simp only[v6] at hx;subst hx;simp[bE,dx,aw,al,aG,ai.only,I.only,bt,ai.dO,eR,-List.map_append])
    ·rw[hns];exact pw hP.sum _
    ·intro q hq;rcases zw1.1 hq with h1 | h1
     ·exact hP.ok q h1
     ·rw[List.mem_singleton.1 h1];exact hok
    ·simp;omega
    ·rw[hnext];exact hlen
 ·rintro os ⟨out,s,z,rfl,hP⟩;have hF:=aaO hP;have hfo:kF out.length (some (.bM 50 8 (out.map enc)))=some (enc out):=p9 8 rfl rfl;have hsh:=re (aD.of t) (j:=z) (by rw[aD.dC];exact hF.size);rw[aD.dC] at hsh;rw[Bk hF];simp only[dx,cD,zz7,zy9,bo,ai.aR,I.aR,gP,jM,cg,iJ,reduceIte,Nat.reduceEqDiff,zy2,zy4];have R:=y6 @hfo (y6 @hsh (y6 @bu ak))
  repeat' ((first |(with_reducible refine .guard (fun hb =>?_) (fun hb =>?_) <;>try simp only[hb])|refine U.au (by decide +kernel) rfl fun K hK =>?_|(refine .aq [0,2,3,4,5,6,7,8,9,10,12,13,28] hK ?_;clear hK K)|(with_reducible refine .done (hK _ ?_);clear hK K)|refine U.of rfl ?_|(with_reducible refine aj.ar (fun h =>?_) (fun h =>?_) <;>try simp only[h])) <;>try simp only[av,R,simprocAttr])
  all_goals clear R
  all_goals rfl
 ·rintro e os ⟨rfl,u,out,s,z,rfl,hF⟩;have hfo:kF out.length (some (.bM 50 8 (out.map enc)))=some (enc out):=p9 8 rfl rfl;have hsh:=re (aD.of t) (j:=z) (by rw[aD.dC];exact hF.size);rw[aD.dC] at hsh;rw[Bk hF];simp only[dx,cD,zz7,zy9,bo,ai.aR,I.aR,gP,jM,p6,cg,iJ,reduceIte,Nat.reduceEqDiff,zy2,zy4];have R:=y6 @hfo (y6 @hsh (y6 @bu ak))
  repeat' ((first |(with_reducible refine .guard (fun hb =>?_) (fun hb =>?_) <;>try simp only[hb])|refine U.au (by decide +kernel) rfl fun K hK =>?_|(refine .aq [0,2,3,4,5,6,7,8,9,10,12,13,28] hK ?_;clear hK K)|(with_reducible refine .done (hK _ ?_);clear hK K)|refine U.of rfl ?_|(with_reducible refine aj.ar (fun h =>?_) (fun h =>?_) <;>try simp only[h])) <;>try simp only[av,R,simprocAttr])
  all_goals clear R
  all_goals rfl
def tg(a n:Int):Int:=(IntKind.i64.wrap (a.tmod n+n)).tmod n
theorem acF(a n:Int)(hn:n≠0):aK Tryz.prog 28 [enc a,enc n] (enc (tg a n)):=by
 refine aK.bJ Tryz.func28 Jd KA L4 (t7 rfl) (fun hwf W0 bC E1 =>?_);simp only[zw,Eb,bA,zz3];clear hwf;have R:=y6 @hn ak
 repeat' ((first |refine U.au (by decide +kernel) rfl fun K hK =>?_|(refine .aq [0,1,4] hK ?_;clear hK K)|(with_reducible refine .done (hK _ ?_);clear hK K)|refine U.of rfl ?_|(with_reducible refine aj.ar (fun h =>?_) (fun h =>?_) <;>try simp only[h])) <;>try simp only[av,R,simprocAttr])
 all_goals clear R
 all_goals rfl
theorem Zt{a n:Int}(ha:-9223372036854775808≤a∧a≤9223372036854775807)(hn:0<n∧n≤4611686018427387904):tg a n=a%n:=by
 have h1:-n<a.tmod n∧a.tmod n<n:=⟨Int.lt_tmod_of_pos a hn.1,Int.tmod_lt_of_pos a hn.1⟩
 have h2:(a.tmod n+n).tmod n=a%n:=by
  rw[Int.tmod_eq_emod_of_nonneg (by omega),Int.add_emod_right];have:=Int.tmod_add_mul_tdiv a n
  conv=>rhs;rw[←this]
  rw[Int.add_mul_emod_self_left]
 have h3:=Int.emod_nonneg a (show n≠0 by omega);have h4:=Int.emod_lt_of_pos a hn.1;rw[tg,dE _ (by omega) (by omega),h2]
theorem xX(a b:List ah)(hl:a.length≤4000000000000):aK Tryz.prog 17 [enc a,enc b] (enc (decide (a=b))):=by
 refine aK.bJ Tryz.func17 I5 Kq LV (t7 rfl) (fun hwf W0 bC E1 =>?_);simp only[zn,DY,bA,zz3];clear hwf;cases q:((a.length:Int)==(b.length:Int))
 ·have hne:decide (a=b)=false:=decide_eq_false fun e=>by rw[e] at q;simp at q
  rw[hne];by_cases h0:0<a.length
  ·have hlc:decide ((0:Int)<(a.length:Int))=true:=decide_eq_true (by omega);have R:=y6 @q ak
   repeat' ((first |(with_reducible refine .guard (fun hb =>?_) (fun hb =>?_) <;>try simp only[hb])|refine U.au (by decide +kernel) rfl fun K hK =>?_|(refine .aq [0,1,4,5,6,18] hK ?_;clear hK K)|(with_reducible refine .done (hK _ ?_);clear hK K)|refine U.of rfl ?_|(with_reducible refine aj.ar (fun h =>?_) (fun h =>?_) <;>try simp only[h])) <;>try simp only[av,R,simprocAttr])
   all_goals clear R
   refine U.loop (fun _:Unit=>al [(0,enc a),(1,enc b),(5,.bool false),(6,.int .i64 0)] []) (fun _=>True) (fun _=>0) () trivial ?_ ?_
   ·refine bn.bZ ?_ ?_ ?_ ?_ <;>simp[bK,bP,bO,bF,bI,I.only,bt]
   intro _ _;have R:=y6 @q (y6 @hlc ak)
   repeat' ((first |(with_reducible refine .guard (fun hb =>?_) (fun hb =>?_) <;>try simp only[hb])|refine U.au (by decide +kernel) rfl fun K hK =>?_|(refine .aq [0,1,4,5,6,18] hK ?_;clear hK K)|(with_reducible refine .done (hK _ ?_);clear hK K)|refine U.of rfl ?_|(with_reducible refine aj.ar (fun h =>?_) (fun h =>?_) <;>try simp only[h])) <;>try simp only[av,R,simprocAttr])
   all_goals clear R
   all_goals rfl
  ·have hlc:decide ((0:Int)<(a.length:Int))=false:=decide_eq_false (by omega);have R:=y6 @q ak
   repeat' ((first |(with_reducible refine .guard (fun hb =>?_) (fun hb =>?_) <;>try simp only[hb])|refine U.au (by decide +kernel) rfl fun K hK =>?_|(refine .aq [0,1,4,5,6,18] hK ?_;clear hK K)|(with_reducible refine .done (hK _ ?_);clear hK K)|refine U.of rfl ?_|(with_reducible refine aj.ar (fun h =>?_) (fun h =>?_) <;>try simp only[h])) <;>try simp only[av,R,simprocAttr])
   all_goals clear R
   refine U.loop (fun _:Unit=>al [(0,enc a),(1,enc b),(5,.bool false),(6,.int .i64 0)] []) (fun _=>True) (fun _=>0) () trivial ?_ ?_
   ·refine bn.bZ ?_ ?_ ?_ ?_ <;>simp[bK,bP,bO,bF,bI,I.only,bt]
   intro _ _;have R:=y6 @q (y6 @hlc ak)
   repeat' ((first |(with_reducible refine .guard (fun hb =>?_) (fun hb =>?_) <;>try simp only[hb])|refine U.au (by decide +kernel) rfl fun K hK =>?_|(refine .aq [0,1,4,5,6,18] hK ?_;clear hK K)|(with_reducible refine .done (hK _ ?_);clear hK K)|refine U.of rfl ?_|(with_reducible refine aj.ar (fun h =>?_) (fun h =>?_) <;>try simp only[h])) <;>try simp only[av,R,simprocAttr])
   all_goals clear R
   all_goals rfl
 have hlen:a.length=b.length:=by have:=eq_of_beq q;omega
 have R:=y6 @q ak
 repeat' ((first |(with_reducible refine .guard (fun hb =>?_) (fun hb =>?_) <;>try simp only[hb])|refine U.au (by decide +kernel) rfl fun K hK =>?_|(refine .aq [0,1,4,5,6,18] hK ?_;clear hK K)|(with_reducible refine .done (hK _ ?_);clear hK K)|refine U.of rfl ?_|(with_reducible refine aj.ar (fun h =>?_) (fun h =>?_) <;>try simp only[h])) <;>try simp only[av,R,simprocAttr])
 all_goals clear R
 refine U.loop (fun x:Nat×Bool=>al [(0,enc a),(1,enc b),(5,.bool x.2),(6,.int .i64 x.1)] []) (fun x=>x.1≤a.length∧(x.2=true→a.take x.1=b.take x.1)∧(x.2=false→a≠b)) (fun x=>a.length-x.1) (0,true) ⟨zw7 _,by simp,by simp⟩ ?_ ?_
 ·refine bn.bZ ?_ ?_ ?_ ?_ <;>simp[bK,bP,bO,bF,bI,I.only,bt]
 rintro ⟨i,t⟩ ⟨hi,h1,h2⟩;simp only at hi h1 h2 ⊢;cases t
 ·have hne:decide (a=b)=false:=decide_eq_false (h2 rfl);rw[hne];by_cases h0:i<a.length
  ·have hlc:=eB h0;have R:=y6 @hlc ak
   repeat' ((first |(with_reducible refine .guard (fun hb =>?_) (fun hb =>?_) <;>try simp only[hb])|refine U.au (by decide +kernel) rfl fun K hK =>?_|(refine .aq [0,1,4,5,6,18] hK ?_;clear hK K)|(with_reducible refine .done (hK _ ?_);clear hK K)|refine U.of rfl ?_|(with_reducible refine aj.ar (fun h =>?_) (fun h =>?_) <;>try simp only[h])) <;>try simp only[av,R,simprocAttr])
   all_goals clear R
   all_goals rfl
  ·have hlc:=eX h0;have R:=y6 @hlc ak
   repeat' ((first |(with_reducible refine .guard (fun hb =>?_) (fun hb =>?_) <;>try simp only[hb])|refine U.au (by decide +kernel) rfl fun K hK =>?_|(refine .aq [0,1,4,5,6,18] hK ?_;clear hK K)|(with_reducible refine .done (hK _ ?_);clear hK K)|refine U.of rfl ?_|(with_reducible refine aj.ar (fun h =>?_) (fun h =>?_) <;>try simp only[h])) <;>try simp only[av,R,simprocAttr])
   all_goals clear R
   all_goals rfl
 by_cases hlt:i<a.length
 ·have hlc:=eB hlt;have he:=fun A=>dQ (A:=A) 8 hlt rfl;have he2:=fun A=>dQ (A:=A) (l:=b) (k:=i) 8 (by omega) rfl;have hw:=dU (i:=i) (by omega);have e1:=iW hlt;have e2:=iW (l:=b) (i:=i) (by omega);have hg:a=b→a[i]=b[i]'(by omega):=fun e=>by subst e;rfl
  have h1':=h1 rfl;generalize a[i]=r at *;generalize (b[i]'(by omega))=r' at *;have R:=y6 @hlc (y6 @he (y6 @he2 (y6 @hw ak)))
  repeat' ((first |(with_reducible refine .guard (fun hb =>?_) (fun hb =>?_) <;>try simp only[hb])|refine U.au (by decide +kernel) rfl fun K hK =>?_|(refine .aq [0,1,4,5,6,18] hK ?_;clear hK K)|(with_reducible refine .done (hK _ ?_);clear hK K)|refine U.of rfl ?_|(with_reducible refine aj.ar (fun h =>?_) (fun h =>?_) <;>try simp only[h])) <;>try simp only[av,R,simprocAttr])
  all_goals clear R
  refine ⟨(i+1,decide (r=r')),⟨by simp only;omega,fun h =>?_,fun h =>?_⟩,by simp only;omega,?_⟩
  ·simp only at h ⊢;rw[e1,e2,h1',of_decide_eq_true h]
  ·simp only at h;exact fun e=>of_decide_eq_false h (hg e)
  ·clear hg h1 h2 h1';refine bn.bZ ?_ ?_ ?_ ?_ <;>simp[bK,bP,bO,bF,bI,I.only,bt]
   all_goals rfl
 ·have hlc:=eX hlt;have heq:a=b:=by
   have:=h1 rfl
   rwa [List.take_of_length_le (by omega),List.take_of_length_le (by omega)] at this
  rw[decide_eq_true heq];have R:=y6 @hlc ak
  repeat' ((first |(with_reducible refine .guard (fun hb =>?_) (fun hb =>?_) <;>try simp only[hb])|refine U.au (by decide +kernel) rfl fun K hK =>?_|(refine .aq [0,1,4,5,6,18] hK ?_;clear hK K)|(with_reducible refine .done (hK _ ?_);clear hK K)|refine U.of rfl ?_|(with_reducible refine aj.ar (fun h =>?_) (fun h =>?_) <;>try simp only[h])) <;>try simp only[av,R,simprocAttr])
  all_goals clear R
  all_goals rfl
def dc.small(r:dc):Prop:=r.bX.length≤140737488351232∧r.eE.length≤140737488351232
def db.small(r:db):Prop:=r.dk.small∧r.copy.small
def dc.all(r:dc):List UInt8:=r.bX++r.eE
theorem dc.rR{r:dc}(h:r.small):r.all.length≤281474976710656:=by
 have:=h.1;have:=h.2;rw[dc.all,zz1];omega
theorem j2:I.agg [.ay ⟨#[]⟩,.ay ⟨#[]⟩]=enc (⟨[],[]⟩:dc):=rfl
theorem AO:I.agg [.agg [.ay ⟨#[]⟩,.ay ⟨#[]⟩],.agg [.ay ⟨#[]⟩,.ay ⟨#[]⟩]]=enc (⟨⟨[],[]⟩,⟨[],[]⟩⟩:db):=rfl
theorem nd:I.agg [enc (⟨[],[]⟩:dc),enc (⟨[],[]⟩:dc)]=enc (⟨⟨[],[]⟩,⟨[],[]⟩⟩:db):=rfl
theorem gw:(∀ A n b rest (q r:dc),dT A (some 2) n [] b (enc q) rest (some (enc r))=aA rest (A.aN n (.box (enc q))))∧(∀ A n b rest (q r:db),dT A (some 4) n [] b (enc q) rest (some (enc r))=aA rest (A.aN n (.box (enc q)))) ∧
  (∀ A n rest (q r:dc) (s:db),dT A (some 2) n [0] (enc s) (enc q) rest (some (enc r))=aA rest (A.aN n (.box (enc (⟨q,s.copy⟩:db)))))∧(∀ A n rest (q r:dc) (s:db),dT A (some 2) n [1] (enc s) (enc q) rest (some (enc r))=aA rest (A.aN n (.box (enc (⟨s.dk,q⟩:db))))) :=
 ⟨fun A n b rest q r=>by rw[fg (eW _) (by rw[ik];rfl) ((eh _).trans (eh _).symm),ff],
  fun A n b rest q r=>by rw[fg (eW _) (by rw[ik];rfl) ((eh _).trans (eh _).symm),ff],
  fun A n rest q r s=>by rw[fg (eW _) (by rw[ik];rfl) ((eh _).trans (eh _).symm)];rfl,
  fun A n rest q r s=>by rw[fg (eW _) (by rw[ik];rfl) ((eh _).trans (eh _).symm)];rfl⟩
theorem lp:(∀ x:List UInt8,fG [.ay ⟨#[]⟩,.ay ⟨#[]⟩] [(0,enc (aD.of x))]=some [enc (aD.of x),enc (aD.of [])])∧(∀ x:List UInt8,I.agg [enc (aD.of x),enc (aD.of [])]=enc (⟨x,[]⟩:dc)) ∧
  (∀ p q:dc,fG [.agg [.ay ⟨#[]⟩,.ay ⟨#[]⟩],.agg [.ay ⟨#[]⟩,.ay ⟨#[]⟩]] [(0,enc p),(1,enc q)]=some [enc p,enc q])∧(∀ p q:dc,I.agg [enc p,enc q]=enc (⟨p,q⟩:db)) ∧
  (∀ p q:dc,fG [enc (⟨[],[]⟩:dc),enc (⟨[],[]⟩:dc)] [(0,enc p),(1,enc q)]=some [enc p,enc q]) :=
 ⟨fun _=>rfl,fun _=>rfl,fun _ _=>rfl,fun _ _=>rfl,fun _ _=>rfl⟩
theorem pF(r:dc)(h:r.small):aK Tryz.prog 73 [enc r] (enc (aD.of r.all)):=by
 refine aK.bJ Tryz.func73 Jv KR Mm (t7 rfl) (fun hwf W0 bC E1 =>?_);simp only[zL,Eu,bA];clear hwf;have ha:=fe r.bX r.eE (by have:=h.1;have:=h.2;omega);have R:=y6 @ha (y6 @bu ak)
 repeat' ((first |refine U.au (by decide +kernel) rfl fun K hK =>?_|(refine .aq [0,1,2] hK ?_;clear hK K)|(with_reducible refine .done (hK _ ?_);clear hK K)|refine U.of rfl ?_|(with_reducible refine aj.ar (fun h =>?_) (fun h =>?_) <;>try simp only[h])) <;>try simp only[av,R,simprocAttr])
 all_goals clear R
 all_goals rfl
def po(r:db):db:=⟨⟨r.dk.all,[]⟩,⟨r.dk.all,[]⟩⟩
theorem GK(r:db)(h:r.small):aK Tryz.prog 20 [enc r] (enc (po r)):=by
 refine aK.bJ Tryz.func20 I9 Kv L0 (t7 rfl) (fun hwf W0 bC E1 =>?_);simp only[c20,D7,bA];clear hwf;have f:=pF r.dk h.1;have R:=y6 @lp (y6 @j2 (y6 @nd (y6 @gw (y6 @bu ak))))
 repeat' ((first |refine U.au (by decide +kernel) rfl fun K hK =>?_|refine .flat _ (f) rfl ?_|(refine .aq [0,1,2,3] hK ?_;clear hK K)|(with_reducible refine .done (hK _ ?_);clear hK K)|refine U.of rfl ?_|(with_reducible refine aj.ar (fun h =>?_) (fun h =>?_) <;>try simp only[h])) <;>try simp only[av,R,simprocAttr])
 all_goals clear R
 all_goals rfl
def pT(r:db)(copy:Bool):db:=if copy then ⟨r.dk,⟨[],[]⟩⟩ else ⟨⟨[],[]⟩,r.copy⟩
theorem GL(r:db)(b:Bool):aK Tryz.prog 24 [enc r,enc b] (enc (pT r b)):=by
 refine aK.bJ Tryz.func24 Jb Ky L2 (t7 rfl) (fun hwf W0 bC E1 =>?_);simp only[zt,D9,bA,zz3];clear hwf;cases b
 ·have R:=y6 @j2 (y6 @nd (y6 @gw (y6 @bu ak)))
  repeat' ((first |refine U.au (by decide +kernel) rfl fun K hK =>?_|(refine .aq [0,1,2,4,5] hK ?_;clear hK K)|(with_reducible refine .done (hK _ ?_);clear hK K)|refine U.of rfl ?_|(with_reducible refine aj.ar (fun h =>?_) (fun h =>?_) <;>try simp only[h])) <;>try simp only[av,R,simprocAttr])
  all_goals clear R
  all_goals rfl
 ·have R:=y6 @j2 (y6 @nd (y6 @gw (y6 @bu ak)))
  repeat' ((first |refine U.au (by decide +kernel) rfl fun K hK =>?_|(refine .aq [0,1,2,4,5] hK ?_;clear hK K)|(with_reducible refine .done (hK _ ?_);clear hK K)|refine U.of rfl ?_|(with_reducible refine aj.ar (fun h =>?_) (fun h =>?_) <;>try simp only[h])) <;>try simp only[av,R,simprocAttr])
  all_goals clear R
  all_goals rfl
def kN(r:db):db×List ah:=(⟨⟨(tx bm en r.dk.all r.copy.all).2,[]⟩,⟨(tx bm en r.dk.all r.copy.all).2,[]⟩⟩,(tx bm en r.dk.all r.copy.all).1)
theorem Fy(t:List UInt8):(jQ bm en t).2.length≤t.length:=by rw[jQ];simp;omega
theorem rE(r:db)(h:r.small):aK Tryz.prog 18 [enc r] (.tuple [enc (kN r).1,enc (kN r).2]):=by
 refine aK.bJ Tryz.func18 I7 Kt LY (t7 rfl) (fun hwf W0 bC E1 =>?_);simp only[zp,D5,bA];clear hwf;have f1:=pF r.dk h.1;have f2:=pF r.copy h.2;have g1:=xU r.dk.all (dc.rR h.1);have g2:=xU r.copy.all (dc.rR h.2);have l1:=Fy r.dk.all;have l2:=Fy r.copy.all;have:=dc.rR h.1;have:=dc.rR h.2;have h74:=fun (x:List UInt8) (hx:x.length≤281474976710656)=>GY (aD.of x) (by rw[aD.dC];exact hx);simp only[kN,tx];generalize jQ bm en r.dk.all=p at *;generalize jQ bm en r.copy.all=q at *;by_cases hlt:p.1.length<q.1.length
 ·have hc:decide ((q.1.length:Int)>(p.1.length:Int))=true:=decide_eq_true (by omega);have h74':=h74 q.2 (by omega);simp only[if_pos hlt];have R:=y6 @hc (y6 @lp (y6 @j2 (y6 @nd (y6 @gw (y6 @bu ak)))))
  repeat' ((first |refine U.au (by decide +kernel) rfl fun K hK =>?_|refine .flat _ (f1) rfl ?_|refine .lead _ (g1) ?_|refine .flat _ (f2) rfl ?_|refine .lead _ (g2) ?_|refine .flat _ (h74') rfl ?_|(refine .aq [0,1,2,3,4,5,6,7,8,27] hK ?_;clear hK K)|(with_reducible refine .done (hK _ ?_);clear hK K)|refine U.of rfl ?_|(with_reducible refine aj.ar (fun h =>?_) (fun h =>?_) <;>try simp only[h])) <;>try simp only[av,R,simprocAttr])
  all_goals clear R
  all_goals rfl
 ·have hc:decide ((q.1.length:Int)>(p.1.length:Int))=false:=decide_eq_false (by omega);have h74':=h74 p.2 (by omega);simp only[if_neg hlt];have R:=y6 @hc (y6 @lp (y6 @j2 (y6 @nd (y6 @gw (y6 @bu ak)))))
  repeat' ((first |refine U.au (by decide +kernel) rfl fun K hK =>?_|refine .flat _ (f1) rfl ?_|refine .lead _ (g1) ?_|refine .flat _ (f2) rfl ?_|refine .lead _ (g2) ?_|refine .flat _ (h74') rfl ?_|(refine .aq [0,1,2,3,4,5,6,7,8,27] hK ?_;clear hK K)|(with_reducible refine .done (hK _ ?_);clear hK K)|refine U.of rfl ?_|(with_reducible refine aj.ar (fun h =>?_) (fun h =>?_) <;>try simp only[h])) <;>try simp only[av,R,simprocAttr])
  all_goals clear R
  all_goals rfl
end Go.Proofs.YtoffnnjbplgnaaaGreatDoor
namespace Go.Abs
open Go Go.RowKit Go.ChangeShapes
open Enc (enc)
def yi(P:Program)(u:TypeId)(n:Nat)(S:I→Prop):Prop:=P.cellsOf u=n ∧
 ∀ {H:Type} {enc0:TypeId×Value→H} {w:World} {fuel:Nat} {cs:List Value} {x:DataW H×List MemPlace},DataW.trod enc0 P w 0 (fun _=>true) true fuel u cs=some x→(∀ k∈x.1.weights P u,k≤reachBytes)→∃ v,S v∧ae w (kq w) cA v cs
theorem iI.bl{P:Program}{u:TypeId}{α:Type}[Enc α]{B:α→Prop}(h:iI P u α B):yi P u (Enc.sz α) fun v=>∃ a:α,B a∧v=enc a :=
 ⟨h.cells,fun hx hw=>by obtain ⟨a,hB,ha⟩:=h.o8 hx hw;exact ⟨enc a,⟨a,hB,rfl⟩,ha⟩⟩
def mJ(P:Program):Nat→List (TypeId×Nat)→List (Nat×(I→Prop))→Prop
 |_,[],[]=>True
 |o,(u,off)::l,(n,S)::Ss=>off=o∧yi P u n S∧mJ P (o+n) l Ss
 |_,_,_=>False
theorem A4{P:Program}{H:Type}{enc0:TypeId×Value→H}{w:World}{m:Nat}{cs:List Value} : ∀ (l:List (TypeId×Nat)) (Ss:List (Nat×(I→Prop))) (o:Nat),mJ P o l Ss→cs.length=o+rq Ss →
  (∀ (i:Nat) (u:TypeId) (off:Nat),l[i]?=some (u,off)→∃ y,DataW.trod enc0 P w 0 (fun _=>true) true m u ((cs.drop off).take (P.cellsOf u))=some y∧∀ k∈y.1.weights P u,k≤reachBytes)→∃ vs,oi Ss vs∧aI w (kq w) cA vs (cs.drop o)
 | [],[],o,_,hl,_=>⟨[],trivial,by simp only[aI];exact List.drop_eq_nil_of_le (by simp only[rq] at hl;omega)⟩
 |(u,off)::l,(n,S)::Ss,o,h,hl,hf=>by
  obtain ⟨rfl,h2,h3⟩:=h;obtain ⟨y,hy,hyw⟩:=hf 0 u off rfl;obtain ⟨v,hv1,hv2⟩:=h2.2 hy hyw;obtain ⟨vs,k1,k2⟩:=A4 l Ss (off+n) h3 (by simp only[rq] at hl;omega) fun i u' o' hi=>hf (i+1) u' o' hi;refine ⟨v::vs,⟨hv1,k1⟩,?_⟩;simp only[aI];rw[h2.1] at hv2;exact ⟨_,(cs.drop off).drop n,(List.take_append_drop n _).symm,hv2,by rw[List.drop_drop];exact k2⟩
 | [],_::_,_,h,_,_=>h.elim
 |_::_,[],_,h,_,_=>by simp[mJ] at h
theorem tz{P:Program}{t:TypeId}{H:Type}{enc0:TypeId×Value→H}{w:World}{fuel:Nat}{cs:List Value}{x:DataW H×List MemPlace}(l:List (TypeId×Nat))(Ss:List (Nat×(I→Prop)))(ht:sK P t l=true)(hok:mJ P 0 l Ss)(hc:P.cellsOf t=rq Ss)(h:DataW.trod enc0 P w 0 (fun _=>true) true fuel t cs=some x)(hw:∀ k∈x.1.weights P t,k≤reachBytes) :
  ∃ vs,oi Ss vs∧ae w (kq w) cA (.agg vs) cs:=by
 obtain ⟨hl,m,hf⟩:=ab8 ht h hw;obtain ⟨vs,k1,k2⟩:=A4 l Ss 0 hok (by rw[hl,hc];omega) hf;exact ⟨vs,k1,by simpa only[ae,List.drop_zero] using k2⟩
theorem aaA{P:Program}{t:TypeId}(ht:P.underlying t=some .string)(hc:P.cellsOf t=1):iI P t aD fun s=>s.l.length≤140737488351232 :=
 ⟨hc,Nat.one_pos,fun {H enc0 w fuel cs x} h hw=>by
  obtain ⟨s,rfl,rfl,hs⟩:=DataW.trod_string ht h;refine ⟨⟨s⟩,?_,?_⟩
  ·have:=hw s.data.toList.length (by simp[DataW.weights]);exact this
  ·show ae _ _ _ (.ay s) _
   simp only[ae,true_and];exact hs⟩
end Go.Abs
namespace Go.Proofs.YtoffnnjbplgnaaaGreatDoor
open Go Go.Abs Go.ChangeShapes Go.WideShapes Go.RowKit
open Go.Abs.Enc (enc)
theorem Tryz.own:ownKnob Tryz.prog.godebug=none:=by kernel_rfl
theorem Tryz.YR:laidOutB Tryz.prog=true:=by kernel_rfl
theorem ZD:rL Tryz.prog 3 Int:=aaB (by kernel_rfl) (by kernel_rfl)
theorem oj:iI Tryz.prog 3 Int fun _=>True:=ZD.aay
theorem HU:iI Tryz.prog 9 aD fun s=>s.l.length≤140737488351232:=aaA (by kernel_rfl) (by kernel_rfl)
theorem uR:iI Tryz.prog 48 Item fun a=>True:=⟨by kernel_rfl,by decide,fun h hw=>by
 obtain ⟨vs,hv,hr⟩:=tz [(3,0),(3,1)]
  [(1,fun v=>∃ a:Int,True∧v=enc a),(1,fun v=>∃ a:Int,True∧v=enc a)]
  (by kernel_rfl) (by simp only[mJ];exact ⟨trivial,oj.bl,trivial,oj.bl,trivial⟩) (by kernel_rfl) h hw
 obtain ⟨v0,vs0,e0,h0,hv0⟩:=jz hv;obtain ⟨a0,p0,f0⟩:∃ a:Int,True∧v0=enc a:=h0;obtain ⟨v1,vs1,e1,h1,hv1⟩:=jz hv0;obtain ⟨a1,p1,f1⟩:∃ a:Int,True∧v1=enc a:=h1;have e2:=rQ hv1;rw[e0,e1,e2,f0,f1] at hr;refine ⟨⟨a0,a1⟩,trivial,?_⟩;exact hr⟩
theorem yC:iI Tryz.prog 50 ah fun a=>a.text.length≤140737488351232:=⟨by kernel_rfl,by decide,fun h hw=>by
 obtain ⟨vs,hv,hr⟩:=tz [(48,0),(3,2),(3,3),(3,4),(48,5),(9,7)]
  [(2,fun v=>∃ a:Item,True∧v=enc a),(1,fun v=>∃ a:Int,True∧v=enc a),(1,fun v=>∃ a:Int,True∧v=enc a),(1,fun v=>∃ a:Int,True∧v=enc a),(2,fun v=>∃ a:Item,True∧v=enc a),(1,fun v=>∃ a:aD,a.l.length≤140737488351232∧v=enc a)]
  (by kernel_rfl) (by simp only[mJ];exact ⟨trivial,uR.bl,trivial,oj.bl,trivial,oj.bl,trivial,oj.bl,trivial,uR.bl,trivial,HU.bl,trivial⟩) (by kernel_rfl) h hw
 obtain ⟨v0,vs0,e0,h0,hv0⟩:=jz hv;obtain ⟨a0,p0,f0⟩:∃ a:Item,True∧v0=enc a:=h0;obtain ⟨v1,vs1,e1,h1,hv1⟩:=jz hv0;obtain ⟨a1,p1,f1⟩:∃ a:Int,True∧v1=enc a:=h1;obtain ⟨v2,vs2,e2,h2,hv2⟩:=jz hv1;obtain ⟨a2,p2,f2⟩:∃ a:Int,True∧v2=enc a:=h2;obtain ⟨v3,vs3,e3,h3,hv3⟩:=jz hv2;obtain ⟨a3,p3,f3⟩:∃ a:Int,True∧v3=enc a:=h3;obtain ⟨v4,vs4,e4,h4,hv4⟩:=jz hv3;obtain ⟨a4,p4,f4⟩:∃ a:Item,True∧v4=enc a:=h4;obtain ⟨v5,vs5,e5,h5,hv5⟩:=jz hv4;obtain ⟨a5,p5,f5⟩:∃ a:aD,a.l.length≤140737488351232∧v5=enc a:=h5;have e6:=rQ hv5;rw[e0,e1,e2,e3,e4,e5,e6,f0,f1,f2,f3,f4,f5] at hr;refine ⟨⟨a0.aT,a0.no,a1,a2,a3,a4.aT,a4.no,a5.l⟩,p5,?_⟩;exact hr⟩
theorem Io:Tryz.prog.bytesOf 50=72:=by kernel_rfl
theorem HT:iI Tryz.prog 23 (List ah) fun l=>(∀ r∈l,r.text.length≤140737488351232)∧l.length*72≤reachBytes:=by
 have h:=aaz (P:=Tryz.prog) (t:=23) (e:=50) (by kernel_rfl) yC (by kernel_rfl);exact ⟨h.cells,h.tD,fun hx hw=>by
  obtain ⟨a,⟨h1,h2⟩,h3⟩:=h.o8 hx hw;rw[Io] at h2;exact ⟨a,⟨h1,h2⟩,h3⟩⟩
theorem HS:iI Tryz.prog 71 dF fun a=>(∀ r∈a.l,r.text.length≤140737488351232)∧a.l.length*72≤reachBytes:=⟨by kernel_rfl,by decide,fun h hw=>by
 obtain ⟨vs,hv,hr⟩:=tz [(23,0)]
  [(1,fun v=>∃ a:(List ah),((∀ r∈a,r.text.length≤140737488351232)∧a.length*72≤reachBytes)∧v=enc a)]
  (by kernel_rfl) (by simp only[mJ];exact ⟨trivial,HT.bl,trivial⟩) (by kernel_rfl) h hw
 obtain ⟨v0,vs0,e0,h0,hv0⟩:=jz hv;obtain ⟨a0,p0,f0⟩:∃ a:(List ah),((∀ r∈a,r.text.length≤140737488351232)∧a.length*72≤reachBytes)∧v0=enc a:=h0;have e1:=rQ hv0;rw[e0,e1,f0] at hr;refine ⟨⟨a0⟩,p0,?_⟩;exact hr⟩
theorem abI{w:World}{D:aJ}{E:aO}{x y:I}{a b:Value}(hx:∃ cs,bd x a cs∧ae w D E x cs)(hy:∃ cs,bd y b cs∧ae w D E y cs):aB w D E [x,y] [a,b]:=by
 obtain ⟨c1,h1,h2⟩:=hx;obtain ⟨c2,h3,h4⟩:=hy;simp only[aB];exact ⟨a,[b],c1,rfl,h1,h2,b,[],c2,rfl,h3,h4,rfl⟩
def jG : List (String × DataW Unit) := [("math/bits.deBruijn32tab", Rows.laid_math_bits_deBruijn32tab), ("math/bits.deBruijn64tab", Rows.laid_math_bits_deBruijn64tab), ("internal/strconv.uint64pow10", Rows.laid_internal_strconv_uint64pow10), ("strconv.ErrRange", Rows.laid_strconv_ErrRange), ("strconv.ErrSyntax", Rows.laid_strconv_ErrSyntax)]
def Gf:List Int:=[1,10,100,1000,10000,100000,1000000,10000000,100000000,1000000000,10000000000,100000000000,1000000000000,10000000000000,100000000000000,1000000000000000,10000000000000000,100000000000000000,1000000000000000000,10000000000000000000]
theorem Xq : Tryz.prog.globalNamed "internal/strconv.uint64pow10" = some 3 := by kernel_rfl
theorem ach:(Tryz.prog.globals[3]?).map (·.type)=some 256:=by kernel_rfl
theorem Xp : Tryz.prog.globalNamed "internal/bytealg.MaxLen" = some 0 := by kernel_rfl
theorem EP:((begin Tryz.prog (fun _ _=>0) default).world.heap[0]?).bind Obj.row?=some (#[.int .i64 0],3):=by kernel_rfl
theorem Xs : Tryz.prog.globalNamed "strconv.ErrSyntax" = some 1 := by kernel_rfl
theorem Xr : Tryz.prog.globalNamed "strconv.ErrRange" = some 2 := by kernel_rfl
theorem FW:(Tryz.prog.globals[1]?).map (·.type)=some 199∧(Tryz.prog.globals[2]?).map (·.type)=some 199:=⟨by kernel_rfl,by kernel_rfl⟩
theorem B3:(match Tryz.prog.underlying 199 with | some (.interface _)=>true | _=>false)=true:=by kernel_rfl
theorem Zm {W : World} (hsh : W.ShapedOpen Tryz.prog) : ∃ v, W.var? Tryz.prog "internal/bytealg.MaxLen" = some v ∧ sP .int v := by
 obtain ⟨m,hm⟩:=cell_of_shapedOpen_int (k:=.i64) hsh (show 0<Tryz.prog.globals.size from of_decide_eq_true (by kernel_rfl)) EP rfl (by kernel_rfl) (by kernel_rfl) (by kernel_rfl);obtain ⟨cs,hh,hs,_⟩:=hsh.1 0 _ _ (show 0<Tryz.prog.globals.size from of_decide_eq_true (by kernel_rfl)) EP;refine ⟨cs,?_,m,?_⟩
 ·unfold World.var?;rw[Xp];simp only[Option.bind_some];revert hh;cases hb:W.heap[0]? with
  |none=>intro hh;simp at hh
  |some o =>
   intro hh;cases o <;>simp[] at hh
   simp[hh]
 ·have h1:cs.size=1:=hs;have hcell:W.cell? ⟨0,0,none⟩=cs[0]?:=by
   unfold World.cell?;revert hh;cases hb:W.heap[0]? with
   |none=>intro hh;simp at hh
   |some o =>
    intro hh;cases o <;>simp[] at hh
    rw[←hh.1];rfl
  rw[hcell] at hm;apply Array.ext
  ·simp[h1]
  ·intro i h2 h3;obtain rfl:i=0:=by simp at h3;omega
   have:=(zy5.1 hm).2;simpa using this
theorem AW {W : World} (h : laidMet Tryz.prog jG W) {n : String} {text : List UInt8} {g : Nat} (hn : (n, DataW.iface "*errors.errorString" (.ptr (.agg [.lit (.string text)]))) ∈ jG) (hg : Tryz.prog.globalNamed n = some g) (ht : (Tryz.prog.globals[g]?).map (·.type) = some 199) :
  ∃ v,W.var? Tryz.prog n=some v∧sP .oG v:=by
 obtain ⟨g',t',cs,fuel,p,hg',ht',hvar,hd⟩:=Lib.laidMet.reads h hn;obtain rfl:=Option.some.inj (hg.symm.trans hg');obtain rfl:=Option.some.inj (ht.symm.trans ht');cases hi:Tryz.prog.underlying 199 with
 |none=>have:=B3;rw[hi] at this;cases this
 |some d =>
  cases d <;>(try (have:=B3;rw[hi] at this;cases this;done))
  obtain ⟨_,u,v,hcs,_,_⟩:=iface_of_trod hi hd;refine ⟨cs,hvar,u,v,?_⟩;apply Array.ext';simpa using hcs
theorem aal{W:World}(h:laidMetH Tryz.prog jG W)(hsh:W.ShapedOpen Tryz.prog):eK Tryz.prog W (fun _=>False):=by
 rw[MakeChecks.laidMetH_plain _ _ _ (by kernel_rfl)] at h;intro q hq g hg;refine ⟨id,?_⟩;simp only[nt,zw5,List.not_mem_nil,or_false] at hq;rcases hq with rfl | rfl | rfl | rfl
 ·obtain ⟨g', t', cs, fuel, p, hg', ht', hvar, hd⟩ := Lib.laidMet.reads h (n := "internal/strconv.uint64pow10") (d := Rows.laid_internal_strconv_uint64pow10) (by simp [jG])
  obtain rfl:=Option.some.inj (Xq.symm.trans hg');obtain rfl:=Option.some.inj (ach.symm.trans ht');have hd':DataW.trod (fun _=>()) Tryz.prog W 0 (fun _=>true) false fuel 256 cs.toList=some (Lib.tabData .u64 Gf,p):=hd;have hc:=Lib.cells_of_tab (n:=20) (e:=227) (YB (by kernel_rfl)) (by kernel_rfl) (by kernel_rfl) (by kernel_rfl) hd';refine ⟨cs,hvar,?_⟩
  show cs=Ci
  have:cs=(Gf.map fun z=>Value.int .u64 z).toArray:=by rw[←hc]
  rw[this];rfl
 ·exact Zm hsh
 ·exact AW h (n := "strconv.ErrSyntax") (text := [105, 110, 118, 97, 108, 105, 100, 32, 115, 121, 110, 116, 97, 120]) (by simp [jG, Rows.laid_strconv_ErrSyntax]) Xs FW.1
 ·exact AW h (n := "strconv.ErrRange") (text := [118, 97, 108, 117, 101, 32, 111, 117, 116, 32, 111, 102, 32, 114, 97, 110, 103, 101]) (by simp [jG, Rows.laid_strconv_ErrRange]) Xr FW.2
theorem abt{H:Type}{enc0:TypeId×Value→H}{a:Assume}{C:Checked}{os:Os}{f:FuncId}{fn:Func}{s:ChangeSpec}{conds:List PathCond}{apart jf handsOn again:Bool}{X:World→Array Value→Prop}
  (hX:∀ (w w':World) (args:Array Value),w.heap=w'.heap→X w args→X w' args)
  (own:ownKnob C.prog.godebug=none) (started:os.Started) (noInit:C.prog.inits.idxOf? f=none) (hfn:C.prog.funcs[f]?=some fn)
  (witness:∃ (w:World) (tape:Tape) (i:Input),w.os=os∧(w.forCall tape i).Shaped C.prog∧i.vars=[]∧Input.okWide C.prog (w.forCall tape i) .any w.heap.size f i ∧
   ((s.pre enc0 C.prog fn conds apart (w.forCall tape i).memory i.args∧X (w.forCall tape i).memory i.args)∧sizedMet enc0 C.prog fn (OpenSpec.ofChange s) apart (w.forCall tape i).memory i.args)∧a.holds C.prog (lone (Frame.enter C.prog f i.args .normal) [] (w.forCall tape i)))
  (contract:∀ (W:World) (dV:Nat) (args:Array Value) (ds gs:List (DataW H)) (before:List MemPlace),
   (∀ (j:Nat) t v,fn.params[j]?=some t→args[j]?=some v→Value.okWide C.prog W .any dV t v) →
   DataW.Whole enc0 C.prog fn.params.toList s.vars apart W args.toList ds gs before →
   (DataW.weightsEach C.prog (fn.params.toList++s.plain.varTypes C.prog) (ds++gs)).all (· ≤ reachBytes)=true→X W args→W.ShapedOpen C.prog →
   Calls C.prog f args W fun e W'=>∃ v,e=.returned v∧s.post enc0 C.prog fn apart jf handsOn again W args v W') :
  ReturnsInHanded a C os f .any (fun w args=>(s.pre enc0 C.prog fn conds apart w args∧X w args)∧sizedMet enc0 C.prog fn (OpenSpec.ofChange s) apart w args) (s.post enc0 C.prog fn apart jf handsOn again):=by
 refine returnsInHanded_of_calls own started noInit witness ?_;intro w tape i _ hsh _ hok hpre _;obtain ⟨_,_,_,fn',hfn',_,_,_,_,hval⟩:=hok;have e:fn'=fn:=Option.some.inj (hfn'.symm.trans hfn);subst e;obtain ⟨⟨⟨ds,gs,before,hw,_⟩,hx⟩,hz⟩:=hpre;have hw':=DataW.Whole.of_heap (w':=w.forCall tape i) (by rfl) hw;refine (contract (w.forCall tape i) w.heap.size i.args ds gs before hval hw' (hz.weights hw) (hX _ _ _ (by rfl) hx) hsh).mono fun e W' ⟨v,he,hp⟩ =>?_;subst he;exact ChangeSpec.post_blind hp
end Go.Proofs.YtoffnnjbplgnaaaGreatDoor
namespace Go.Proofs.YtoffnnjbplgnaaaGreatDoor
open Go Go.Abs
open Go.Abs.Enc (enc)
def cH:ah:=default
theorem lv:I.agg [.agg [.int .i64 0,.int .i64 0],.int .i64 0,.int .i64 0,.int .i64 0,.agg [.int .i64 0,.int .i64 0],.ay ⟨#[]⟩]=enc cH:=rfl
theorem FG{A:ab}{l:List ah} : kj A 8 (enc l)=some (l.map enc):=kV A 8 l rfl
theorem FH{A:ab}{n lo k:Nat}{xs:List ah}(ho:A.o n=some (.box (.agg (xs.map enc))))(hl:lo+k≤xs.length):kj A 8 (.view n [] 8 lo k)=some (((xs.drop lo).take k).map enc):=nR ho hl
theorem fL{k:Nat}{a:ai}{m:Nat} : aw [(k,a)] m=true↔m=k:=by
 constructor
 ·intro h;simp only[aw,aG] at h;split at h
  ·assumption
  ·simp at h
 ·rintro rfl;simp[aw,aG]
theorem BW{A:ab}{k k':Nat}{c c':I}(h1:A.o k=some (.box c))(h2:∀ p,c.only p=true)(h1':A.o k'=some (.box c'))(h2':∀ p,c'.only p=true):∀ n x,aG [(k,.box c),(k',.box c')] n=some x→A.o n=some x∧x.only (aw [(k,.box c),(k',.box c')])=true∧x.dO=true:=fun n x h=>by
 simp only[aG] at h;split at h
 ·rename_i hn;subst hn;simp only[v6] at h;subst h;exact ⟨h1,h2 _,rfl⟩
 ·split at h
  ·rename_i hn;subst hn;simp only[v6] at h;subst h;exact ⟨h1',h2' _,rfl⟩
  ·cases h
theorem fZ(p:Nat→Bool)(l:List ah):(I.agg (l.map enc)).only p=true:=by simp only[I.only];exact eR p l
def fk(k:Nat)(l:List ah)(m:Nat):List (Nat×ai):=[(k,.box (.agg ((l++List.replicate m cH).map enc)))]
def ox(l:List ah):cd:=fun r os'=>(l=[]∧(r=.nils 8∨r=.c0 8)∧os'=[])∨(l≠[]∧∃ m,r=.view 7 [] 8 0 l.length∧os'=fk 7 l m)
theorem rF(l:List ah)(hl:l.length≤1000):eU Tryz.prog 93 [enc l] [] (ox l):=by
 refine eU.bJ Tryz.func93 Ah An Ax (t7 rfl) (t7 rfl) (fun m hm=>by simp[aw,aG] at hm) (fun hwf W0 bC E1 =>?_);simp only[uZ,wQ,bA];refine .di (by decide +kernel) fun K hK =>?_;simp only[vG,aU];refine .done (hK _ ?_);clear hK K;refine U.seq (U.seq ?_);by_cases hn:l=[]
 ·subst hn;refine .fQ (by decide +kernel) fun K hK =>?_;simp only[qi,aU,Nat.reduceEqDiff,reduceIte];simp only[uf,List.isEmpty_nil,oW];refine .any rfl fun b _ =>?_
  try simp only[aU]
  generalize (b==0)=t;cases t
  ·refine .done (hK _ ?_);clear hK K;try simp only[cg]
   refine U.fM ?_;simp only[aj,aU,Nat.reduceEqDiff,reduceIte];refine ⟨fun h =>?_,fun h =>?_⟩
   ·cases h
   refine U.skip ?_;try simp only[cg]
   refine .di (by decide +kernel) fun K hK =>?_;simp only[qj,aU]
   try simp only[fo,lv,aU,Nat.reduceEqDiff,reduceIte]
   refine .done (hK _ ?_);clear hK K;refine U.ret ?_;simp only[iR];exact ⟨[],[.c0 8],vP,⟨⟨.c0 8,rfl,.inl ⟨rfl,rfl,rfl⟩⟩,trivial⟩,.inl ⟨rfl,.inr rfl,rfl⟩⟩
  ·refine .done (hK _ ?_);clear hK K;refine U.fM ?_;simp only[aj,aU,Nat.reduceEqDiff,reduceIte];refine ⟨fun h =>?_,fun h =>?_⟩
   ·refine .di (by decide +kernel) fun K hK =>?_;simp only[vH,aU];refine .done (hK _ ?_);clear hK K;refine U.ret ?_;simp only[cg,iR];exact ⟨[],[.nils 8],vP,⟨⟨.nils 8,rfl,.inl ⟨rfl,rfl,rfl⟩⟩,trivial⟩,.inl ⟨rfl,.inl rfl,rfl⟩⟩
   ·cases h
 ·have hu:jv (enc l)=false:=by rw[uf];simpa using hn
  refine .fQ (by decide +kernel) fun K hK =>?_;simp only[qi,aU,Nat.reduceEqDiff,reduceIte]
  try simp only[hu,CL _ l hn,aU]
  refine .done (hK _ ?_);clear hK K;try simp only[cg]
  refine U.fM ?_;simp only[aj,aU,Nat.reduceEqDiff,reduceIte];refine ⟨fun h =>?_,fun h =>?_⟩
  ·cases h
  refine U.skip ?_;try simp only[cg]
  refine .di (by decide +kernel) fun K hK =>?_;simp only[qj,aU]
  try simp only[fo,lv,aU,Nat.reduceEqDiff,reduceIte]
  refine ba.uJ cH rfl hn rfl (by omega) (by simp only[maxLen];omega) fun m =>?_
  try simp only[aU,Nat.reduceEqDiff,reduceIte]
  refine .done (hK _ ?_);clear hK K;refine U.ret ?_;simp only[iR];exact ⟨fk 7 l m,[.view 7 [] 8 0 l.length],mz rfl (fun p=>fZ p _),⟨⟨_,rfl,.inl ⟨rfl,rfl,rfl⟩⟩,trivial⟩,.inr ⟨hn,m,rfl,rfl⟩⟩
def fK(l:List ah)(i:Nat)(g:ah):List ah:=l.take i++g::l.drop i
theorem YA{l:List ah}{i:Nat}(g:ah)(h:i≤l.length):(fK l i g).length=l.length+1:=by
 simp only[fK,zz1,zy0,zw0,zx5];omega
def B7(l:List ah)(i:Nat)(g:ah)(k:Nat):cd:=fun r os' =>
 (∃ q,r=.view 1000000 [] 8 0 (l.length+1)∧os'=fk 1000000 (fK l i g) q)∨∃ d q,(d=25∨d=40)∧r=.view d [] 8 0 (l.length+1)∧os'=fk d (fK l i g) q++fk 1000000 l k
theorem Zc(l:List ah)(i q:Nat)(g:ah)(h:i<l.length)(xs:List ah)(hx:xs=l.take i++(List.replicate (l.length+1-i) cH++List.replicate q cH))(ys:List ah)(hy:ys=xs.take i++([g].take 1++xs.drop (i+1))) :
  ys.take (i+1)++((((l++List.replicate 0 cH).drop i).take (l.length-i)).take (l.length-i)++ys.drop (i+1+(l.length-i)))=fK l i g++List.replicate q cH:=by
 have e1:xs.take i=l.take i:=by rw[hx,List.take_append_of_le_length (by rw[zy0];omega),List.take_take,Nat.min_self]
 have e2:xs.drop (i+1)=List.replicate (l.length-i+q) cH:=by
  have hl:(l.take i).length=i:=by rw[zy0];omega
  rw[hx,List.replicate_append_replicate,List.drop_append,hl,List.drop_eq_nil_of_le (by rw[hl];omega),zy4,List.drop_replicate]
  congr 1;omega
 have e3:ys=(l.take i++[g])++List.replicate (l.length-i+q) cH:=by rw[hy,e1,e2];simp
 have hl2:(l.take i++[g]).length=i+1:=by rw[zz1,zy0];simp;omega
 have e4:ys.take (i+1)=l.take i++[g]:=by rw[e3,←hl2,List.take_left]
 have e5:ys.drop (i+1+(l.length-i))=List.replicate q cH:=by
  rw[e3,List.drop_append,hl2,List.drop_eq_nil_of_le (by rw[hl2];omega),zy4,List.drop_replicate]
  congr 1;omega
 have e6:(((l++List.replicate 0 cH).drop i).take (l.length-i)).take (l.length-i)=l.drop i:=by
  rw[List.replicate_zero,List.append_nil,List.take_take,Nat.min_self,List.take_of_length_le (by rw[zx5];omega)]
 rw[e4,e5,e6];simp[fK]
theorem Zb(l:List ah)(i k:Nat)(g:ah)(h:i<l.length)(hk:1≤k)(xs:List ah)(hx:xs=l++List.replicate k cH)(ys:List ah)(hy:ys=xs.take (i+1)++(((xs.drop i).take (l.length+1-i)).take (l.length-i)++xs.drop (i+1+(l.length-i)))) :
  ys.take i++([g].take 1++ys.drop (i+1))=fK l i g++List.replicate (k-1) cH:=by
 have e1:((xs.drop i).take (l.length+1-i)).take (l.length-i)=l.drop i:=by
  rw[List.take_take,Nat.min_eq_left (by omega),hx,List.drop_append_of_le_length (by omega),List.take_append_of_le_length (by rw[zx5];omega),List.take_of_length_le (by rw[zx5];omega)]
 have e2:xs.drop (i+1+(l.length-i))=List.replicate (k-1) cH:=by
  rw[hx,List.drop_append,List.drop_eq_nil_of_le (by omega),zy4,List.drop_replicate]
  congr 1;omega
 have hl:(xs.take (i+1)).length=i+1:=by rw[zy0,hx,zz1];omega
 have e3:ys.take i=l.take i:=by
  rw[hy,List.take_append_of_le_length (by omega),List.take_take,Nat.min_eq_left (by omega),hx,List.take_append_of_le_length (by omega)]
 have e4:ys.drop (i+1)=l.drop i++List.replicate (k-1) cH:=by
  rw[hy,e1,e2];exact List.drop_left' hl
 rw[e3,e4];simp[fK]
theorem Gh(l:List ah)(i:Nat)(g:ah)(k:Nat)(hi:i≤l.length)(hn:l≠[])(hlen:l.length≤1000) :
  eU Tryz.prog 101 [.view 1000000 [] 8 0 l.length,enc (i:Int),enc [g]] (fk 1000000 l k) (B7 l i g k):=by
 refine eU.bJ Tryz.func101 u1 u4 vc (t7 rfl) (t7 rfl) (fun m hm=>by rw[fL.1 hm];exact zz8 _) (fun hwf W0 bC E1 =>?_);simp only[rY,tF,bA,zz3,Nat.reduceAdd];simp only[fk];have hl0:0<l.length:=List.length_pos_iff.2 hn;have htot:((l++List.replicate k cH).map (enc (α:=ah))).length=l.length+k:=by simp
 refine .di (by decide +kernel) fun K hK =>?_;simp only[si,aU];refine .done (hK _ ?_);clear hK K;obtain ⟨y,hy⟩:=abY (n:=1000000) (p:=[]) (sz:=8) hi (show l.length≤l.length+k by omega);refine .di (by decide +kernel) fun K hK =>?_;simp only[sj,aU,Nat.reduceEqDiff,reduceIte]
 try simp only[fo,htot,zy8,hy,aU,reduceIte]
 refine .done (hK _ ?_);clear hK K;refine .di (by decide +kernel) fun K hK =>?_;simp only[sk,aU,Nat.reduceEqDiff,reduceIte]
 try simp only[typR,jw,j9,jd,aU,Nat.reduceEqDiff,reduceIte,Int.reduceBNe,Int.reduceBEq]
 refine .done (hK _ ?_);clear hK K;refine U.seq (U.seq ?_);refine .fQ (by decide +kernel) fun K hK =>?_;simp only[sn,aU,Nat.reduceEqDiff,reduceIte]
 try simp only[typR,jw,j9,jd,aU,Nat.reduceEqDiff,reduceIte,Int.reduceBNe,Int.reduceBEq]
 refine .done (hK _ ?_);clear hK K;try simp only[cg]
 refine U.fM ?_;simp only[aj,aU,Nat.reduceEqDiff,reduceIte];refine ⟨fun h =>?_,fun h =>?_⟩
 ·first | cases h | simp at h
 refine U.skip ?_;try simp only[cg]
 refine .di (by decide +kernel) fun K hK =>?_;simp only[sq,aU,Nat.reduceEqDiff,reduceIte]
 try simp only[fo,aU,Nat.reduceEqDiff,reduceIte]
 refine .done (hK _ ?_);clear hK K;refine U.seq (U.seq ?_);refine .fQ (by decide +kernel) fun K hK =>?_;simp only[sr,aU,Nat.reduceEqDiff,reduceIte]
 try simp only[typR,jw,j9,jd,aU,Nat.reduceEqDiff,reduceIte,Int.reduceBNe,Int.reduceBEq]
 refine .done (hK _ ?_);clear hK K;try simp only[cg]
 have hA:∀ ts,(al ts [(1000000,.box (.agg ((l++List.replicate k cH).map (enc (α:=ah)))))]).o 1000000=some (.box (.agg ((l++List.replicate k cH).map enc))):=fun _=>rfl;have hN:∀ ts (d:Nat),d≠1000000→(al ts [(1000000,.box (.agg ((l++List.replicate k cH).map (enc (α:=ah)))))]).o d=none:=fun ts d hd=>by
  have:¬ d=1000000:=hd;simp[al,aG,this]
 refine U.fM ?_;simp only[aj,aU,Nat.reduceEqDiff,reduceIte];refine ⟨fun h =>?_,fun h =>?_⟩
 ·have hil:i=l.length:=by
   have:(i:Int)=l.length:=by simpa using h
   omega
  subst hil;by_cases hk:k=0
  ·subst hk;refine .di (by decide +kernel) fun K hK =>?_;simp only[qh,aU,Nat.reduceEqDiff,reduceIte]
   try simp only[lv]
   refine ba.Hz (esz:=8) cH rfl (xs:=l++List.replicate 0 cH) (ys:=[g]) (by simp) (hA _) (by simp) (by simp) (hN _ 25 (by decide)) (by simp;omega) (by simp[maxLen];omega) fun q =>?_;have hc:(l++List.replicate 0 cH).take l.length++([g]++List.replicate q cH)=fK l l.length g++List.replicate q cH:=by simp[fK]
   rw[hc]
   try simp only[List.length_singleton,aU,Nat.reduceEqDiff,reduceIte]
   refine .done (hK _ ?_);clear hK K;refine U.ret ?_;simp only[cg,iR];exact ⟨fk 25 (fK l l.length g) q++fk 1000000 l 0,[.view 25 [] 8 0 (l.length+1)],BW rfl (fun p=>fZ p _) rfl (fun p=>fZ p _),⟨⟨_,rfl,.inl ⟨rfl,rfl,rfl⟩⟩,trivial⟩,.inr ⟨25,q,.inl rfl,rfl,rfl⟩⟩
  ·refine .di (by decide +kernel) fun K hK =>?_;simp only[qh,aU,Nat.reduceEqDiff,reduceIte]
   try simp only[lv]
   rw[yx (esz:=8) _ rfl (xs:=l++List.replicate k cH) (ys:=[g]) (by simp) (hA _) (by simp;omega)];have hc:(l++List.replicate k cH).take l.length++([g]++(l++List.replicate k cH).drop (l.length+[g].length))=fK l l.length g++List.replicate (k-1) cH:=by
    simp[fK,List.drop_append]
   rw[hc]
   try simp only[List.length_singleton,aU,Nat.reduceEqDiff,reduceIte]
   refine .done (hK _ ?_);clear hK K;refine U.ret ?_;simp only[cg,iR];exact ⟨fk 1000000 (fK l l.length g) (k-1),[.view 1000000 [] 8 0 (l.length+1)],mz rfl (fun p=>fZ p _),⟨⟨_,rfl,.inl ⟨rfl,rfl,rfl⟩⟩,trivial⟩,.inl ⟨k-1,rfl,rfl⟩⟩
 have hlt:i<l.length:=by
  have:¬ (i:Int)=l.length:=by simpa using h
  omega
 refine U.skip ?_;try simp only[cg]
 refine U.seq (U.seq ?_);refine .fQ (by decide +kernel) fun K hK =>?_;simp only[Bu,aU,Nat.reduceEqDiff,reduceIte]
 try simp only[ZN,List.length_singleton,aU,Nat.reduceEqDiff,reduceIte]
 rw[JU (xs:=l++List.replicate k cH) (hA _)]
 try simp only[aU,Nat.reduceEqDiff,reduceIte]
 rw[dE _ (by simp;omega) (by simp;omega)];refine .done (hK _ ?_);clear hK K;try simp only[cg]
 have hgt:decide ((((l++List.replicate k cH).length-0:Nat):Int)<(l.length:Int)+((1:Nat):Int))=decide (k=0):=by
  by_cases hk:k=0 <;>simp[hk] <;>omega
 simp only[hgt];by_cases hk:k=0
 ·subst hk;refine U.fM ?_;simp only[aj,aU,Nat.reduceEqDiff,reduceIte];refine ⟨fun h =>?_,fun h =>?_⟩
  ·have htot0:((l++List.replicate 0 cH).map (enc (α:=ah))).length=l.length:=by simp
   refine .di (by decide +kernel) fun K hK =>?_;simp only[Bv,aU,Nat.reduceEqDiff,reduceIte]
   try simp only[fo,htot0,zy8,xm (show i≤l.length by omega) hl0,lv,ZG,aU,Nat.reduceEqDiff,reduceIte]
   rw[dE ((l.length:Int)+((1:Nat):Int)) (by omega) (by omega),dE ((l.length:Int)+((1:Nat):Int)-i) (by omega) (by omega)];have hm:(l.length:Int)+((1:Nat):Int)-i=((l.length+1-i:Nat):Int):=by omega
   rw[hm];refine ba.HJ (esz:=8) cH rfl (xs:=l++List.replicate 0 cH) (hA _) (by simp;omega) (by omega) (by simp;omega) (hN _ 40 (by decide)) (by omega) (by simp only[maxLen];omega) fun q =>?_;obtain ⟨xs,hxs⟩:∃ xs,xs=l.take i++(List.replicate (l.length+1-i) cH++List.replicate q cH):=⟨_,rfl⟩
   have hxs':(l++List.replicate 0 cH).take i++(List.replicate (l.length+1-i) cH++List.replicate q cH)=xs:=by rw[hxs,List.take_append_of_le_length (by omega)]
   have hxl:xs.length=l.length+1+q:=by rw[hxs];simp;omega
   have hle:i+(l.length+1-i)=l.length+1:=by omega
   rw[hxs',hle]
   try simp only[aU,Nat.reduceEqDiff,reduceIte]
   refine .done (hK _ ?_);clear hK K;have hxm:(xs.map (enc (α:=ah))).length=l.length+1+q:=by rw[zz2];exact hxl
   have hA2:∀ ts,(al ts [(40,.box (.agg (xs.map (enc (α:=ah))))),(1000000,.box (.agg ((l++List.replicate 0 cH).map (enc (α:=ah)))))]).o 40=some (.box (.agg (xs.map enc))):=fun _=>rfl;refine .di (by decide +kernel) fun K hK =>?_;simp only[Bl,aU,Nat.reduceEqDiff,reduceIte]
   try simp only[fo,hxm,zy8,lZ (show i≤l.length+1 by omega) (show l.length+1≤l.length+1+q by omega) (show i<l.length+1+q by omega),mH,aU,Nat.reduceEqDiff,reduceIte]
   rw[FG,oz (xs:=xs) (c:=1) (hA2 _) (by omega) (by simp;omega)];obtain ⟨ys,hys⟩:∃ ys,ys=xs.take i++([g].take 1++xs.drop (i+1)):=⟨_,rfl⟩
   have hyl:ys.length=l.length+1+q:=by rw[hys];simp;omega
   rw[←hys]
   try simp only[aU]
   refine .done (hK _ ?_);clear hK K;have hym:(ys.map (enc (α:=ah))).length=l.length+1+q:=by rw[zz2];exact hyl
   have hA3:∀ ts z,(al ts [(40,.box (.agg (ys.map (enc (α:=ah))))),(40,z),(1000000,.box (.agg ((l++List.replicate 0 cH).map (enc (α:=ah)))))]).o 40=some (.box (.agg (ys.map enc))):=fun _ _=>rfl;have hA4:∀ ts z,(al ts [(40,.box (.agg (ys.map (enc (α:=ah))))),(40,z),(1000000,.box (.agg ((l++List.replicate 0 cH).map (enc (α:=ah)))))]).o 1000000=some (.box (.agg ((l++List.replicate 0 cH).map enc))):=fun _ _=>rfl;refine .di (by decide +kernel) fun K hK =>?_;simp only[Bm,aU,Nat.reduceEqDiff,reduceIte];rw[dE ((i:Int)+((1:Nat):Int)) (by omega) (by omega)];have hi1:(i:Int)+((1:Nat):Int)=((i+1:Nat):Int):=by omega
   try simp only[fo,hym,htot0,hi1,zy8,zy1,lZ (show i+1≤l.length+1 by omega) (show l.length+1≤l.length+1+q by omega) (show i+1<l.length+1+q by omega),lZ (show i≤l.length by omega) (zz8 l.length) hlt,mH,aU,Nat.reduceEqDiff,reduceIte]
   have hd1:l.length+1-(i+1)=l.length-i:=by omega
   rw[hd1,FH (xs:=l++List.replicate 0 cH) (hA4 _ _) (by simp;omega),oz (xs:=ys) (c:=l.length-i) (hA3 _ _) (by omega) (by simp)];rw[Zc l i q g hlt xs hxs ys hys]
   try simp only[aU]
   refine .done (hK _ ?_);clear hK K;refine .di (by decide +kernel) fun K hK =>?_;simp only[Bn,aU,Nat.reduceEqDiff,reduceIte];refine .done (hK _ ?_);clear hK K;refine U.ret ?_;simp only[cg,iR];exact ⟨fk 40 (fK l i g) q++fk 1000000 l 0,[.view 40 [] 8 0 (l.length+1)],BW rfl (fun p=>fZ p _) rfl (fun p=>fZ p _),⟨⟨_,rfl,.inl ⟨rfl,rfl,rfl⟩⟩,trivial⟩,.inr ⟨40,q,.inr rfl,rfl,rfl⟩⟩
  ·simp at h
 ·refine U.fM ?_;simp only[aj,aU,Nat.reduceEqDiff,reduceIte];refine ⟨fun h =>?_,fun h =>?_⟩
  ·simp at h;omega
  refine U.skip ?_;try simp only[cg]
  have hk1:1≤k:=by omega
  have hn1:(l.length:Int)+((1:Nat):Int)=((l.length+1:Nat):Int):=by omega
  refine .di (by decide +kernel) fun K hK =>?_;simp only[Bo,aU,Nat.reduceEqDiff,reduceIte];rw[dE ((l.length:Int)+((1:Nat):Int)) (by omega) (by omega)]
  try simp only[fo,htot,hn1,zy8,xm (show l.length+1≤l.length+k by omega) (show 0<l.length+k by omega),aU,Nat.reduceEqDiff,reduceIte]
  refine .done (hK _ ?_);clear hK K;have hi1:(i:Int)+((1:Nat):Int)=((i+1:Nat):Int):=by omega
  have hd1:l.length+1-(i+1)=l.length-i:=by omega
  refine U.seq (U.seq ?_);refine .fQ (by decide +kernel) fun K hK =>?_;simp only[Bp,aU,Nat.reduceEqDiff,reduceIte];rw[dE ((i:Int)+((1:Nat):Int)) (by omega) (by omega)]
  try simp only[fo,htot,hi1,hd1,zy8,lZ (show i+1≤l.length+1 by omega) (show l.length+1≤l.length+k by omega) (show i+1<l.length+k by omega),aah,aU,Nat.reduceEqDiff,reduceIte]
  refine .ext (.bool false) rfl (acy (tS:=23) (tR:=4) (e:=50) Tryz.func143 (by kernel_rfl) (by kernel_rfl) (by kernel_rfl) (by kernel_rfl) (by kernel_rfl) (by kernel_rfl) (hA _) rfl ?_ (by decide) (Oy (by intro h;have:=congrArg List.length h;rw[zz1,List.length_replicate,zx9] at this;omega) rfl)) ?_
  ·show I.sizes ((l++List.replicate k cH).map enc)≠0
   rw[I.gv (sz:=8) _ (fun e he=>by obtain ⟨x,_,rfl⟩:=zx1.1 he;rw[lx];rfl)];rw[htot];omega
  try simp only[aU,Nat.reduceEqDiff,reduceIte]
  refine .done (hK _ ?_);clear hK K;try simp only[cg]
  refine U.fM ?_;simp only[aj,aU,Nat.reduceEqDiff,reduceIte];refine ⟨fun h =>?_,fun h =>?_⟩
  case neg.refine_2.refine_2.refine_2=>cases h
  have hd2:l.length+1-i=l.length+1-i:=rfl;obtain ⟨xs,hxs⟩:∃ xs,xs=l++List.replicate k cH:=⟨_,rfl⟩
  have hxl:xs.length=l.length+k:=by rw[hxs];simp
  have hxm:(xs.map (enc (α:=ah))).length=l.length+k:=by rw[zz2];exact hxl
  rw[←hxs];have hB:∀ ts,(al ts [(1000000,.box (.agg (xs.map (enc (α:=ah)))))]).o 1000000=some (.box (.agg (xs.map enc))):=fun _=>rfl;refine .di (by decide +kernel) fun K hK =>?_;simp only[Bq,aU,Nat.reduceEqDiff,reduceIte];rw[dE ((i:Int)+((1:Nat):Int)) (by omega) (by omega)]
  try simp only[fo,hxm,hi1,hd1,zy8,zy1,lZ (show i+1≤l.length+1 by omega) (show l.length+1≤l.length+k by omega) (show i+1<l.length+k by omega),lZ (show i≤l.length+1 by omega) (show l.length+1≤l.length+k by omega) (show i<l.length+k by omega),mH,aU,Nat.reduceEqDiff,reduceIte]
  rw[FH (xs:=xs) (hB _) (by omega),oz (xs:=xs) (c:=l.length-i) (hB _) (by omega) (by simp;omega)];obtain ⟨ys,hys⟩:∃ ys,ys=xs.take (i+1)++(((xs.drop i).take (l.length+1-i)).take (l.length-i)++xs.drop (i+1+(l.length-i))):=⟨_,rfl⟩
  have hyl:ys.length=l.length+k:=by rw[hys];simp;omega
  have hym:(ys.map (enc (α:=ah))).length=l.length+k:=by rw[zz2];exact hyl
  rw[←hys]
  try simp only[aU]
  refine .done (hK _ ?_);clear hK K;have hC:∀ ts z,(al ts [(1000000,.box (.agg (ys.map (enc (α:=ah))))),(1000000,z)]).o 1000000=some (.box (.agg (ys.map enc))):=fun _ _=>rfl;refine .di (by decide +kernel) fun K hK =>?_;simp only[Br,aU,Nat.reduceEqDiff,reduceIte]
  try simp only[fo,hym,zy8,lZ (show i≤l.length+1 by omega) (show l.length+1≤l.length+k by omega) (show i<l.length+k by omega),mH,aU,Nat.reduceEqDiff,reduceIte]
  rw[FG,oz (xs:=ys) (c:=1) (hC _ _) (by omega) (by simp;omega)];rw[Zb l i k g hlt hk1 xs hxs ys hys]
  try simp only[aU]
  refine .done (hK _ ?_);clear hK K;refine .di (by decide +kernel) fun K hK =>?_;simp only[Bt,aU,Nat.reduceEqDiff,reduceIte];refine .done (hK _ ?_);clear hK K;refine U.ret ?_;simp only[cg,iR];exact ⟨fk 1000000 (fK l i g) (k-1),[.view 1000000 [] 8 0 (l.length+1)],mz rfl (fun p=>fZ p _),⟨⟨_,rfl,.inl ⟨rfl,rfl,rfl⟩⟩,trivial⟩,.inl ⟨k-1,rfl,rfl⟩⟩
def gA(a b:Int):Int:=if a<b then -1 else if a>b then 1 else 0
def mu(a b:Item):Int:=if gA a.aT b.aT≠0 then gA a.aT b.aT else gA a.no b.no
def eA(a b:Item):Bool:=decide (a.aT<b.aT∨(a.aT=b.aT∧a.no<b.no))
theorem yF(a b:ah):ic a b=eA a.aV b.aV:=rfl
theorem Ap(a b:Int):(a<b∧gA a b=-1)∨(a=b∧gA a b=0)∨(b<a∧gA a b=1):=by
 simp only[gA]
 (repeat' split) <;>omega
theorem Aq(a b:Item):(eA a b=true∧mu a b=-1)∨(a=b∧mu a b=0)∨(eA b a=true∧mu a b=1):=by
 obtain ⟨m,n⟩:=a;obtain ⟨m',n'⟩:=b;simp only[mu,eA,decide_eq_true_eq,Item.mk.injEq];rcases Ap m m' with ⟨h,e⟩ | ⟨h,e⟩ | ⟨h,e⟩ <;>rw[e]
 ·simp;omega
 ·rcases Ap n n' with ⟨h2,e2⟩ | ⟨h2,e2⟩ | ⟨h2,e2⟩ <;>rw[e2] <;>simp <;>omega
 ·simp;omega
theorem pR(a:Item):eA a a=false:=by simp only[eA,decide_eq_false_iff_not];omega
theorem uS{a b c:Item}(h:eA a b=true)(k:eA b c=true):eA a c=true:=by
 simp only[eA,decide_eq_true_eq] at *;omega
theorem Lm(a b:Item):decide (mu a b<0)=eA a b:=by
 rcases Aq a b with ⟨h,e⟩ | ⟨rfl,e⟩ | ⟨h,e⟩
 ·rw[e,h];rfl
 ·rw[e,pR];rfl
 ·rw[e];cases k:eA a b
  ·rfl
  ·have:=uS k h;rw[pR] at this;cases this
theorem Ln(a b:Item):(mu a b==0)=decide (a=b):=by
 rcases Aq a b with ⟨h,e⟩ | ⟨rfl,e⟩ | ⟨h,e⟩
 ·rw[e,decide_eq_false (fun k=>by rw[k,pR] at h;cases h)];rfl
 ·rw[e];simp
 ·rw[e,decide_eq_false (fun k=>by rw[k,pR] at h;cases h)];rfl
theorem xY(n:Int):aK Tryz.prog 175 [enc n] (enc false):=by
 refine aK.bJ Tryz.func175 I6 Ks LX (t7 rfl) (fun hwf W0 bC E1 =>?_);simp only[c175,D0,bA];clear hwf;have q:(n != n)=false:=by simp
 have R:=y6 @q ak
 repeat' ((first |refine U.au (by decide +kernel) rfl fun K hK =>?_|(refine .aq [0,2] hK ?_;clear hK K)|(with_reducible refine .done (hK _ ?_);clear hK K)|refine U.of rfl ?_|(with_reducible refine aj.ar (fun h =>?_) (fun h =>?_) <;>try simp only[h])) <;>try simp only[av,R,simprocAttr])
 all_goals clear R
 all_goals rfl
theorem xW(a b:Int):aK Tryz.prog 161 [enc a,enc b] (enc (gA a b)):=by
 refine aK.bJ Tryz.func161 I4 Ko LS (t7 rfl) (fun hwf W0 bC E1 =>?_);simp only[zl,DW,bA,zz3];clear hwf;have f1:=xY a;have f2:=xY b;simp only[gA];cases q1:decide (a<b)
 ·rw[if_neg (of_decide_eq_false q1)];cases q2:decide (a>b)
  ·rw[if_neg (of_decide_eq_false q2)];have R:=y6 @q1 (y6 @q2 ak)
   repeat' ((first |refine U.au (by decide +kernel) rfl fun K hK =>?_|refine .flat _ (f1) rfl ?_|refine .flat _ (f2) rfl ?_|(refine .aq [0,1,4,5,6,11,12,13,16,19] hK ?_;clear hK K)|(with_reducible refine .done (hK _ ?_);clear hK K)|refine U.of rfl ?_|(with_reducible refine aj.ar (fun h =>?_) (fun h =>?_) <;>try simp only[h])) <;>try simp only[av,R,simprocAttr])
   all_goals clear R
   all_goals rfl
  ·rw[if_pos (of_decide_eq_true q2)];have R:=y6 @q1 (y6 @q2 ak)
   repeat' ((first |refine U.au (by decide +kernel) rfl fun K hK =>?_|refine .flat _ (f1) rfl ?_|refine .flat _ (f2) rfl ?_|(refine .aq [0,1,4,5,6,11,12,13,16,19] hK ?_;clear hK K)|(with_reducible refine .done (hK _ ?_);clear hK K)|refine U.of rfl ?_|(with_reducible refine aj.ar (fun h =>?_) (fun h =>?_) <;>try simp only[h])) <;>try simp only[av,R,simprocAttr])
   all_goals clear R
   all_goals rfl
 ·rw[if_pos (of_decide_eq_true q1)];have R:=y6 @q1 ak
  repeat' ((first |refine U.au (by decide +kernel) rfl fun K hK =>?_|refine .flat _ (f1) rfl ?_|refine .flat _ (f2) rfl ?_|(refine .aq [0,1,4,5,6,11,12,13,16,19] hK ?_;clear hK K)|(with_reducible refine .done (hK _ ?_);clear hK K)|refine U.of rfl ?_|(with_reducible refine aj.ar (fun h =>?_) (fun h =>?_) <;>try simp only[h])) <;>try simp only[av,R,simprocAttr])
  all_goals clear R
  all_goals rfl
theorem GG(a b:Int):aK Tryz.prog 160 [enc [a,b]] (enc (if a≠0 then a else b)):=by
 refine aK.bJ Tryz.func160 I3 Kn LR (t7 rfl) (fun hwf W0 bC E1 =>?_);simp only[zk,DV,bA];clear hwf;have h0:∀ A,ji A 1 ((0:Nat):Int) (enc [a,b])=some (.ref (enc a)):=fun A=>dQ (A:=A) (l:=[a,b]) (k:=0) 1 (by simp) rfl;have h1:∀ A,ji A 1 ((1:Nat):Int) (enc [a,b])=some (.ref (enc b)):=fun A=>dQ (A:=A) (l:=[a,b]) (k:=1) 1 (by simp) rfl;have hl:([a,b]:List Int).length=2:=rfl;obtain ⟨l,hll⟩:∃ l,l=[a,b]:=⟨_,rfl⟩
 rw[←hll] at h0 h1 hl ⊢;have R:=ak
 repeat' ((first |refine U.au (by decide +kernel) rfl fun K hK =>?_|(refine .aq [0,2,3,5,6,7,8,9,14] hK ?_;clear hK K)|(with_reducible refine .done (hK _ ?_);clear hK K)|refine U.of rfl ?_|(with_reducible refine aj.ar (fun h =>?_) (fun h =>?_) <;>try simp only[h])) <;>try simp only[av,R,simprocAttr])
 all_goals clear R
 refine U.loop (fun i:Nat=>al [(0,enc l),(3,.int .i64 0),(6,enc l),(7,.int .i64 (l.length:Int)),(8,.int .i64 (i:Int))] []) (fun i=>i≤2∧(0<i→a=0)∧(1<i→b=0)) (fun i=>2-i) 0 ⟨by omega,by omega,by omega⟩ ?_ ?_
 ·refine bn.bZ ?_ ?_ ?_ ?_ <;>simp[bK,bP,bO,bF,bI,I.only,bt]
  all_goals rfl
 rintro i ⟨hi,k0,k1⟩;have hw:=dU (i:=i) (by omega);by_cases e0:i=0
 ·have hc:=eB (show i<l.length by omega);have he:∀ A,ji A 1 (i:Int) (enc l)=some (.ref (enc a)):=fun A=>by rw[e0];exact h0 A
  cases q:(a != 0)
  ·have R:=y6 @hc (y6 @he (y6 @q (y6 @hw ak)))
   repeat' ((first |refine U.au (by decide +kernel) rfl fun K hK =>?_|(refine .aq [0,2,3,5,6,7,8,9,14] hK ?_;clear hK K)|(with_reducible refine .done (hK _ ?_);clear hK K)|refine U.of rfl ?_|(with_reducible refine aj.ar (fun h =>?_) (fun h =>?_) <;>try simp only[h])) <;>try simp only[av,R,simprocAttr])
   all_goals clear R
   refine ⟨i+1,⟨by omega,fun _=>by simpa using q,by omega⟩,by omega,?_⟩;refine bn.bZ ?_ ?_ ?_ ?_ <;>simp[bK,bP,bO,bF,bI,I.only,bt]
   all_goals rfl
  ·have ha:a≠0:=by simpa using q
   rw[if_pos ha];have R:=y6 @hc (y6 @he (y6 @q (y6 @hw ak)))
   repeat' ((first |refine U.au (by decide +kernel) rfl fun K hK =>?_|(refine .aq [0,2,3,5,6,7,8,9,14] hK ?_;clear hK K)|(with_reducible refine .done (hK _ ?_);clear hK K)|refine U.of rfl ?_|(with_reducible refine aj.ar (fun h =>?_) (fun h =>?_) <;>try simp only[h])) <;>try simp only[av,R,simprocAttr])
   all_goals clear R
   all_goals rfl
 have ha:¬ a≠0:=fun h=>h (k0 (by omega));by_cases e1:i=1
 ·have hc:=eB (show i<l.length by omega);have he:∀ A,ji A 1 (i:Int) (enc l)=some (.ref (enc b)):=fun A=>by rw[e1];exact h1 A
  cases q:(b != 0)
  ·have R:=y6 @hc (y6 @he (y6 @q (y6 @hw ak)))
   repeat' ((first |refine U.au (by decide +kernel) rfl fun K hK =>?_|(refine .aq [0,2,3,5,6,7,8,9,14] hK ?_;clear hK K)|(with_reducible refine .done (hK _ ?_);clear hK K)|refine U.of rfl ?_|(with_reducible refine aj.ar (fun h =>?_) (fun h =>?_) <;>try simp only[h])) <;>try simp only[av,R,simprocAttr])
   all_goals clear R
   refine ⟨i+1,⟨by omega,fun _=>k0 (by omega),fun _=>by simpa using q⟩,by omega,?_⟩;refine bn.bZ ?_ ?_ ?_ ?_ <;>simp[bK,bP,bO,bF,bI,I.only,bt]
   all_goals rfl
  ·rw[if_neg ha];have R:=y6 @hc (y6 @he (y6 @q (y6 @hw ak)))
   repeat' ((first |refine U.au (by decide +kernel) rfl fun K hK =>?_|(refine .aq [0,2,3,5,6,7,8,9,14] hK ?_;clear hK K)|(with_reducible refine .done (hK _ ?_);clear hK K)|refine U.of rfl ?_|(with_reducible refine aj.ar (fun h =>?_) (fun h =>?_) <;>try simp only[h])) <;>try simp only[av,R,simprocAttr])
   all_goals clear R
   all_goals rfl
 have hc:=eX (show ¬ i<l.length by omega);rw[if_neg ha,k1 (by omega)];have R:=y6 @hc ak
 repeat' ((first |refine U.au (by decide +kernel) rfl fun K hK =>?_|(refine .aq [0,2,3,5,6,7,8,9,14] hK ?_;clear hK K)|(with_reducible refine .done (hK _ ?_);clear hK K)|refine U.of rfl ?_|(with_reducible refine aj.ar (fun h =>?_) (fun h =>?_) <;>try simp only[h])) <;>try simp only[av,R,simprocAttr])
 all_goals clear R
 all_goals rfl
theorem GA(a b:Item):aK Tryz.prog 140 [enc a,enc b] (enc (mu a b)):=by
 refine aK.bJ Tryz.func140 IV Kh LL (t7 rfl) (fun hwf W0 bC E1 =>?_);simp only[zf,DP,bA,zz3];clear hwf;have f1:=xW a.aT b.aT;have f2:=xW a.no b.no;have f3:=GG (gA a.aT b.aT) (gA a.no b.no);have hbs:gz 1 (some [.int .i64 (gA a.aT b.aT),.int .i64 (gA a.no b.no)])=some (enc [gA a.aT b.aT,gA a.no b.no]):=yL (ys:=[gA a.aT b.aT,gA a.no b.no]) 1 rfl;have R:=y6 @hbs ak
 repeat' ((first |refine U.au (by decide +kernel) rfl fun K hK =>?_|refine .flat _ (f1) rfl ?_|refine .flat _ (f2) rfl ?_|refine .flat _ (f3) rfl ?_|(refine .aq [0,1,2,3,4] hK ?_;clear hK K)|(with_reducible refine .done (hK _ ?_);clear hK K)|refine U.of rfl ?_|(with_reducible refine aj.ar (fun h =>?_) (fun h =>?_) <;>try simp only[h])) <;>try simp only[av,R,simprocAttr])
 all_goals clear R
 all_goals rfl
theorem xS(x:ah)(a:Item):aK Tryz.prog 139 [enc x,enc a] (enc (mu x.aV a)):=by
 refine aK.bJ Tryz.func139 IT Kf LJ (t7 rfl) (fun hwf W0 bC E1 =>?_);simp only[zd,DN,bA,zz3];clear hwf;have R:=ak
 repeat' ((first |refine U.au (by decide +kernel) rfl fun K hK =>?_|refine .flat _ (GA x.aV a) rfl ?_|(refine .aq [0,1,2,3,4] hK ?_;clear hK K)|(with_reducible refine .done (hK _ ?_);clear hK K)|refine U.of rfl ?_|(with_reducible refine aj.ar (fun h =>?_) (fun h =>?_) <;>try simp only[h])) <;>try simp only[av,R,simprocAttr])
 all_goals clear R
 all_goals rfl
theorem uw(a b:Item):aK Tryz.prog 108 [enc a,enc b] (enc (eA a b)):=by
 refine aK.bJ Tryz.func108 IA J3 Lv (t7 rfl) (fun hwf W0 bC E1 =>?_);simp only[yV,Dz,bA,zz3];clear hwf;have e:eA a b=(decide (a.aT<b.aT)||((a.aT==b.aT)&&decide (a.no<b.no))):=by
  rw[Bool.eq_iff_iff];simp[eA]
 rw[e];cases q1:decide (a.aT<b.aT)
 ·cases q2:(a.aT==b.aT)
  ·have R:=y6 @q1 (y6 @q2 ak)
   repeat' ((first |(with_reducible refine .guard (fun hb =>?_) (fun hb =>?_) <;>try simp only[hb])|refine U.au (by decide +kernel) rfl fun K hK =>?_|(refine .aq [0,1,2,3,4] hK ?_;clear hK K)|(with_reducible refine .done (hK _ ?_);clear hK K)|refine U.of rfl ?_|(with_reducible refine aj.ar (fun h =>?_) (fun h =>?_) <;>try simp only[h])) <;>try simp only[av,R,simprocAttr])
   all_goals clear R
   all_goals rfl
  ·have R:=y6 @q1 (y6 @q2 ak)
   repeat' ((first |(with_reducible refine .guard (fun hb =>?_) (fun hb =>?_) <;>try simp only[hb])|refine U.au (by decide +kernel) rfl fun K hK =>?_|(refine .aq [0,1,2,3,4] hK ?_;clear hK K)|(with_reducible refine .done (hK _ ?_);clear hK K)|refine U.of rfl ?_|(with_reducible refine aj.ar (fun h =>?_) (fun h =>?_) <;>try simp only[h])) <;>try simp only[av,R,simprocAttr])
   all_goals clear R
   all_goals rfl
 ·have R:=y6 @q1 ak
  repeat' ((first |(with_reducible refine .guard (fun hb =>?_) (fun hb =>?_) <;>try simp only[hb])|refine U.au (by decide +kernel) rfl fun K hK =>?_|(refine .aq [0,1,2,3,4] hK ?_;clear hK K)|(with_reducible refine .done (hK _ ?_);clear hK K)|refine U.of rfl ?_|(with_reducible refine aj.ar (fun h =>?_) (fun h =>?_) <;>try simp only[h])) <;>try simp only[av,R,simprocAttr])
  all_goals clear R
  all_goals rfl
theorem acv(x y:Nat)(h:x+y<9223372036854775807):IntKind.i64.wrap ((x:Int)+(y:Int))=((x+y:Nat):Int):=by rw[dE _ (by omega) (by omega)];omega
theorem acw{n:Nat}(h:n≤9223372036854775807):IntKind.i64.wrap (n:Int)=(n:Int):=dE _ (by omega) (by omega)
theorem we(x:Nat):Int.fdiv (x:Int) (2^min (Int.toNat 1) IntKind.u64.bits)=((x / 2:Nat):Int):=by
 have:min (Int.toNat 1) IntKind.u64.bits=1:=rfl;rw[this]
 show Int.fdiv (x:Int) 2=_
 rw[Int.fdiv_eq_ediv_of_nonneg _ (by decide)];rfl
theorem CG(x:Nat):Int.fdiv (x:Int) (2^min 1 IntKind.u64.bits)=((x / 2:Nat):Int):=we x
theorem Zo{x:Nat}(h:x<9223372036854775807):IntKind.u64.wrap (x:Int)=(x:Int):=by
 simp only[IntKind.wrap,IntKind.bits,IntKind.signed];simp;omega
theorem CF:((0:Int)≤1)=True:=by simp
abbrev og(l:List ah):Prop:=l.Pairwise fun a b=>ic a b=true
def eS(l:List ah)(a:Item):Nat:=l.findIdx fun x => !eA x.aV a
def im(l:List ah)(a:Item):Bool:=l.any fun x=>decide (x.aV=a)
theorem aaI(l:List ah)(a:Item):eS l a≤l.length:=List.findIdx_le_length
theorem xr{l:List ah}(h:og l){i j:Nat}(hij:i<j)(hj:j<l.length):eA (l[i]'(by omega)).aV l[j].aV=true:=List.pairwise_iff_getElem.1 h i j (by omega) hj hij
theorem wJ{l:List ah}{a:Item}{i:Nat}(hi:i≤l.length)(h1:∀ k (h:k<l.length),k<i→eA l[k].aV a=true)(h2:∀ h:i<l.length,eA l[i].aV a=false):eS l a=i:=by
 simp only[eS];by_cases hlt:i<l.length
 ·refine (List.findIdx_eq hlt).2 ⟨by rw[h2 hlt];rfl,fun j hj =>?_⟩;rw[h1 j (by omega) hj];rfl
 ·have e:i=l.length:=by omega
  rw[e];refine List.findIdx_eq_length.2 fun x hx =>?_;obtain ⟨k,hk,rfl⟩:=List.getElem_of_mem hx;rw[h1 k hk (by omega)];rfl
theorem vO{l:List ah}(hs:og l)(a:Item):im l a=true↔∃ h:eS l a<l.length,(l[eS l a]).aV=a:=by
 constructor
 ·intro h;simp only[im,List.any_eq_true,decide_eq_true_eq] at h;obtain ⟨x,hx,rfl⟩:=h;obtain ⟨k,hk,rfl⟩:=List.getElem_of_mem hx;have h1:eS l l[k].aV=k:=wJ (by omega) (fun j hj hjk=>xr hs hjk hk) (fun _=>pR _);exact ⟨by omega,by simp only[h1]⟩
 ·rintro ⟨h1,h2⟩;simp only[im,List.any_eq_true,decide_eq_true_eq];exact ⟨_,zw3 h1,h2⟩
theorem Gy(l:List ah)(a:Item)(hs:og l)(hl:l.length≤1000):aK Tryz.prog 138 [enc l,enc a,.func 139 []] (.tuple [enc (eS l a:Int),enc (im l a)]):=by
 refine aK.bJ Tryz.func138 IS Ke LI (t7 rfl) (fun hwf W0 bC E1 =>?_);simp only[zc,DM,bA,zz3,Nat.reduceAdd];clear hwf;have R:=ak
 repeat' ((first |(with_reducible refine .guard (fun hb =>?_) (fun hb =>?_) <;>try simp only[hb])|refine U.au (by decide +kernel) rfl fun K hK =>?_|(refine .aq [0,1,2,4,6,7,8,9,10,11,17,31] hK ?_;clear hK K)|(with_reducible refine .done (hK _ ?_);clear hK K)|refine U.of rfl ?_|(with_reducible refine aj.ar (fun h =>?_) (fun h =>?_) <;>try simp only[h])) <;>try simp only[av,R,simprocAttr])
 all_goals clear R
 refine U.loop (fun s:Nat×Nat=>al [(0,enc l),(2,.func 139 []),(4,.ptr 4 []),(8,.int .i64 l.length),(9,.int .i64 s.1),(10,.int .i64 s.2)] [(4,.box (enc a))]) (fun s=>s.1≤s.2∧s.2≤l.length∧(∀ k (h:k<l.length),k<s.1→eA l[k].aV a=true)∧∀ k (h:k<l.length),s.2≤k→eA l[k].aV a=false) (fun s=>s.2-s.1) (0,l.length) ⟨zw7 _,zz8 _,fun k _ hk=>by omega,fun k h1 h2=>by simp only at h2;omega⟩ ?_ ?_
 ·refine bn.bZ ?_ ?_ ?_ ?_ <;>simp[bK,bP,bO,bF,aw,bI,cL,I.only,I.cB,ai.only,bt]
  all_goals rfl
 rintro ⟨i,j⟩ ⟨h1,h2,h3,h4⟩;simp only at h1 h2 h3 h4 ⊢;by_cases hlt:i<j
 ·have hc:=eB hlt;have w1:=acv i j (by omega);have w2:=Zo (x:=i+j) (by omega);obtain ⟨h,hh⟩:∃ h,h=(i+j) / 2:=⟨_,rfl⟩
  have w5:=acw (n:=h) (by omega);have hhl:h<l.length:=by omega
  have he:=fun A=>dQ (A:=A) 8 hhl rfl;have hn:=Lm l[h].aV a;have hw:=dU (i:=h) (by omega);have f139:=xS l[h] a;rcases hb:eA l[h].aV a
  ·rw[hb] at hn;have hlo:∀ k (h':k<l.length),h≤k→eA l[k].aV a=false:=fun k hkl hk=>by
    cases hbk:eA l[k].aV a with
    |false=>rfl
    |true =>
     by_cases e:k=h
     ·subst e;rw[hb] at hbk;cases hbk
     ·have:=uS (xr hs (show h<k by omega) hkl) hbk;rw[this] at hb;cases hb
   clear hb;generalize l[h]=r at *;have R:=y6 @hc (y6 @w1 (y6 @w2 (y6 @w5 (y6 @he (y6 @hn (y6 @hw (y6 @CG (y6 @we (y6 @CF (y6 @gN ak))))))))))
   repeat' ((first |(with_reducible refine .guard (fun hb =>?_) (fun hb =>?_) <;>try simp only[hb])|refine U.au (by decide +kernel) rfl fun K hK =>?_|refine .flat _ (f139) rfl ?_|(refine .aq [0,1,2,4,6,7,8,9,10,11,17,31] hK ?_;clear hK K)|(with_reducible refine .done (hK _ ?_);clear hK K)|refine U.of rfl ?_|(with_reducible refine aj.ar (fun h =>?_) (fun h =>?_) <;>try simp only[h])) <;>try simp only[av,R,←hh,zy2,simprocAttr])
   all_goals clear R
   refine ⟨(i,h),⟨by simp only;omega,by simp only;omega,h3,hlo⟩,by simp only;omega,?_⟩;clear hlo;refine bn.bZ ?_ ?_ ?_ ?_ <;>simp[bK,bP,bO,bF,aw,bI,cL,I.only,I.cB,ai.only,bt]
   all_goals rfl
  ·rw[hb] at hn;have hhi:∀ k (h':k<l.length),k<h+1→eA l[k].aV a=true:=fun k hkl hk=>by
    by_cases e:k=h
    ·subst e;exact hb
    ·cases hbk:eA l[k].aV a with
     |true=>rfl
     |false =>
      have:=uS (xr hs (show k<h by omega) hhl) hb;rw[this] at hbk;cases hbk
   clear hb;generalize l[h]=r at *;have R:=y6 @hc (y6 @w1 (y6 @w2 (y6 @w5 (y6 @he (y6 @hn (y6 @hw (y6 @CG (y6 @we (y6 @CF (y6 @gN ak))))))))))
   repeat' ((first |(with_reducible refine .guard (fun hb =>?_) (fun hb =>?_) <;>try simp only[hb])|refine U.au (by decide +kernel) rfl fun K hK =>?_|refine .flat _ (f139) rfl ?_|(refine .aq [0,1,2,4,6,7,8,9,10,11,17,31] hK ?_;clear hK K)|(with_reducible refine .done (hK _ ?_);clear hK K)|refine U.of rfl ?_|(with_reducible refine aj.ar (fun h =>?_) (fun h =>?_) <;>try simp only[h])) <;>try simp only[av,R,←hh,zy2,simprocAttr])
   all_goals clear R
   refine ⟨(h+1,j),⟨by simp only;omega,h2,hhi,h4⟩,by simp only;omega,?_⟩;clear hhi;refine bn.bZ ?_ ?_ ?_ ?_ <;>simp[bK,bP,bO,bF,aw,bI,cL,I.only,I.cB,ai.only,bt]
   all_goals rfl
 ·have hij:i=j:=by omega
  subst hij;have hc:=eX hlt;have hp:eS l a=i:=wJ h2 h3 fun h=>h4 i h (zz8 _);have hh:=vO hs a;rw[hp];by_cases hil:i<l.length
  ·have hc2:=eB hil;have he:=fun A=>dQ (A:=A) 8 hil rfl;have hz:=Ln l[i].aV a;have hhz:im l a=decide (l[i].aV=a):=by
    rw[Bool.eq_iff_iff,hh,decide_eq_true_eq];constructor
    ·rintro ⟨_,e⟩;simp only[hp] at e;exact e
    ·intro e;exact ⟨by omega,by simp only[hp];exact e⟩
   have f139:=xS l[i] a;rw[hhz];clear hhz h3 h4;generalize l[i]=r at *;have R:=y6 @hc (y6 @hc2 (y6 @he (y6 @hz (y6 @gN ak))))
   repeat' ((first |(with_reducible refine .guard (fun hb =>?_) (fun hb =>?_) <;>try simp only[hb])|refine U.au (by decide +kernel) rfl fun K hK =>?_|refine .flat _ (f139) rfl ?_|(refine .aq [0,1,2,4,6,7,8,9,10,11,17,31] hK ?_;clear hK K)|(with_reducible refine .done (hK _ ?_);clear hK K)|refine U.of rfl ?_|(with_reducible refine aj.ar (fun h =>?_) (fun h =>?_) <;>try simp only[h])) <;>try simp only[av,R,zy2,simprocAttr])
   all_goals clear R
   all_goals rfl
  ·have hc2:=eX hil;have hhz:im l a=false:=by
    cases q:im l a
    ·rfl
    ·obtain ⟨h,_⟩:=hh.1 q;omega
   rw[hhz];have R:=y6 @hc (y6 @hc2 ak)
   repeat' ((first |(with_reducible refine .guard (fun hb =>?_) (fun hb =>?_) <;>try simp only[hb])|refine U.au (by decide +kernel) rfl fun K hK =>?_|(refine .aq [0,1,2,4,6,7,8,9,10,11,17,31] hK ?_;clear hK K)|(with_reducible refine .done (hK _ ?_);clear hK K)|refine U.of rfl ?_|(with_reducible refine aj.ar (fun h =>?_) (fun h =>?_) <;>try simp only[h])) <;>try simp only[av,R,simprocAttr])
   all_goals clear R
   all_goals rfl
theorem G4(l:List ah)(a:Item)(hs:og l)(hl:l.length≤1000):aK Tryz.prog 94 [enc (⟨l⟩:dF),enc a] (.tuple [enc (eS l a:Int),enc (im l a)]):=by
 have hF:=Gy l a hs hl;refine aK.bJ Tryz.func94 JK K6 MB (t7 rfl) (fun hwf W0 bC E1 =>?_);simp only[zX,EK,bA,zz3];clear hwf;have R:=ak
 repeat' ((first |refine U.au (by decide +kernel) rfl fun K hK =>?_|refine .lead _ (hF) ?_|(refine .aq [0,1,2,3,4,5] hK ?_;clear hK K)|(with_reducible refine .done (hK _ ?_);clear hK K)|refine U.of rfl ?_|(with_reducible refine aj.ar (fun h =>?_) (fun h =>?_) <;>try simp only[h])) <;>try simp only[av,R,simprocAttr])
 all_goals clear R
 all_goals rfl
def lE(x:ah):List ah→Nat→Int
 | [],_=>-1
 |r::l,i=>if x=r then (i:Int) else lE x l (i+1)
theorem B4(x:ah):∀ (l:List ah) (i:Nat),decide (lE x l i≥0)=decide (x∈l)
 | [],i=>by simp[lE]
 |r::l,i=>by
  rw[lE];by_cases h:x=r
  ·rw[if_pos h];subst h;simp
  ·rw[if_neg h,B4 x l (i+1)];simp[h]
theorem GF(l:List ah)(x:ah)(hl:l.length≤4000000000000):aK Tryz.prog 159 [enc l,enc x] (enc (lE x l 0)):=by
 refine aK.bJ Tryz.func159 I2 Km LQ (t7 rfl) (fun hwf W0 bC E1 =>?_);simp only[zj,DU,bA,zz3];clear hwf;have R:=ak
 repeat' ((first |refine U.au (by decide +kernel) rfl fun K hK =>?_|(refine .aq [0,1,3,4,5,7,8,9,16] hK ?_;clear hK K)|(with_reducible refine .done (hK _ ?_);clear hK K)|refine U.of rfl ?_|(with_reducible refine aj.ar (fun h =>?_) (fun h =>?_) <;>try simp only[h])) <;>try simp only[av,R,simprocAttr])
 all_goals clear R
 refine U.loop (fun i:Nat=>al [(0,enc l),(3,.ptr 3 []),(7,.int .i64 l.length),(8,.int .i64 i)] [(3,.box (enc x))]) (fun i=>i≤l.length∧lE x l 0=lE x (l.drop i) i) (fun i=>l.length-i) 0 ⟨zw7 _,by simp⟩ ?_ ?_
 ·refine bn.bZ ?_ ?_ ?_ ?_ <;>simp[bK,bP,bO,bF,aw,bI,cL,I.only,ai.only,bt]
  all_goals rfl
 rintro i ⟨hi,heq⟩;rw[heq];by_cases hlt:i<l.length
 ·have hlc:=eB hlt;have he:=fun A=>dQ (A:=A) 8 hlt rfl;have hw:=dU (i:=i) (by omega);have hd:=List.drop_eq_getElem_cons hlt;rw[hd,lE] at heq ⊢;generalize l[i]=r at *;by_cases q:x=r
  ·rw[if_pos q];have q1:decide (x=r)=true:=decide_eq_true q;have R:=y6 @hlc (y6 @he (y6 @hw (y6 @q1 ak)))
   repeat' ((first |refine U.au (by decide +kernel) rfl fun K hK =>?_|(refine .aq [0,1,3,4,5,7,8,9,16] hK ?_;clear hK K)|(with_reducible refine .done (hK _ ?_);clear hK K)|refine U.of rfl ?_|(with_reducible refine aj.ar (fun h =>?_) (fun h =>?_) <;>try simp only[h])) <;>try simp only[av,R,simprocAttr])
   all_goals clear R
   all_goals rfl
  ·rw[if_neg q] at heq ⊢;have q1:decide (x=r)=false:=decide_eq_false q;have R:=y6 @hlc (y6 @he (y6 @hw (y6 @q1 ak)))
   repeat' ((first |refine U.au (by decide +kernel) rfl fun K hK =>?_|(refine .aq [0,1,3,4,5,7,8,9,16] hK ?_;clear hK K)|(with_reducible refine .done (hK _ ?_);clear hK K)|refine U.of rfl ?_|(with_reducible refine aj.ar (fun h =>?_) (fun h =>?_) <;>try simp only[h])) <;>try simp only[av,R,simprocAttr])
   all_goals clear R
   refine ⟨i+1,⟨by omega,rfl⟩,by omega,?_⟩;clear hd heq;refine bn.bZ ?_ ?_ ?_ ?_ <;>simp[bK,bP,bO,bF,aw,bI,cL,I.only,ai.only,bt]
   all_goals rfl
 ·have hlc:=eX hlt;rw[List.drop_eq_nil_of_le (by omega),lE];have R:=y6 @hlc ak
  repeat' ((first |refine U.au (by decide +kernel) rfl fun K hK =>?_|(refine .aq [0,1,3,4,5,7,8,9,16] hK ?_;clear hK K)|(with_reducible refine .done (hK _ ?_);clear hK K)|refine U.of rfl ?_|(with_reducible refine aj.ar (fun h =>?_) (fun h =>?_) <;>try simp only[h])) <;>try simp only[av,R,simprocAttr])
  all_goals clear R
  all_goals rfl
theorem Gw(l:List ah)(x:ah)(hl:l.length≤4000000000000):aK Tryz.prog 136 [enc l,enc x] (enc (decide (x∈l))):=by
 refine aK.bJ Tryz.func136 IP Kc LG (t7 rfl) (fun hwf W0 bC E1 =>?_);simp only[za,DK,bA,zz3];clear hwf;have f:=GF l x hl;have h:=B4 x l 0;have R:=y6 @h ak
 repeat' ((first |refine U.au (by decide +kernel) rfl fun K hK =>?_|refine .flat _ (f) rfl ?_|(refine .aq [0,1,3,4] hK ?_;clear hK K)|(with_reducible refine .done (hK _ ?_);clear hK K)|refine U.of rfl ?_|(with_reducible refine aj.ar (fun h =>?_) (fun h =>?_) <;>try simp only[h])) <;>try simp only[av,R,simprocAttr])
 all_goals clear R
 all_goals rfl
def gE(l:List ah):Item:=match l.getLast? with
 |none=>⟨-1,0⟩
 |some a=>a.aV
theorem acf(l:List ah)(r:ah):iG l r=(decide (r.aV=⟨(gE l).aT,(gE l).no+1⟩)||(!decide (r.aT≤(gE l).aT) && !(r.no != 0))):=by
 have e:∀ p:Item,decide ((r.aT=p.aT∧r.no=p.no+1)∨(p.aT<r.aT∧r.no=0))=(decide (r.aV=⟨p.aT,p.no+1⟩)||(!decide (r.aT≤p.aT) && !(r.no != 0))):=fun p=>by
  rw[Bool.eq_iff_iff];simp[ah.aV]
 rcases h:l.getLast? with _ | a
 ·have h1:iG l r=decide ((r.aT=-1∧r.no=1)∨(-1<r.aT∧r.no=0)):=by rw[iG,h]
  have h2:gE l=⟨-1,0⟩:=by rw[gE,h]
  rw[h1,h2];exact e ⟨-1,0⟩
 ·have h1:iG l r=decide ((r.aT=a.aT∧r.no=a.no+1)∨(a.aT<r.aT∧r.no=0)):=by rw[iG,h]
  have h2:gE l=a.aV:=by rw[gE,h]
  rw[h1,h2];exact e a.aV
def fj(l:List ah):Bool:=fp (fun out r=>bm r&&iG out r) [] l&&decide (l.length≤60)
theorem yr{aS:List ah→ah→Bool}{l:List ah}{i:Nat}(h:i<l.length):fp aS (l.take i) (l.drop i)=(aS (l.take i) l[i]&&fp aS (l.take (i+1)) (l.drop (i+1))):=by
 rw[List.drop_eq_getElem_cons h,fp,←iW h]
theorem AN:I.agg [enc (⟨0,0⟩:Item),.int .i64 0,.int .i64 0,.int .i64 0,enc (⟨0,0⟩:Item),.ay ⟨#[]⟩]=enc (default:ah):=rfl
theorem FK:(∀ A n b rest (q r:Item),dT A (some 2) n [] b (enc q) rest (some (enc r))=aA rest (A.aN n (.box (enc q))))∧fG [.int .i64 0,.int .i64 0] [(0,.int .i64 (-1))]=some [.int .i64 (-1),.int .i64 0]∧I.agg [.int .i64 (-1),.int .i64 0]=enc (⟨-1,0⟩:Item) ∧
  (∀ (x:Item),(I.agg [.int .i64 x.aT,.int .i64 (x.no+1)])=enc (⟨x.aT,x.no+1⟩:Item)) :=
 ⟨fun A n b rest q r=>by rw[fg (eW _) (by rw[ik];rfl) ((eh _).trans (eh _).symm),ff],rfl,rfl,fun _=>rfl⟩
theorem aaL{l:List ah}{i:Nat}(h:i<l.length):gE (l.take (i+1))=l[i].aV:=by
 rw[gE,iW h,List.getLast?_concat]
theorem aaM{l:List ah}(h:∀ r∈l,bm r=true):-1≤(gE l).aT∧(gE l).aT≤5∧0≤(gE l).no∧(gE l).no≤9999:=by
 rw[gE];cases e:l.getLast? with
 |none=>simp
 |some a =>
  have:=qJ (qK (h a (List.mem_of_getLast? e)));simp only[ah.aV];omega
theorem pI(l:List ah)(hl:l.length≤4000000000000):aK Tryz.prog 92 [enc (⟨l⟩:dF)] (enc (fj l)):=by
 refine aK.bJ Tryz.func92 JJ K5 MA (t7 rfl) (fun hwf W0 bC E1 =>?_);simp only[zW,EJ,bA];clear hwf;have R:=ak
 repeat' ((first |(with_reducible refine .guard (fun hb =>?_) (fun hb =>?_) <;>try simp only[hb])|refine U.au (by decide +kernel) rfl fun K hK =>?_|(refine .aq [0,1,2,3,4,5,7,8,9,10,16,19,49] hK ?_;clear hK K)|(with_reducible refine .done (hK _ ?_);clear hK K)|refine U.of rfl ?_|(with_reducible refine aj.ar (fun h =>?_) (fun h =>?_) <;>try simp only[h])) <;>try simp only[av,R,simprocAttr])
 all_goals clear R
 refine U.loop (fun i:Nat=>al [(1,.ptr 1 []),(7,enc l),(8,.int .i64 l.length),(9,.int .i64 i)] [(1,.box (enc (⟨l⟩:dF)))]) (fun i=>i≤l.length∧(∀ r∈l.take i,bm r=true)∧fj l=(fp (fun out r=>bm r&&iG out r) (l.take i) (l.drop i)&&decide (l.length≤60))) (fun i=>l.length-i) 0 ⟨zw7 _,by simp,rfl⟩ ?_ ?_
 ·refine bn.bZ ?_ ?_ ?_ ?_ <;>simp[bK,bP,bO,bF,aw,bI,cL,I.only,ai.only,bt]
  all_goals rfl
 rintro i ⟨hi,hk,heq⟩;rw[heq];by_cases hlt:i<l.length
 ·have hlc:=eB hlt;have he:=fun A=>dQ (A:=A) 8 hlt rfl;have hw:=dU (i:=i) (by omega);have hnx:=tr hlt hk;have hpi:=aaM hk;have hst:=acf (l.take i) l[i];rw[yr hlt] at heq ⊢;have hpz:i=0→gE (l.take i)=⟨-1,0⟩:=fun e=>by subst e;rfl
  have hps:∀ h:0<i,gE (l.take i)=(l[i-1]'(by omega)).aV:=fun h=>by
   have:=aaL (l:=l) (i:=i-1) (by omega)
   rwa [show i-1+1=i by omega] at this
  generalize l[i]=r at *;have f80:=pG r;cases q1:bm r
  ·rw[q1] at f80;have R:=y6 @hlc (y6 @he (y6 @hw (y6 @dY (y6 @ev ak))))
   repeat' ((first |(with_reducible refine .guard (fun hb =>?_) (fun hb =>?_) <;>try simp only[hb])|refine U.au (by decide +kernel) rfl fun K hK =>?_|refine .flat _ (f80) rfl ?_|(refine .aq [0,1,2,3,4,5,7,8,9,10,16,19,49] hK ?_;clear hK K)|(with_reducible refine .done (hK _ ?_);clear hK K)|refine U.of rfl ?_|(with_reducible refine aj.ar (fun h =>?_) (fun h =>?_) <;>try simp only[h])) <;>try simp only[av,R,simprocAttr])
   all_goals clear R
   all_goals rfl
  rw[q1] at f80;generalize gE (l.take i)=p at *;have hww:IntKind.i64.wrap (p.no+1)=p.no+1:=dE _ (by omega) (by omega);rw[hst] at heq ⊢;by_cases hz:0<i
  ·have hgt:decide ((i:Int)>0)=true:=decide_eq_true (by omega);have hpe:=fun A=>dQ (A:=A) (l:=l) (k:=i-1) 8 (by omega) rfl;have hw1:IntKind.i64.wrap ((i:Int)-1)=((i-1:Nat):Int):=by rw[dE _ (by omega) (by omega)];omega
   have hpm:=(hps hz).symm;clear hps hpz hst;generalize l[i-1]=q at *;cases c1:decide (r.aV=⟨p.aT,p.no+1⟩) <;>cases c2:decide (r.aT≤p.aT) <;>cases c3:(r.no != 0)
   all_goals
    rw[c1,c2,c3] at heq;have R:=y6 @hlc (y6 @he (y6 @hw (y6 @hgt (y6 @hpm (y6 @hpe (y6 @hw1 (y6 @hww (y6 @c1 (y6 @c2 (y6 @c3 (y6 @AN (y6 @dY (y6 @pW (y6 @ev (y6 @FK (y6 @oq ak))))))))))))))))
    repeat' ((first |(with_reducible refine .guard (fun hb =>?_) (fun hb =>?_) <;>try simp only[hb])|refine U.au (by decide +kernel) rfl fun K hK =>?_|refine .flat _ (f80) rfl ?_|(refine .aq [0,1,2,3,4,5,7,8,9,10,16,19,49] hK ?_;clear hK K)|(with_reducible refine .done (hK _ ?_);clear hK K)|refine U.of rfl ?_|(with_reducible refine aj.ar (fun h =>?_) (fun h =>?_) <;>try simp only[h])) <;>try simp only[av,R,simprocAttr])
    all_goals clear R
    all_goals first
     |rfl
     |(refine ⟨i+1,⟨by omega,hnx q1,by rfl⟩,by omega,?_⟩;clear heq hnx;(refine bn.bZ ?_ ?_ ?_ ?_ <;>simp[bK,bP,bO,bF,aw,bI,cL,I.only,ai.only,bt]);all_goals rfl)
  ·have hgt:decide ((i:Int)>0)=false:=decide_eq_false (by omega);have hpm:=(hpz (by omega)).symm;clear hps hpz hst;cases c1:decide (r.aV=⟨p.aT,p.no+1⟩) <;>cases c2:decide (r.aT≤p.aT) <;>cases c3:(r.no != 0)
   all_goals
    rw[c1,c2,c3] at heq;have R:=y6 @hlc (y6 @he (y6 @hw (y6 @hgt (y6 @hpm (y6 @hww (y6 @c1 (y6 @c2 (y6 @c3 (y6 @AN (y6 @dY (y6 @pW (y6 @ev (y6 @FK (y6 @oq ak))))))))))))))
    repeat' ((first |(with_reducible refine .guard (fun hb =>?_) (fun hb =>?_) <;>try simp only[hb])|refine U.au (by decide +kernel) rfl fun K hK =>?_|refine .flat _ (f80) rfl ?_|(refine .aq [0,1,2,3,4,5,7,8,9,10,16,19,49] hK ?_;clear hK K)|(with_reducible refine .done (hK _ ?_);clear hK K)|refine U.of rfl ?_|(with_reducible refine aj.ar (fun h =>?_) (fun h =>?_) <;>try simp only[h])) <;>try simp only[av,R,simprocAttr])
    all_goals clear R
    all_goals first
     |rfl
     |(refine ⟨i+1,⟨by omega,hnx q1,by rfl⟩,by omega,?_⟩;clear heq hnx;(refine bn.bZ ?_ ?_ ?_ ?_ <;>simp[bK,bP,bO,bF,aw,bI,cL,I.only,ai.only,bt]);all_goals rfl)
 ·have hlc:=eX hlt;rw[List.drop_eq_nil_of_le (by omega),fp];have hle:decide ((l.length:Int)≤60)=decide (l.length≤60):=by rw[decide_eq_decide];omega
  have R:=y6 @hlc (y6 @hle ak)
  repeat' ((first |(with_reducible refine .guard (fun hb =>?_) (fun hb =>?_) <;>try simp only[hb])|refine U.au (by decide +kernel) rfl fun K hK =>?_|(refine .aq [0,1,2,3,4,5,7,8,9,10,16,19,49] hK ?_;clear hK K)|(with_reducible refine .done (hK _ ?_);clear hK K)|refine U.of rfl ?_|(with_reducible refine aj.ar (fun h =>?_) (fun h =>?_) <;>try simp only[h])) <;>try simp only[av,R,simprocAttr])
  all_goals clear R
  all_goals rfl
theorem FX(l:List ah)(m:Nat):(l++List.replicate m cH).take l.length=l:=List.take_left
theorem uA(l:List ah)(hl:l.length≤1000):aK Tryz.prog 93 [enc l] (enc l):=by
 refine aK.bJ Tryz.func93 Ah An Ax (t7 rfl) (fun hwf W0 bC E1 =>?_);simp only[uZ,wQ,bA];refine .di (by decide +kernel) fun K hK =>?_;simp only[vG,aU,simprocAttr];refine .done (hK _ ?_);clear hK K;refine U.seq (U.seq ?_);by_cases hn:l=[]
 ·subst hn;refine .fQ (by decide +kernel) fun K hK =>?_;simp only[qi,aU,simprocAttr];simp only[uf,List.isEmpty_nil,oW];refine .any rfl fun b _ =>?_
  try simp only[aU,simprocAttr]
  generalize (b==0)=t;cases t
  ·refine .done (hK _ ?_);clear hK K;try simp only[cg]
   refine U.fM ?_;simp only[aj,aU,simprocAttr];refine ⟨fun h =>?_,fun h =>?_⟩
   ·cases h
   refine U.skip ?_;try simp only[cg,simprocAttr]
   refine .di (by decide +kernel) fun K hK =>?_;simp only[qj,aU,simprocAttr]
   try simp only[fo,lv,aU,simprocAttr]
   refine .done (hK _ ?_);clear hK K;refine U.ret ?_;simp only[aU,simprocAttr]
   all_goals rfl
  ·refine .done (hK _ ?_);clear hK K;refine U.fM ?_;simp only[aj,aU,simprocAttr];refine ⟨fun h =>?_,fun h =>?_⟩
   ·refine .di (by decide +kernel) fun K hK =>?_;simp only[vH,aU,simprocAttr];refine .done (hK _ ?_);clear hK K;refine U.ret ?_;simp only[cg,aU,simprocAttr]
    all_goals rfl
   ·cases h
 ·have hu:jv (enc l)=false:=by rw[uf];simpa using hn
  refine .fQ (by decide +kernel) fun K hK =>?_;simp only[qi,aU,simprocAttr]
  try simp only[hu,CL _ l hn,aU,simprocAttr]
  refine .done (hK _ ?_);clear hK K;try simp only[cg]
  refine U.fM ?_;simp only[aj,aU,simprocAttr];refine ⟨fun h =>?_,fun h =>?_⟩
  ·cases h
  refine U.skip ?_;try simp only[cg,simprocAttr]
  refine .di (by decide +kernel) fun K hK =>?_;simp only[qj,aU,simprocAttr]
  try simp only[fo,lv,aU,simprocAttr]
  refine ba.uJ cH rfl hn rfl (by omega) (by simp only[maxLen];omega) fun m =>?_
  try simp only[aU,simprocAttr]
  refine .done (hK _ ?_);clear hK K;refine U.ret ?_;simp only[aU,simprocAttr]
  try simp only[nh (α:=ah) (sz:=8) rfl,FX,aU,simprocAttr]
def ij(l:List ah):Int:=if fj l then 0 else 81
theorem GO(l:List ah)(hl:l.length≤4000000000000):aK Tryz.prog 45 [enc (⟨l⟩:dF)] (enc (ij l)):=by
 refine aK.bJ Tryz.func45 Jj KG Ma (t7 rfl) (fun hwf W0 bC E1 =>?_);simp only[zD,Ei,bA];clear hwf;have f:=pI l hl;simp only[ij];cases h:fj l
 ·rw[h] at f;have R:=ak
  repeat' ((first |refine U.au (by decide +kernel) rfl fun K hK =>?_|refine .flat _ (f) rfl ?_|(refine .aq [0,1,2,5] hK ?_;clear hK K)|(with_reducible refine .done (hK _ ?_);clear hK K)|refine U.of rfl ?_|(with_reducible refine aj.ar (fun h =>?_) (fun h =>?_) <;>try simp only[h])) <;>try simp only[av,R,simprocAttr])
  all_goals clear R
  all_goals rfl
 ·rw[h] at f;have R:=ak
  repeat' ((first |refine U.au (by decide +kernel) rfl fun K hK =>?_|refine .flat _ (f) rfl ?_|(refine .aq [0,1,2,5] hK ?_;clear hK K)|(with_reducible refine .done (hK _ ?_);clear hK K)|refine U.of rfl ?_|(with_reducible refine aj.ar (fun h =>?_) (fun h =>?_) <;>try simp only[h])) <;>try simp only[av,R,simprocAttr])
  all_goals clear R
  all_goals rfl
def B6(g:ah):cd:=fun r os'=>∃ q,r=.view 25 [] 8 0 1∧os'=fk 25 [g] q
theorem FB(A:ab):gH A 8 (some (.int .i64 0)) none none (.c0 8)=some (.slice 8 [])∧gH A 8 (some (.int .i64 0)) none none (.nils 8)=some (.slice 8 []):=by
 constructor <;>simp[gH,hJ,gy]
theorem Gi(x:I)(hx:x=.nils 8∨x=.c0 8)(g:ah):eU Tryz.prog 101 [x,enc (0:Int),enc [g]] [] (B6 g):=by
 rcases hx with rfl | rfl
 ·refine eU.bJ Tryz.func101 u1 u4 vc (t7 rfl) (t7 rfl) (fun m hm=>by simp[aw,aG] at hm) (fun hwf W0 bC E1 =>?_);simp only[rY,tF,bA,zz3,Nat.reduceAdd];refine .di (by decide +kernel) fun K hK =>?_;simp only[si,aU];refine .done (hK _ ?_);clear hK K;refine .di (by decide +kernel) fun K hK =>?_;simp only[sj,aU,Nat.reduceEqDiff,reduceIte]
  try simp only[zy8,(FB _).2,aU]
  refine .done (hK _ ?_);clear hK K;refine .di (by decide +kernel) fun K hK =>?_;simp only[sk,aU,Nat.reduceEqDiff,reduceIte]
  try simp only[typR,jw,j9,jd,aU,Nat.reduceEqDiff,reduceIte,Int.reduceBNe,Int.reduceBEq]
  refine .done (hK _ ?_);clear hK K;refine U.seq (U.seq ?_);refine .fQ (by decide +kernel) fun K hK =>?_;simp only[sn,aU,Nat.reduceEqDiff,reduceIte]
  try simp only[typR,jw,j9,jd,aU,Nat.reduceEqDiff,reduceIte,Int.reduceBNe,Int.reduceBEq]
  refine .done (hK _ ?_);clear hK K;try simp only[cg]
  refine U.fM ?_;simp only[aj,aU,Nat.reduceEqDiff,reduceIte];refine ⟨fun h =>?_,fun h =>?_⟩
  ·first | cases h | simp at h
  refine U.skip ?_;try simp only[cg]
  refine .di (by decide +kernel) fun K hK =>?_;simp only[sq,aU,Nat.reduceEqDiff,reduceIte]
  try simp only[typR,jw,j9,jd,aU,Nat.reduceEqDiff,reduceIte,Int.reduceBNe,Int.reduceBEq]
  refine .done (hK _ ?_);clear hK K;refine U.seq (U.seq ?_);refine .fQ (by decide +kernel) fun K hK =>?_;simp only[sr,aU,Nat.reduceEqDiff,reduceIte,Int.reduceBEq]
  try simp only[typR,jw,j9,jd,aU,Nat.reduceEqDiff,reduceIte,Int.reduceBNe,Int.reduceBEq]
  refine .done (hK _ ?_);clear hK K;try simp only[cg]
  refine U.fM ?_;simp only[aj,aU,Nat.reduceEqDiff,reduceIte];refine ⟨fun h =>?_,fun h =>?_⟩
  case refine_2.refine_2=>first | cases h | simp at h
  refine .di (by decide +kernel) fun K hK =>?_;simp only[qh,aU,Nat.reduceEqDiff,reduceIte]
  try simp only[lv]
  refine ba.HA (esz:=8) cH (l:=[g]) rfl (by simp) rfl (by simp) (by simp[maxLen]) fun q =>?_
  try simp only[aU,Nat.reduceEqDiff,reduceIte]
  refine .done (hK _ ?_);clear hK K;refine U.ret ?_;simp only[cg,iR];exact ⟨fk 25 [g] q,[.view 25 [] 8 0 1],mz rfl (fun p=>fZ p _),⟨⟨_,rfl,.inl ⟨rfl,rfl,rfl⟩⟩,trivial⟩,q,rfl,rfl⟩
 ·refine eU.bJ Tryz.func101 u1 u4 vc (t7 rfl) (t7 rfl) (fun m hm=>by simp[aw,aG] at hm) (fun hwf W0 bC E1 =>?_);simp only[rY,tF,bA,zz3,Nat.reduceAdd];refine .di (by decide +kernel) fun K hK =>?_;simp only[si,aU];refine .done (hK _ ?_);clear hK K;refine .di (by decide +kernel) fun K hK =>?_;simp only[sj,aU,Nat.reduceEqDiff,reduceIte]
  try simp only[zy8,(FB _).1,aU]
  refine .done (hK _ ?_);clear hK K;refine .di (by decide +kernel) fun K hK =>?_;simp only[sk,aU,Nat.reduceEqDiff,reduceIte]
  try simp only[typR,jw,j9,jd,aU,Nat.reduceEqDiff,reduceIte,Int.reduceBNe,Int.reduceBEq]
  refine .done (hK _ ?_);clear hK K;refine U.seq (U.seq ?_);refine .fQ (by decide +kernel) fun K hK =>?_;simp only[sn,aU,Nat.reduceEqDiff,reduceIte]
  try simp only[typR,jw,j9,jd,aU,Nat.reduceEqDiff,reduceIte,Int.reduceBNe,Int.reduceBEq]
  refine .done (hK _ ?_);clear hK K;try simp only[cg]
  refine U.fM ?_;simp only[aj,aU,Nat.reduceEqDiff,reduceIte];refine ⟨fun h =>?_,fun h =>?_⟩
  ·first | cases h | simp at h
  refine U.skip ?_;try simp only[cg]
  refine .di (by decide +kernel) fun K hK =>?_;simp only[sq,aU,Nat.reduceEqDiff,reduceIte]
  try simp only[typR,jw,j9,jd,aU,Nat.reduceEqDiff,reduceIte,Int.reduceBNe,Int.reduceBEq]
  refine .done (hK _ ?_);clear hK K;refine U.seq (U.seq ?_);refine .fQ (by decide +kernel) fun K hK =>?_;simp only[sr,aU,Nat.reduceEqDiff,reduceIte,Int.reduceBEq]
  try simp only[typR,jw,j9,jd,aU,Nat.reduceEqDiff,reduceIte,Int.reduceBNe,Int.reduceBEq]
  refine .done (hK _ ?_);clear hK K;try simp only[cg]
  refine U.fM ?_;simp only[aj,aU,Nat.reduceEqDiff,reduceIte];refine ⟨fun h =>?_,fun h =>?_⟩
  case refine_2.refine_2=>first | cases h | simp at h
  refine .di (by decide +kernel) fun K hK =>?_;simp only[qh,aU,Nat.reduceEqDiff,reduceIte]
  try simp only[lv]
  refine ba.uJ (esz:=8) cH (l:=[g]) rfl (by simp) rfl (by simp) (by simp[maxLen]) fun q =>?_
  try simp only[aU,Nat.reduceEqDiff,reduceIte]
  refine .done (hK _ ?_);clear hK K;refine U.ret ?_;simp only[cg,iR];exact ⟨fk 25 [g] q,[.view 25 [] 8 0 1],mz rfl (fun p=>fZ p _),⟨⟨_,rfl,.inl ⟨rfl,rfl,rfl⟩⟩,trivial⟩,q,rfl,rfl⟩
theorem dj.C4{aE:Bool}{ρ:List (Nat×Nat)}{k:Nat}{x:ai}{os0:List (Nat×ai)}{r c:I}(h1:∀ p,c.only p=true)(h2:aE=true→c.cX=true)(h3:r.only (aw [(k,.box c)])=true)(h4:aE=true→r.cX=true):dj aE ρ [(k,x)] os0 r [(k,.box c)]:=by
 refine ⟨fun m x h =>?_,fun m m' h h' _ =>?_,fun m h =>?_,fun m h h' =>?_,h3,h4⟩
 ·simp only[aG] at h;split at h
  ·simp only[v6] at h;subst h;exact ⟨h1 _,rfl,h2⟩
  ·cases h
 ·rw[fL.1 h,fL.1 h']
 ·rw[fL.1 h];exact fL.2 rfl
 ·rw[fL.1 h] at h';have:aw [(k,x)] k=true:=fL.2 rfl;rw[this] at h';cases h'
theorem dj.pz{aE:Bool}{ρ:List (Nat×Nat)}{k k' d d':Nat}{x:ai}{os0:List (Nat×ai)}{r c c':I}(hk:bo ρ k=d)(hk':bo ρ k'=d')(hd:d≠d')(hne:k≠k')(h1:∀ p,c.only p=true)(h2:aE=true→c.cX=true)(h1':∀ p,c'.only p=true)(h2':aE=true→c'.cX=true)
  (h3:r.only (aw [(k,.box c),(k',.box c')])=true) (h4:aE=true→r.cX=true) (h5:aG os0 d=none) (h6:d<1000000):dj aE ρ [(k',x)] os0 r [(k,.box c),(k',.box c')]:=by
 have pz:∀ m,aw [(k,ai.box c),(k',ai.box c')] m=true→m=k∨m=k':=fun m h=>by
  simp only[aw,aG] at h;split at h
  ·rename_i e;exact .inl e
  ·split at h
   ·rename_i e;exact .inr e
   ·cases h
 refine ⟨fun m y h =>?_,fun m m' h h' e =>?_,fun m h =>?_,fun m h h' =>?_,h3,h4⟩
 ·simp only[aG] at h;split at h
  ·simp only[v6] at h;subst h;exact ⟨h1 _,rfl,h2⟩
  ·split at h
   ·simp only[v6] at h;subst h;exact ⟨h1' _,rfl,h2'⟩
   ·cases h
 ·rcases pz m h with rfl | rfl <;>rcases pz m' h' with rfl | rfl
  ·rfl
  ·rw[hk,hk'] at e;exact absurd e hd
  ·rw[hk,hk'] at e;exact absurd e.symm hd
  ·rfl
 ·rw[fL.1 h];simp[aw,aG,Ne.symm hne]
 ·rcases pz m h with rfl | rfl
  ·rw[hk];exact ⟨h5,h6⟩
  ·have:aw [(m,x)] m=true:=fL.2 rfl;rw[this] at h';cases h'
def eM(l:List ah)(r:ah):List ah×Int :=
 if fj l=false then ([],81) else if bm r=false then ([],80)
 else if im l r.aV=true then (if l.getD (eS l r.aV) default=r then (l,0) else ([],82))
 else if (dN l r.aT:Int)<r.no then ([],83) else if l.length=60 then ([],2) else (fK l (eS l r.aV) r,0)
theorem rP{aS:List ah→ah→Bool} : ∀ {l out:List ah},fp (fun out r=>bm r&&aS out r) out l=true↔(∀ r∈l,bm r=true)∧fp aS out l=true
 | [],_=>by simp[fp]
 |r::l,out=>by
  simp only[fp,zz0,rP (l:=l),zw5,forall_eq_or_imp];constructor
  ·rintro ⟨⟨h1,h2⟩,h3,h4⟩;exact ⟨⟨h1,h3⟩,h2,h4⟩
  ·rintro ⟨⟨h1,h3⟩,h2,h4⟩;exact ⟨⟨h1,h2⟩,h3,h4⟩
structure G8 (l:List ah):Prop where
 ok:∀ r∈l,bm r=true
 rm:og l
 len:l.length≤60
 step:fp iG [] l=true
theorem wA{r:ah}(h:bm r=true):0≤r.aT∧0≤r.no:=by have:=qJ (qK h);omega
theorem jW{l:List ah}(h:fj l=true):G8 l:=by
 simp only[fj,zz0,decide_eq_true_eq] at h;obtain ⟨h1,h2⟩:=h;obtain ⟨h3,h4⟩:=rP.1 h1;refine ⟨h3,?_,h2,h4⟩;have:=yK l [] trivial (fun r hr=>wA (h3 r hr)) h4 List.Pairwise.nil;simpa using this
theorem gf:(∀ A n b rest,dT A (some 1) n [] b (.agg [.nils 8]) rest (some (.agg [.nils 8]))=aA rest (A.aN n (.box (.agg [.nils 8])))) ∧
  (∀ A n b rest m p lo k,dT A (some 1) n [] b (.agg [.view m p 8 lo k]) rest (some (.agg [.nils 8]))=aA rest (A.aN n (.box (.agg [.view m p 8 lo k])))) ∧
  (∀ A n b rest (l:List ah),dT A (some 1) n [] b (.agg [enc l]) rest (some (.agg [.nils 8]))=aA rest (A.aN n (.box (.agg [enc l])))) ∧
  (∀ l:List ah,fG [.nils 8] [(0,enc l)]=some [enc l])∧(∀ m p lo k,fG [.nils 8] [(0,.view m p 8 lo k)]=some [.view m p 8 lo k])∧(∀ l:List ah,bT (some 1) (.agg [enc l])=true)∧bT (some 1) (.agg [.nils 8])=true∧(∀ m p lo k,bT (some 1) (.agg [.view m p 8 lo k])=true) :=
 ⟨fun A n b rest=>by rw[fg (s:=some 1) (v:=.agg [.nils 8]) (old:=.agg [.nils 8]) rfl rfl rfl,ff],fun A n b rest m p lo k=>by rw[fg (s:=some 1) (v:=.agg [.view m p 8 lo k]) (old:=.agg [.nils 8]) rfl rfl rfl,ff],
  fun A n b rest l=>by rw[fg (s:=some 1) (v:=.agg [enc l]) (old:=.agg [.nils 8]) rfl rfl rfl,ff],fun _=>rfl,fun _ _ _ _=>rfl,fun _=>rfl,rfl,fun _ _ _ _=>rfl⟩
theorem x9(l:List ah)(r:ah)(hl:l.length≤4000000000000):aK Tryz.prog 44 [enc (⟨l⟩:dF),enc r] (.tuple [enc (⟨(eM l r).1⟩:dF),enc (eM l r).2]):=by
 refine aK.bJ Tryz.func44 Ji KF L9 (t7 rfl) (fun hwf W0 bC E1 =>?_);simp only[zC,Eg,bA,zz3];clear hwf;have f92:=pI l hl;simp only[eM];cases q1:fj l
 ·rw[q1] at f92;simp only[if_true];have R:=y6 @gf ak
  repeat' ((first |(with_reducible refine .guard (fun hb =>?_) (fun hb =>?_) <;>try simp only[hb])|refine U.au (by decide +kernel) rfl fun K hK =>?_|refine .flat _ (f92) rfl ?_|(refine .aq [0,1,2,3,4,5,6,7,8,13,25,40,43,56] hK ?_;clear hK K)|(with_reducible refine .done (hK _ ?_);clear hK K)|refine U.of rfl ?_|(with_reducible refine aj.ar (fun h =>?_) (fun h =>?_) <;>try simp only[h])) <;>try simp only[av,R,simprocAttr])
  all_goals clear R
  all_goals rfl
 rw[q1] at f92;have hb:=jW q1;have f80:=pG r;simp only[Bool.true_eq_false,if_false];cases q2:bm r
 ·rw[q2] at f80;simp only[if_true];have R:=y6 @gf ak
  repeat' ((first |(with_reducible refine .guard (fun hb =>?_) (fun hb =>?_) <;>try simp only[hb])|refine U.au (by decide +kernel) rfl fun K hK =>?_|refine .flat _ (f92) rfl ?_|refine .flat _ (f80) rfl ?_|(refine .aq [0,1,2,3,4,5,6,7,8,13,25,40,43,56] hK ?_;clear hK K)|(with_reducible refine .done (hK _ ?_);clear hK K)|refine U.of rfl ?_|(with_reducible refine aj.ar (fun h =>?_) (fun h =>?_) <;>try simp only[h])) <;>try simp only[av,R,simprocAttr])
  all_goals clear R
  all_goals rfl
 rw[q2] at f80;simp only[Bool.true_eq_false,if_false];have hlen:=hb.len;have f94:=G4 l r.aV hb.rm (by omega);have hpl:=aaI l r.aV;have hcl:=uA l (by omega);cases q3:im l r.aV
 rotate_left
 ·rw[q3] at f94;obtain ⟨hp,hat⟩:=(vO hb.rm r.aV).1 q3;simp only[if_true];have hg:l.getD (eS l r.aV) default=l[eS l r.aV]:=by simp[zz6,hp]
  rw[hg];have he:=fun A=>dQ (A:=A) 8 hp rfl;generalize l[eS l r.aV]=x at *;generalize eS l r.aV=p at *;by_cases q4:x=r
  ·have q4':decide (x=r)=true:=decide_eq_true q4;rw[if_pos q4];have R:=y6 @he (y6 @q4' (y6 @gf ak))
   repeat' ((first |(with_reducible refine .guard (fun hb =>?_) (fun hb =>?_) <;>try simp only[hb])|refine U.au (by decide +kernel) rfl fun K hK =>?_|refine .flat _ (f92) rfl ?_|refine .flat _ (f80) rfl ?_|refine .lead _ (f94) ?_|refine .lead _ (hcl) ?_|(refine .aq [0,1,2,3,4,5,6,7,8,13,25,40,43,56] hK ?_;clear hK K)|(with_reducible refine .done (hK _ ?_);clear hK K)|refine U.of rfl ?_|(with_reducible refine aj.ar (fun h =>?_) (fun h =>?_) <;>try simp only[h])) <;>try simp only[av,R,simprocAttr])
   all_goals clear R
   all_goals rfl
  ·have q4':decide (x=r)=false:=decide_eq_false q4;rw[if_neg q4];have R:=y6 @he (y6 @q4' (y6 @gf ak))
   repeat' ((first |(with_reducible refine .guard (fun hb =>?_) (fun hb =>?_) <;>try simp only[hb])|refine U.au (by decide +kernel) rfl fun K hK =>?_|refine .flat _ (f92) rfl ?_|refine .flat _ (f80) rfl ?_|refine .lead _ (f94) ?_|refine .lead _ (hcl) ?_|(refine .aq [0,1,2,3,4,5,6,7,8,13,25,40,43,56] hK ?_;clear hK K)|(with_reducible refine .done (hK _ ?_);clear hK K)|refine U.of rfl ?_|(with_reducible refine aj.ar (fun h =>?_) (fun h =>?_) <;>try simp only[h])) <;>try simp only[av,R,simprocAttr])
   all_goals clear R
   all_goals rfl
 rw[q3] at f94;simp only[zz4,if_false];have hin:qm l:=fun x hx=>jL (hb.ok x hx);have f100:=ur l hl hin;have hix:=sN l (jL q2);by_cases q5:(dN l r.aT:Int)<r.no
 ·have q5':decide ((dN l r.aT:Int)<r.no)=true:=decide_eq_true q5;rw[if_pos q5];have R:=y6 @hix (y6 @q5' (y6 @fR (y6 @gf ak)))
  repeat' ((first |(with_reducible refine .guard (fun hb =>?_) (fun hb =>?_) <;>try simp only[hb])|refine U.au (by decide +kernel) rfl fun K hK =>?_|refine .flat _ (f92) rfl ?_|refine .flat _ (f80) rfl ?_|refine .lead _ (f94) ?_|refine .lead _ (f100) ?_|(refine .aq [0,1,2,3,4,5,6,7,8,13,25,40,43,56] hK ?_;clear hK K)|(with_reducible refine .done (hK _ ?_);clear hK K)|refine U.of rfl ?_|(with_reducible refine aj.ar (fun h =>?_) (fun h =>?_) <;>try simp only[h])) <;>try simp only[av,R,simprocAttr])
  all_goals clear R
  all_goals rfl
 have q5':decide ((dN l r.aT:Int)<r.no)=false:=decide_eq_false q5;rw[if_neg q5];by_cases q6:l.length=60
 ·have q6':((l.length:Int)==60)=true:=by rw[beq_iff_eq];omega
  rw[if_pos q6];have R:=y6 @hix (y6 @q5' (y6 @q6' (y6 @fR (y6 @gf ak))))
  repeat' ((first |(with_reducible refine .guard (fun hb =>?_) (fun hb =>?_) <;>try simp only[hb])|refine U.au (by decide +kernel) rfl fun K hK =>?_|refine .flat _ (f92) rfl ?_|refine .flat _ (f80) rfl ?_|refine .lead _ (f94) ?_|refine .lead _ (f100) ?_|(refine .aq [0,1,2,3,4,5,6,7,8,13,25,40,43,56] hK ?_;clear hK K)|(with_reducible refine .done (hK _ ?_);clear hK K)|refine U.of rfl ?_|(with_reducible refine aj.ar (fun h =>?_) (fun h =>?_) <;>try simp only[h])) <;>try simp only[av,R,simprocAttr])
  all_goals clear R
  all_goals rfl
 have q6':((l.length:Int)==60)=false:=by rw[beq_eq_false_iff_ne];omega
 rw[if_neg q6];have hbs:gz 8 (some [enc r])=some (enc [r]):=ot 8 r rfl;have R:=y6 @hix (y6 @q5' (y6 @q6' (y6 @hbs (y6 @fR (y6 @gf ak)))))
 repeat' ((first |(with_reducible refine .guard (fun hb =>?_) (fun hb =>?_) <;>try simp only[hb])|(refine U.lN (gs:=vB) [101] [(2,[2]),(3,[3]),(4,[4]),(62,[2])] [0,1,3,4,5,2,6,7,8,9] (by decide +kernel) (dB.of (by simp[jE,bI,v8,I.only])) fun K hK =>?_;simp only[kc,vB,List.getD_cons_zero,List.getD_cons_succ,R,simprocAttr])|refine U.au (by decide +kernel) rfl fun K hK =>?_|refine .flat _ (f92) rfl ?_|refine .flat _ (f80) rfl ?_|refine .lead _ (f94) ?_|refine .lead _ (f100) ?_|(refine .aq [0,1,2,3,4,5,6,7,8,13,25,40,43,56] hK ?_;clear hK K)|(with_reducible refine .done (hK _ ?_);clear hK K)|refine U.of rfl ?_|(with_reducible refine aj.ar (fun h =>?_) (fun h =>?_) <;>try simp only[h])) <;>try simp only[av,R,simprocAttr])
 all_goals clear R
 obtain ⟨ao,hL⟩:∃ ao,ao=fK l (eS l r.aV) r:=⟨_,rfl⟩
 have hLn:l.length+1=ao.length:=by rw[hL,YA r hpl]
 have hfin:∀ q,jD 8 0 (l.length+1) (some ((ao++List.replicate q cH).map enc))=some (enc ao):=fun q=>by
  rw[nh (α:=ah) (sz:=8) rfl,hLn,FX]
 refine .bx [(7,64)] [enc l] (ox l) (rF l (by omega)) eF.nil ⟨.inl ⟨(gP _ _).symm,bt _ _,eW _⟩,trivial⟩ ?_ ?_
 ·rintro x os' (⟨_,h | h,rfl⟩ | ⟨_,k,rfl,rfl⟩)
  ·subst h;exact dj.nil (fun _=>rfl) (fun h=>by cases h)
  ·subst h;exact dj.nil (fun _=>rfl) (fun h=>by cases h)
  ·exact dj.th (fun p=>fZ p _) (fun h=>by cases h) rfl (fun h=>by cases h) rfl (by decide)
 rintro x os' (⟨hn,h,rfl⟩ | ⟨hn,k,rfl,rfl⟩)
 ·have hren:x.aR (bo [(7,64)])=x∧x.cn=true∧∀ q,x.only q=true:=by rcases h with rfl | rfl <;>exact ⟨by simp only[I.aR],rfl,fun _=>rfl⟩
  have hren2:x.aR (bo [(25,68)])=x:=by rcases h with rfl | rfl <;>simp only[I.aR]
  have hpos:eS l r.aV=0:=by rw[hn];rfl
  rw[hren.1,hpos]
  try simp only[kg,zy4,ak,aU,simprocAttr]
  refine .bx [(25,68)] [x,enc (0:Int),enc [r]] (B6 r) (Gi x h r) eF.nil ⟨.inl ⟨hren2.symm,hren.2.2 _,hren.2.1⟩,.inl ⟨rfl,rfl,rfl⟩,.inl ⟨(gP _ _).symm,bt _ _,eW _⟩,trivial⟩ ?_ ?_
  ·rintro x os' ⟨k,rfl,rfl⟩;exact dj.th (fun p=>fZ p _) (fun h=>by cases h) rfl (fun h=>by cases h) rfl (by decide)
  ·rintro x os' ⟨k,rfl,rfl⟩;have hLg:[r]=ao:=by rw[hL,hpos,hn];rfl
   have hf1:=hfin k;rw[hn] at hf1;simp only[zx9,zz3] at hf1;rw[hLg]
   try simp only[fk,kg,jM,zy2,zy4,gf,aU,simprocAttr]
   refine .done (hK _ ?_);clear hK K;refine U.ret ?_;simp only[aU,simprocAttr]
   try simp only[hf1,gf,aU,simprocAttr]
   rw[←hL];rfl
 ·try simp only[fk,kg,jM,zy2,zy4,ak,aU,simprocAttr]
  refine .wq false [(1000000,64),(25,68),(40,69)] (fk 1000000 l k) [.view 1000000 [] 8 0 l.length,enc (eS l r.aV:Int),enc [r]] (B7 l (eS l r.aV) r k) rfl (Gh l (eS l r.aV) r k hpl hn (by omega)) ⟨?_,?_⟩ ⟨.inl ⟨?_,?_,rfl⟩,.inl ⟨rfl,rfl,rfl⟩,.inl ⟨(gP _ _).symm,bt _ _,eW _⟩,trivial⟩ ?_ ?_
  ·intro n x h;simp only[fk,aG] at h;split at h
   ·rename_i hn';subst hn';simp only[v6] at h;subst h;exact ⟨by simp only[kg,jM,aU,simprocAttr],fZ _ _,rfl⟩
   ·cases h
  ·intro a b ha hb _;rw[Go.Abs.fL.1 ha,Go.Abs.fL.1 hb]
  ·try simp only[kg,simprocAttr]
  ·exact Go.Abs.fL.2 rfl
  ·rintro x os' (⟨q,rfl,rfl⟩ | ⟨d,q,rfl | rfl,rfl,rfl⟩)
   ·exact dj.C4 (fun p=>fZ p _) (fun h=>by cases h) rfl (fun h=>by cases h)
   ·exact dj.pz rfl rfl (by decide) (by decide) (fun p=>fZ p _) (fun h=>by cases h) (fun p=>fZ p _) (fun h=>by cases h) rfl (fun h=>by cases h) rfl (by decide)
   ·exact dj.pz rfl rfl (by decide) (by decide) (fun p=>fZ p _) (fun h=>by cases h) (fun p=>fZ p _) (fun h=>by cases h) rfl (fun h=>by cases h) rfl (by decide)
  ·rintro x os' (⟨q,rfl,rfl⟩ | ⟨d,q,rfl | rfl,rfl,rfl⟩)
   all_goals
    rw[←hL];have hf1:=hfin q
    try simp only[fk,kg,jM,zy2,zy4,gf,aU,simprocAttr]
    refine .done (hK _ ?_);clear hK K;refine U.ret ?_;simp only[aU,simprocAttr]
    try simp only[hf1,gf,aU,simprocAttr]
    rw[←hL];rfl
end Go.Proofs.YtoffnnjbplgnaaaGreatDoor
namespace Go.Proofs.YtoffnnjbplgnaaaGreatDoor
open Go Go.Abs Go.Shelf Go.RowKit Go.Sort Go.Proofs
open Go.Abs.Enc (enc)
def Cp:Go.Shelf.Ren:=⟨fun | 6=>141 | 15=>163 | 14=>162 | 28=>184 | 29=>185 | 20=>176 | 21=>177 | 22=>178 | 23=>179 | 24=>180 | 25=>181 | 26=>182 | 27=>183 | 46=>199 | 47=>200 | 48=>201 | 49=>202 | 50=>203 | 57=>213 | n=>n,fun | 22=>23 | 24=>50 | 25=>188 | 3=>3 | 39=>208 | 0=>0 | 53=>225 | 55=>227 | 4=>4 | 46=>219 | 45=>218 | 50=>144 | 5=>5 | 9=>9 | 66=>243 | 70=>247 | 76=>258 | 77=>259 | n=>n,fun | n=>n⟩
theorem Y3:Go.Proofs.SlLaysF0.n6 Tryz.prog Cp := {
 mixed:=by kernel_rfl
 f6 := ⟨ "slices.SortFunc[[]pinfold/api.Record,pinfold/api.Record]", by decide, Tryz.func141.trans (congrArg some (by kernel_rfl))⟩
 f14 := ⟨ "slices.pdqsortCmpFunc[pinfold/api.Record]", by decide, Tryz.func162.trans (congrArg some (by kernel_rfl))⟩
 f15:=Tryz.func163.trans (congrArg some (by kernel_rfl))
 f20 := ⟨ "slices.insertionSortCmpFunc[pinfold/api.Record]", by decide, Tryz.func176.trans (congrArg some (by kernel_rfl))⟩
 f21 := ⟨ "slices.heapSortCmpFunc[pinfold/api.Record]", by decide, Tryz.func177.trans (congrArg some (by kernel_rfl))⟩
 f22 := ⟨ "slices.breakPatternsCmpFunc[pinfold/api.Record]", by decide, Tryz.func178.trans (congrArg some (by kernel_rfl))⟩
 f23 := ⟨ "slices.choosePivotCmpFunc[pinfold/api.Record]", by decide, Tryz.func179.trans (congrArg some (by kernel_rfl))⟩
 f24 := ⟨ "slices.reverseRangeCmpFunc[pinfold/api.Record]", by decide, Tryz.func180.trans (congrArg some (by kernel_rfl))⟩
 f25 := ⟨ "slices.partialInsertionSortCmpFunc[pinfold/api.Record]", by decide, Tryz.func181.trans (congrArg some (by kernel_rfl))⟩
 f26 := ⟨ "slices.partitionEqualCmpFunc[pinfold/api.Record]", by decide, Tryz.func182.trans (congrArg some (by kernel_rfl))⟩
 f27 := ⟨ "slices.partitionCmpFunc[pinfold/api.Record]", by decide, Tryz.func183.trans (congrArg some (by kernel_rfl))⟩
 f28:=Tryz.func184.trans (congrArg some (by kernel_rfl))
 f29:=Tryz.func185.trans (congrArg some (by kernel_rfl))
 f46 := ⟨ "slices.siftDownCmpFunc[pinfold/api.Record]", by decide, Tryz.func199.trans (congrArg some (by kernel_rfl))⟩
 f47:=Tryz.func200.trans (congrArg some (by kernel_rfl))
 f48:=Tryz.func201.trans (congrArg some (by kernel_rfl))
 f49 := ⟨ "slices.medianAdjacentCmpFunc[pinfold/api.Record]", by decide, Tryz.func202.trans (congrArg some (by kernel_rfl))⟩
 f50 := ⟨ "slices.medianCmpFunc[pinfold/api.Record]", by decide, Tryz.func203.trans (congrArg some (by kernel_rfl))⟩
 f57 := ⟨ "slices.order2CmpFunc[pinfold/api.Record]", by decide, Tryz.func213.trans (congrArg some (by kernel_rfl))⟩
 t0:=Tryz.underlying0
 a0:=Tryz.isAgg0
 z0:=Tryz.sizeOf0
 v0:=Tryz.zeroValue0
 t3:=Tryz.underlying3
 a3:=Tryz.isAgg3
 z3:=Tryz.sizeOf3
 v3:=Tryz.zeroValue3
 t4:=Tryz.underlying4
 a4:=Tryz.isAgg4
 z4:=Tryz.sizeOf4
 v4:=Tryz.zeroValue4
 t5:=Tryz.underlying5
 a5:=Tryz.isAgg5
 z5:=Tryz.sizeOf5
 v5:=Tryz.zeroValue5
 t9:=Tryz.underlying9
 a9:=Tryz.isAgg9
 z9:=Tryz.sizeOf9
 v9:=Tryz.zeroValue9
 t22:=Tryz.underlying23
 a22:=Tryz.isAgg23
 z22:=Tryz.sizeOf23
 v22:=Tryz.zeroValue23
 t25:=Tryz.underlying188
 a25:=Tryz.isAgg188
 z25:=Tryz.sizeOf188
 v25:=Tryz.zeroValue188
 t39:=Tryz.underlying208
 a39:=Tryz.isAgg208
 z39:=Tryz.sizeOf208
 v39:=Tryz.zeroValue208
 t45:=Tryz.underlying218
 a45:=Tryz.isAgg218
 z45:=Tryz.sizeOf218
 v45:=Tryz.zeroValue218
 t46:=Tryz.underlying219
 a46:=Tryz.isAgg219
 z46:=Tryz.sizeOf219
 v46:=Tryz.zeroValue219
 t50:=Tryz.underlying144
 a50:=Tryz.isAgg144
 z50:=Tryz.sizeOf144
 v50:=Tryz.zeroValue144
 t53:=Tryz.underlying225
 a53:=Tryz.isAgg225
 z53:=Tryz.sizeOf225
 v53:=Tryz.zeroValue225
 t55:=Tryz.underlying227
 a55:=Tryz.isAgg227
 z55:=Tryz.sizeOf227
 v55:=Tryz.zeroValue227
 t66:=Tryz.underlying243
 a66:=Tryz.isAgg243
 z66:=Tryz.sizeOf243
 v66:=Tryz.zeroValue243
 t70:=Tryz.underlying247
 a70:=Tryz.isAgg247
 z70:=Tryz.sizeOf247
 v70:=Tryz.zeroValue247
 t76:=Tryz.underlying258
 a76:=Tryz.isAgg258
 z76:=Tryz.sizeOf258
 v76:=Tryz.zeroValue258
 t77:=Tryz.underlying259
 a77:=Tryz.isAgg259
 z77:=Tryz.sizeOf259
 v77:=Tryz.zeroValue259 }
theorem GB:aK Tryz.prog 141 [enc ([]:List ah),.func 142 []] (.tuple []):=by
 refine ⟨by kernel_rfl,fun w D vs _ hD hv =>?_⟩;simp only[aB] at hv;obtain ⟨u,rest,cs',rfl,hp,hr',hv2⟩:=hv;obtain ⟨a,cap,h1,_⟩:=hr';have h2:cs'=[u]:=hp;rw[h1] at h2;obtain rfl:u=.slice a 0 cap:=by simpa using h2.symm
 obtain ⟨f,rest2,cs2,rfl,hp2,hr2,rfl⟩:=hv2;simp only[ae] at hr2;obtain ⟨vs2,e2,e3⟩:=hr2;have h3:cs2=[f]:=hp2;rw[e2] at h3;simp only[aB] at e3;subst e3;obtain rfl:f=.func (.func 142) #[] #[]:=by
  have:=h3.symm;simp only[zy6,and_true] at this;rw[this];rfl
 refine (AnyF.slices_SortFunc_none (P:=Tryz.prog) (ρ:=Cp) { Y3 with } a cap (.func (.func 142) #[] #[]) w).mono ?_;rintro e w' ⟨rfl,rfl⟩;exact ⟨.tuple #[],D,rfl,⟨[],rfl,rfl⟩,⟨rfl,rfl,rfl,zz8 _,fun _ _=>rfl⟩,hD,fun _ _ h _=>h⟩
theorem G5:aK Tryz.prog 95 [enc ([]:List ah)] (enc (⟨[]⟩:dF)):=by
 refine aK.bJ Tryz.func95 JL K7 MC (t7 rfl) (fun hwf W0 bC E1 =>?_);simp only[zY,EL,bA];clear hwf;have h1:=uA [] (by simp);have R:=y6 @gf (y6 @gN ak)
 repeat' ((first |refine U.au (by decide +kernel) rfl fun K hK =>?_|refine .lead _ (h1) ?_|refine .flat _ (GB) rfl ?_|(refine .aq [0,2,3] hK ?_;clear hK K)|(with_reducible refine .done (hK _ ?_);clear hK K)|refine U.of rfl ?_|(with_reducible refine aj.ar (fun h =>?_) (fun h =>?_) <;>try simp only[h])) <;>try simp only[av,R,simprocAttr])
 all_goals clear R
 all_goals rfl
end Go.Proofs.YtoffnnjbplgnaaaGreatDoor
namespace Go.Proofs.YtoffnnjbplgnaaaGreatDoor
open Go Go.Abs
open Go.Abs.Enc (enc)
theorem F9{l:List ah}(h:hZ [] l=true):l.length≤60:=by
 have:=jx.len (by simp) ((xK l []).1 h);simpa using this
theorem Ga{l:List ah}(h:hZ [] l=true):∀ r∈l,bm r=true:=jx.ok ((xK l []).1 h)
def oN(r:db)(l:List ah):Bool:=hZ [] l&&decide (r.dk.all=eJ 1 l)&&(List.range (l.length+1)).any fun i=>decide (r.copy.all=eJ 1 (l.take i))
theorem Ht{p:Nat→Bool}{n i:Nat}(hi:i<n)(h:∀ k,k<i→p k=false)(hp:p i=true):(List.range n).any p=true:=List.any_eq_true.2 ⟨i,by simpa using hi,hp⟩
theorem Hs{p:Nat→Bool}{n:Nat}(h:∀ k,k<n→p k=false):(List.range n).any p=false:=by
 rw[List.any_eq_false];intro k hk;rw[h k (by simpa using hk)];decide
theorem G1(r:db)(h:r.small)(l:List ah)(hl:l.length≤4000000000000):aK Tryz.prog 87 [enc r,enc l] (enc (oN r l)):=by
 refine aK.bJ Tryz.func87 JF K1 Mw (t7 rfl) (fun hwf W0 bC E1 =>?_);simp only[zS,EF,bA,zz3];clear hwf;have f98:=G7 l (by omega);have f1:=pF r.dk h.1;have f2:=pF r.copy h.2;simp only[oN];cases q1:hZ [] l
 ·rw[q1] at f98;have R:=y6 @bu ak
  repeat' ((first |(with_reducible refine .guard (fun hb =>?_) (fun hb =>?_) <;>try simp only[hb])|refine U.au (by decide +kernel) rfl fun K hK =>?_|refine .flat _ (f98) rfl ?_|(refine .aq [0,1,2,4,5,16,19,20,21,30] hK ?_;clear hK K)|(with_reducible refine .done (hK _ ?_);clear hK K)|refine U.of rfl ?_|(with_reducible refine aj.ar (fun h =>?_) (fun h =>?_) <;>try simp only[h])) <;>try simp only[av,R,simprocAttr])
  all_goals clear R
  all_goals rfl
 rw[q1] at f98;have hok:=Ga q1;have hln:=F9 q1;have f135:=xR l (by omega) hok;have hpre:=fun i=>xR (l.take i) (by rw[zy0];omega) fun x hx=>hok x (List.mem_of_mem_take hx);cases q2:decide (r.dk.all=eJ 1 l)
 ·have R:=y6 @q2 (y6 @iT (y6 @bu ak))
  repeat' ((first |(with_reducible refine .guard (fun hb =>?_) (fun hb =>?_) <;>try simp only[hb])|refine U.au (by decide +kernel) rfl fun K hK =>?_|refine .flat _ (f98) rfl ?_|refine .flat _ (f1) rfl ?_|refine .flat _ (f135) rfl ?_|(refine .aq [0,1,2,4,5,16,19,20,21,30] hK ?_;clear hK K)|(with_reducible refine .done (hK _ ?_);clear hK K)|refine U.of rfl ?_|(with_reducible refine aj.ar (fun h =>?_) (fun h =>?_) <;>try simp only[h])) <;>try simp only[av,R,simprocAttr])
  all_goals clear R
  all_goals rfl
 have hw0:=dU (i:=l.length) (by omega);have R:=y6 @q2 (y6 @hw0 (y6 @iT (y6 @bu ak)))
 repeat' ((first |(with_reducible refine .guard (fun hb =>?_) (fun hb =>?_) <;>try simp only[hb])|refine U.au (by decide +kernel) rfl fun K hK =>?_|refine .flat _ (f98) rfl ?_|refine .flat _ (f1) rfl ?_|refine .flat _ (f135) rfl ?_|(refine .aq [0,1,2,4,5,16,19,20,21,30] hK ?_;clear hK K)|(with_reducible refine .done (hK _ ?_);clear hK K)|refine U.of rfl ?_|(with_reducible refine aj.ar (fun h =>?_) (fun h =>?_) <;>try simp only[h])) <;>try simp only[av,R,simprocAttr])
 all_goals clear R
 refine U.loop (fun i:Nat=>al [(1,enc l),(2,.ptr 2 []),(19,.int .i64 ((l.length+1:Nat):Int)),(20,.int .i64 i)] [(2,.box (enc r))]) (fun i=>i≤l.length+1∧∀ k,k<i→decide (r.copy.all=eJ 1 (l.take k))=false) (fun i=>l.length+1-i) 0 ⟨zw7 _,fun k hk=>by omega⟩ ?_ ?_
 ·refine bn.bZ ?_ ?_ ?_ ?_ <;>simp[bK,bP,bO,bF,aw,bI,cL,I.only,ai.only,bt]
  all_goals rfl
 rintro i ⟨hi,hk⟩;by_cases hlt:i<l.length+1
 ·have hlc:=eB hlt;have hw:=dU (i:=i) (by omega);have hsl:=fun A=>xl (l:=l) (k:=i) A (esz:=8) rfl (by omega);have f135':=hpre i;cases q3:decide (r.copy.all=eJ 1 (l.take i))
  ·have R:=y6 @hlc (y6 @hw (y6 @hsl (y6 @q3 (y6 @lU (y6 @bu ak)))))
   repeat' ((first |(with_reducible refine .guard (fun hb =>?_) (fun hb =>?_) <;>try simp only[hb])|refine U.au (by decide +kernel) rfl fun K hK =>?_|refine .flat _ (f2) rfl ?_|refine .flat _ (f135') rfl ?_|(refine .aq [0,1,2,4,5,16,19,20,21,30] hK ?_;clear hK K)|(with_reducible refine .done (hK _ ?_);clear hK K)|refine U.of rfl ?_|(with_reducible refine aj.ar (fun h =>?_) (fun h =>?_) <;>try simp only[h])) <;>try simp only[av,R,zy8,simprocAttr])
   all_goals clear R
   refine ⟨i+1,⟨by omega,fun k hk2 =>?_⟩,by omega,?_⟩
   ·by_cases e:k=i
    ·rw[e];exact q3
    ·exact hk k (by omega)
   ·clear hk;refine bn.bZ ?_ ?_ ?_ ?_ <;>simp[bK,bP,bO,bF,aw,bI,cL,I.only,ai.only,bt]
    all_goals rfl
  ·rw[Ht hlt hk q3];have R:=y6 @hlc (y6 @hw (y6 @hsl (y6 @q3 (y6 @lU (y6 @bu ak)))))
   repeat' ((first |(with_reducible refine .guard (fun hb =>?_) (fun hb =>?_) <;>try simp only[hb])|refine U.au (by decide +kernel) rfl fun K hK =>?_|refine .flat _ (f2) rfl ?_|refine .flat _ (f135') rfl ?_|(refine .aq [0,1,2,4,5,16,19,20,21,30] hK ?_;clear hK K)|(with_reducible refine .done (hK _ ?_);clear hK K)|refine U.of rfl ?_|(with_reducible refine aj.ar (fun h =>?_) (fun h =>?_) <;>try simp only[h])) <;>try simp only[av,R,zy8,simprocAttr])
   all_goals clear R
   all_goals rfl
 ·have hlc:=eX hlt;rw[Hs fun k hk2=>hk k (by omega)];have R:=y6 @hlc ak
  repeat' ((first |(with_reducible refine .guard (fun hb =>?_) (fun hb =>?_) <;>try simp only[hb])|refine U.au (by decide +kernel) rfl fun K hK =>?_|(refine .aq [0,1,2,4,5,16,19,20,21,30] hK ?_;clear hK K)|(with_reducible refine .done (hK _ ?_);clear hK K)|refine U.of rfl ?_|(with_reducible refine aj.ar (fun h =>?_) (fun h =>?_) <;>try simp only[h])) <;>try simp only[av,R,simprocAttr])
  all_goals clear R
  all_goals rfl
section
variable {α:Type} [Enc α] {P:Program} {hs:List FuncId} {Y:Value→List I→List (Nat×ai)→cd→Prop} {K:ab→Prop} {rest:List aC} {d e esz bytes:Nat}
def jT(esz:Nat)(v:I)(os:List (Nat×ai))(l:List α)(S:List Nat):Prop:=(l=[]∧(v=.c0 esz∨v=.nils esz))∨∃ n q,n∈S∧v=.view n [] esz 0 l.length∧aG os n=some (.box (.agg ((l++q).map enc)))
theorem HE{A:ab}{w:I}(hw:w=.c0 esz∨w=.nils esz)(z:I){l:List α}(hsz:Enc.sz α=esz)(hl:l≠[])(hf:A.o d=none)(hb:l.length*bytes≤140737488355328)(hml:l.length≤maxLen) :
  ∃ p:Nat→Prop,fi A (some d) e esz bytes z (enc l) rest w=.any p fun m=>aA rest ((A.aN d (.box (.agg (l.map enc++List.replicate m z)))).aP (some d) (.view d [] esz 0 l.length)):=by
 have hne:l.map (enc (α:=α))≠[]:=by simpa using hl
 have h1:cT A esz w=some []:=by rcases hw with rfl | rfl <;>rfl
 refine ⟨fun m=>l.length+m≤maxLen,?_⟩;rcases hw with rfl | rfl <;>simp only[fi,h1,kV A esz l hsz,ed,if_neg hne,fq,hf,zx9,zz3,zz2,if_pos (y6 hb hml),zy4]
theorem HD{A:ab}(z:I)(hsz:Enc.sz α=esz){n l:Nat}{xs ys:List α}(hy:ys≠[])(ho:A.o n=some (.box (.agg (xs.map enc))))(hl:l≤xs.length)(hr:xs.length<l+ys.length)(hf:A.o d=none)(hb:(l+ys.length)*bytes≤140737488355328)(hml:l+ys.length≤maxLen) :
  ∃ p:Nat→Prop,fi A (some d) e esz bytes z (enc ys) rest (.view n [] esz 0 l)=.any p fun m=>aA rest ((A.aN d (.box (.agg ((xs.take l).map enc++(ys.map enc++List.replicate m z))))).aP (some d) (.view d [] esz 0 (l+ys.length))):=by
 have h1:=nR (A:=A) (esz:=esz) (lo:=0) (k:=l) ho (by omega);have h2:(I.agg (xs.map (enc (α:=α)))).at []=some (.agg (xs.map enc)):=rfl;have h4:(xs.take l).length=l:=by rw[zy0];omega
 refine ⟨fun m=>l+ys.length+m≤maxLen,?_⟩;simp only[fi,h1,List.drop_zero,kV A esz ys hsz,ed];rw[if_neg (by simpa using hy)];simp only[ho,h2,zz2,zz3];rw[if_neg (by omega)];simp only[fq,hf,zz2,h4];rw[if_pos ⟨hb,hml⟩]
theorem BS(z:α){ts:List (Nat×I)}{os:List (Nat×ai)}{v:I}{l ys:List α}{S:List Nat}(hsz:Enc.sz α=esz)(hg:jT esz v os l S)(hf:aG os d=none)(hb:(l.length+ys.length)*bytes≤140737488355328)(hml:l.length+ys.length≤maxLen) :
  (∃ v' os',fi (al ts os) (some d) e esz bytes (enc z) (enc ys) rest v=aA rest (al ((d,v')::ts) os')∧jT esz v' os' (l++ys) (d::S)∧∀ m,m∉d::S→aG os' m=aG os m) ∨
  (∃ p,∃ v':Nat→I,∃ os':Nat→List (Nat×ai),fi (al ts os) (some d) e esz bytes (enc z) (enc ys) rest v=.any p (fun m=>aA rest (al ((d,v' m)::ts) (os' m)))∧∀ k,jT esz (v' k) (os' k) (l++ys) (d::S)∧∀ m,m∉d::S→aG (os' k) m=aG os m):=by
 by_cases hy:ys=[]
 ·subst hy;rw[List.append_nil];rcases hg with ⟨rfl,hv⟩ | ⟨n,q,hn,rfl,ho⟩
  ·rcases hv with rfl | rfl
   ·exact .inl ⟨.c0 esz,os,HF _ hsz,.inl ⟨rfl,.inl rfl⟩,fun _ _=>rfl⟩
   ·refine .inl ⟨.nils esz,os,?_,.inl ⟨rfl,.inr rfl⟩,fun _ _=>rfl⟩;have h1:cT (al ts os) esz (.nils esz)=some []:=rfl;simp only[fi,h1,kV _ esz ([]:List α) hsz,ed,zy9,if_true];rfl
  ·refine .inl ⟨_,os,?_,.inr ⟨n,q,List.mem_cons_of_mem _ hn,rfl,ho⟩,fun _ _=>rfl⟩;have h1:=nR (A:=al ts os) (esz:=esz) (lo:=0) (k:=l.length) ho (by simp);simp only[fi,h1,kV _ esz ([]:List α) hsz,ed,zy9,if_true];rfl
 ·rcases hg with ⟨rfl,hv⟩ | ⟨n,q,hn,rfl,ho⟩
  ·obtain ⟨p,h1⟩:=HE (A:=al ts os) (rest:=rest) (e:=e) hv (enc z) hsz hy hf (by simpa using hb) (by simpa using hml);refine .inr ⟨p,fun m=>.view d [] esz 0 ys.length,fun m=>(d,.box (.agg (ys.map enc++List.replicate m (enc z))))::os,h1,fun k=>⟨.inr ⟨d,List.replicate k z,List.mem_cons_self,by simp,?_⟩,fun m hm =>?_⟩⟩
   ·simp[aG]
   ·rw[cL,if_neg (fun h=>by rw[h] at hm;exact hm List.mem_cons_self)]
  ·by_cases hr:l.length+ys.length≤(l++q).length
   ·have h1:=yx (A:=al ts os) (rest:=rest) (d:=some d) (e:=e) (bytes:=bytes) (esz:=esz) (enc z) hsz hy ho hr;have e1:(l++q).take l.length++(ys++(l++q).drop (l.length+ys.length))=(l++ys)++q.drop ys.length:=by simp[List.drop_append]
    rw[e1] at h1;refine .inl ⟨_,(n,.box (.agg (((l++ys)++q.drop ys.length).map enc)))::os,h1,.inr ⟨n,q.drop ys.length,List.mem_cons_of_mem _ hn,by simp,by simp[aG]⟩,fun m hm =>?_⟩;rw[cL,if_neg (fun h=>by rw[h] at hm;exact hm (List.mem_cons_of_mem _ hn))]
   ·obtain ⟨p,h1⟩:=HD (A:=al ts os) (rest:=rest) (d:=d) (e:=e) (bytes:=bytes) (esz:=esz) (enc z) hsz hy ho (by simp) (by omega) hf hb hml;refine .inr ⟨p,fun m=>.view d [] esz 0 (l.length+ys.length),fun m=>(d,.box (.agg (((l++q).take l.length).map enc++(ys.map enc++List.replicate m (enc z)))))::os,h1,fun k=>⟨.inr ⟨d,List.replicate k z,List.mem_cons_self,by simp,?_⟩,fun m hm =>?_⟩⟩
    ·simp[aG]
    ·rw[cL,if_neg (fun h=>by rw[h] at hm;exact hm List.mem_cons_self)]
theorem bR.oM(z:α){ts:List (Nat×I)}{os:List (Nat×ai)}{v:I}{l ys:List α}{S:List Nat}(hsz:Enc.sz α=esz)(hg:jT esz v os l S)(hf:aG os d=none)(hb:(l.length+ys.length)*bytes≤140737488355328)(hml:l.length+ys.length≤maxLen)
  (h:∀ v' os',jT esz v' os' (l++ys) (d::S)→(∀ m,m∉d::S→aG os' m=aG os m)→bR P Y hs K (aA rest (al ((d,v')::ts) os'))):bR P Y hs K (fi (al ts os) (some d) e esz bytes (enc z) (enc ys) rest v):=by
 rcases BS (rest:=rest) (e:=e) z hsz hg hf hb hml (ts:=ts) with ⟨v',os',h1,h2,h3⟩ | ⟨p,v',os',h1,h2⟩
 ·rw[h1];exact h v' os' h2 h3
 ·rw[h1];exact .any fun m _=>h _ _ (h2 m).1 (h2 m).2
theorem ba.oM(z:α){ts:List (Nat×I)}{os:List (Nat×ai)}{v:I}{l ys:List α}{S:List Nat}(hsz:Enc.sz α=esz)(hg:jT esz v os l S)(hf:aG os d=none)(hb:(l.length+ys.length)*bytes≤140737488355328)(hml:l.length+ys.length≤maxLen)
  (h:∀ v' os',jT esz v' os' (l++ys) (d::S)→(∀ m,m∉d::S→aG os' m=aG os m)→ba P Y false K (aA rest (al ((d,v')::ts) os'))):ba P Y false K (fi (al ts os) (some d) e esz bytes (enc z) (enc ys) rest v):=by
 rcases BS (rest:=rest) (e:=e) z hsz hg hf hb hml (ts:=ts) with ⟨v',os',h1,h2,h3⟩ | ⟨p,v',os',h1,h2⟩
 ·rw[h1];exact h v' os' h2 h3
 ·rw[h1];exact .any rfl fun m _=>h _ _ (h2 m).1 (h2 m).2
theorem BT(os:List (Nat×ai))(S:List Nat):jT esz (.c0 esz) os ([]:List α) S:=.inl ⟨rfl,.inl rfl⟩
theorem vN{v:I}{os:List (Nat×ai)}{l:List α}{S:List Nat}{A:ab}(hsz:Enc.sz α=esz)(h:jT esz v os l S)(hA:∀ m∈S,A.o m=aG os m):bf true A v=some (enc l):=by
 rcases h with ⟨rfl,rfl | rfl⟩ | ⟨n,q,hn,rfl,ho⟩
 ·simp only[bf,gO,zy9,hsz]
 ·simp only[bf,gO,zy9,hsz]
 ·have h1:bf true A (.view n [] esz 0 l.length)=jD esz 0 l.length (some ((l++q).map enc)):=by
   rw[vz,hA n hn,ho];rfl
  rw[h1,nh hsz,List.take_left]
end
theorem Yu{l:List ah}{x:I}{os' os0:List (Nat×ai)}{d:Nat}(h:ox l x os'):jT 8 (x.aR (bo [(7,d)])) (cD [(7,d)] os'++os0) l [d]:=by
 rcases h with ⟨hn,rfl | rfl,rfl⟩ | ⟨hn,k,rfl,rfl⟩
 ·exact .inl ⟨hn,.inr rfl⟩
 ·exact .inl ⟨hn,.inl rfl⟩
 ·refine .inr ⟨d,List.replicate k cH,by simp,?_,?_⟩
  ·simp[I.aR,bo]
  ·simp only[fk,jM,zz7,zy2,aG,cD,bo,if_true,ai.aR,I.aR]
def jO:db:=⟨⟨[],[]⟩,⟨[],[]⟩⟩
theorem pY:I.agg [.agg [.ay ⟨#[]⟩,.ay ⟨#[]⟩],.agg [.ay ⟨#[]⟩,.ay ⟨#[]⟩]]=enc jO:=rfl
def pB(r:db)(l s:List ah)(x:ah):db×List ah×Int :=
 if x∈l then (r,l,0) else if (eM s x).2≠0 then (jO,[],(eM s x).2) else (⟨⟨r.dk.bX,r.dk.eE++dR (dW 1 l) x⟩,r.copy⟩,l++[x],0)
theorem Hk{s:List ah}{x:ah}(h:(eM s x).2=0):bm x=true:=by
 simp only[eM] at h;cases q:bm x
 ·rw[q] at h
  (repeat' split at h) <;>simp_all
 ·rfl
theorem xv:(∀ A n b rest (q:dF),dT A (some 1) n [] b (enc q) rest (some (.agg [.nils 8]))=aA rest (A.aN n (.box (enc q)))) ∧
  (∀ A n rest (r:db) (x y:List UInt8),dT A none n [0,1] (enc r) (enc (aD.of x)) rest (some (enc (aD.of y)))=aA rest (A.aN n (.box (enc (⟨⟨r.dk.bX,x⟩,r.copy⟩:db))))) :=
 ⟨fun A n b rest q=>by rw[fg (s:=some 1) (v:=enc q) (old:=.agg [.nils 8]) (eW _) rfl rfl,ff],
  fun A n rest r x y=>by rw[fg (s:=none) (v:=enc (aD.of x)) (old:=enc (aD.of y)) (eW _) rfl rfl];rfl⟩
theorem G2(r:db)(h:r.small)(l s:List ah)(hl:l.length≤60)(hok:∀ x∈l,bm x=true)(hsl:s.length≤60)(h95:aK Tryz.prog 95 [enc l] (enc (⟨s⟩:dF)))(x:ah) :
  aK Tryz.prog 88 [enc r,enc l,enc x] (.tuple [enc (pB r l s x).1,enc (pB r l s x).2.1,enc (pB r l s x).2.2]):=by
 refine aK.bJ Tryz.func88 JG K2 Mx (t7 rfl) (fun hwf W0 bC E1 =>?_);simp only[zT,EG,bA,zz3,Nat.reduceAdd];clear hwf;have f136:=Gw l x (by omega);have f93:=uA l (by omega);have f44:=x9 s x (by omega);simp only[pB];cases q1:decide (x∈l)
 rotate_left
 ·rw[q1] at f136;rw[if_pos (of_decide_eq_true q1)];have R:=y6 @pY (y6 @gw (y6 @bu ak))
  repeat' ((first |refine U.au (by decide +kernel) rfl fun K hK =>?_|refine .flat _ (f136) rfl ?_|refine .lead _ (f93) ?_|(refine U.lN (gs:=vE) [] [(3,[3]),(6,[6])] [0,1,2,3,4,5] (by decide +kernel) (dB.of (by simp[jE,bI,v8,I.only,bt])) fun K hK =>?_;simp only[kc,vE,List.getD_cons_zero,List.getD_cons_succ,R,simprocAttr])|(refine .aq [0,1,2,3,5,6,7,8,10,11,15,27] hK ?_;clear hK K)|(with_reducible refine .done (hK _ ?_);clear hK K)|refine U.of rfl ?_|(with_reducible refine aj.ar (fun h =>?_) (fun h =>?_) <;>try simp only[h])) <;>try simp only[av,R,simprocAttr])
  all_goals clear R
  all_goals rfl
 rw[q1] at f136;rw[if_neg (of_decide_eq_false q1)];by_cases q2:(eM s x).2=0
 rotate_left
 ·have q2':((eM s x).2 != 0)=true:=by simpa using q2
  rw[if_pos q2];generalize eM s x=p at *;have R:=y6 @pY (y6 @q2' (y6 @xv (y6 @gf (y6 @gw (y6 @bu ak)))))
  repeat' ((first |refine U.au (by decide +kernel) rfl fun K hK =>?_|refine .flat _ (f136) rfl ?_|refine .lead _ (h95) ?_|refine .lead _ (f44) ?_|(refine .aq [0,1,2,3,5,6,7,8,10,11,15,27] hK ?_;clear hK K)|(with_reducible refine .done (hK _ ?_);clear hK K)|refine U.of rfl ?_|(with_reducible refine aj.ar (fun h =>?_) (fun h =>?_) <;>try simp only[h])) <;>try simp only[av,R,simprocAttr])
  all_goals clear R
  all_goals rfl
 have q2':((eM s x).2 != 0)=false:=by simp[q2]
 rw[if_neg (by simp[q2])];have hx:=Hk q2;have f137:=Gx l (by omega) hok;have hin:=rr l;have f81:=pH (dW 1 l) hin x hx;have hll:=qA hin hx;have hadd:=fe r.dk.eE (dR (dW 1 l) x) (by have:=h.1.2;omega);generalize eM s x=p at *;have hbs:gz 8 (some [enc x])=some (enc [x]):=ot 8 x rfl;have R:=y6 @pY (y6 @q2' (y6 @hadd (y6 @xv (y6 @gf (y6 @gw (y6 @bu ak))))))
 repeat' ((first |refine U.au (by decide +kernel) rfl fun K hK =>?_|refine .flat _ (f136) rfl ?_|refine .lead _ (h95) ?_|refine .lead _ (f44) ?_|refine .flat _ (f137) rfl ?_|refine .lead _ (f81) ?_|(refine .aq [0,1,2,3,5,6,7,8,10,11,15,27] hK ?_;clear hK K)|(with_reducible refine .done (hK _ ?_);clear hK K)|refine U.of rfl ?_|(with_reducible refine aj.ar (fun h =>?_) (fun h =>?_) <;>try simp only[h])) <;>try simp only[av,R,simprocAttr])
 all_goals clear R
 obtain ⟨r',hr'⟩:∃ r':db,r'=⟨⟨r.dk.bX,r.dk.eE++dR (dW 1 l) x⟩,r.copy⟩:=⟨_,rfl⟩
 rw[←hr'];refine U.sub (bn.nj [3] 3 (x:=.ptr 3 []) (y:=.ref (enc r')) (ts':=[(1,enc l),(3,.ref (enc r')),(5,.ptr 5 []),(6,.ptr 6 [])]) (os':=[(6,.box (enc jO)),(5,.box (enc x))]) rfl ?_ ?_ ?_ ?_ ?_ ?_) ?_
 ·rw[oI];simp[lz,dv,al,jj,aG,gN,na]
 ·simp[dw,bF,ai.only,I.only,I.cB,bt]
 ·simp[bK,il,bI,I.only,bt]
 ·simp[bP,dw,aG]
 ·simp[bO,aw,aG,I.only,bt]
 ·simp[bF,ai.only,bt]
 refine U.sub (bn.nj [5] 5 (x:=.ptr 5 []) (y:=.ref (enc x)) (ts':=[(1,enc l),(3,.ref (enc r')),(5,.ref (enc x)),(6,.ptr 6 [])]) (os':=[(6,.box (enc jO))]) rfl ?_ ?_ ?_ ?_ ?_ ?_) ?_
 ·rw[oI];simp[lz,dv,al,jj,aG,gN,na]
 ·simp[dw,bF,ai.only,bt]
 ·simp[bK,il,bI,I.only,bt]
 ·simp[bP,dw,aG]
 ·simp[bO,aw,aG,I.only,bt]
 ·simp[bF,ai.only,bt]
 have R:=y6 @hbs (y6 @dY (y6 @gw (y6 @bu ak)))
 repeat' ((first |refine U.au (by decide +kernel) rfl fun K hK =>?_|refine .flat _ (8 [0,1,3,4,2,5,6,7,8] [(3,[]),(5,[]),(6,[6])]) rfl ?_|(refine .aq [0,1,2,3,5,6,7,8,10,11,15,27] hK ?_;clear hK K)|(with_reducible refine .done (hK _ ?_);clear hK K)|refine U.of rfl ?_|(with_reducible refine aj.ar (fun h =>?_) (fun h =>?_) <;>try simp only[h])) <;>try simp only[av,R,simprocAttr])
 all_goals clear R
 refine U.lN (gs:=vF) [] [(3,[]),(5,[]),(6,[6])] [0,1,3,4,2,5,6,7,8] (by decide +kernel) (dB.of (by simp[jE,bI,I.only,bt])) fun K hK =>?_
 try simp only[kc,vF,zz7,zy9,List.getD_cons_zero,List.getD_cons_succ,hbs,ak,aU,simprocAttr]
 refine .bx [(7,46)] [enc l] (ox l) (rF l (by omega)) eF.nil ⟨.inl ⟨(gP _ _).symm,bt _ _,eW _⟩,trivial⟩ ?_ ?_
 ·rintro x os' (⟨_,h | h,rfl⟩ | ⟨_,k,rfl,rfl⟩)
  ·subst h;exact dj.nil (fun _=>rfl) (fun h=>by cases h)
  ·subst h;exact dj.nil (fun _=>rfl) (fun h=>by cases h)
  ·exact dj.th (fun p=>fZ p _) (fun h=>by cases h) rfl (fun h=>by cases h) rfl (by decide)
 intro y os' hp;have hg:=Yu (d:=46) (os0:=[(6,.box (enc jO))]) hp;have h6:∀ m,m≠46→aG (cD [(7,46)] os'++[(6,ai.box (enc jO))]) m=aG [(6,ai.box (enc jO))] m:=by
  intro m hm;rcases hp with ⟨_,_,rfl⟩ | ⟨_,k,_,rfl⟩
  ·rfl
  ·simp only[fk,cD,zz7,zy9,bo,if_true,zy2,zy4,aG,if_neg hm]
 generalize y.aR (bo [(7,46)])=v at hg ⊢;generalize cD [(7,46)] os'++[(6,ai.box (enc jO))]=os at hg h6 ⊢;have h49:aG os 49=none:=h6 49 (by decide)
 try simp only[dY,aU,simprocAttr]
 refine bR.oM (default:ah) (ys:=[x]) rfl hg h49 (by simp;omega) (by simp[maxLen];omega) fun v' os'' hg2 hk =>?_;have h66:aG os'' 6=some (.box (enc jO)):=by rw[hk 6 (by decide),h6 6 (by decide)];rfl
 try simp only[h66,gw,aU,simprocAttr]
 have hf:∀ ts,bf true (al ts ((6,.box (enc r'))::os'')) v'=some (enc (l++[x])):=fun ts=>vN rfl hg2 fun m hm=>by
  have:m≠6:=by
   simp only[zw5,List.not_mem_nil,or_false] at hm;omega
  simp[al,aG,this]
 refine .done (hK _ ?_);clear hK K;refine U.ret ?_;simp only[aU,simprocAttr]
 try simp only[hf,ak,aU,simprocAttr]
 all_goals rfl
def rB(r:db)(l s:List ah)(x:ah):db×List ah×Int:=if oN r l=false then (jO,[],84) else pB r l s x
theorem GN(r:db)(h:r.small)(l s:List ah)(hl:l.length≤4000000000000)(hsl:s.length≤60)(h95:oN r l=true→aK Tryz.prog 95 [enc l] (enc (⟨s⟩:dF)))(x:ah) :
  aK Tryz.prog 35 [enc r,enc l,enc x] (.tuple [enc (rB r l s x).1,enc (rB r l s x).2.1,enc (rB r l s x).2.2]):=by
 refine aK.bJ Tryz.func35 Jh KE L8 (t7 rfl) (fun hwf W0 bC E1 =>?_);simp only[zB,Ef,bA,zz3,Nat.reduceAdd];clear hwf;have f:=G1 r h l hl;simp only[rB];cases q:oN r l
 ·rw[q] at f;have R:=y6 @pY (y6 @gw (y6 @bu ak))
  repeat' ((first |refine U.au (by decide +kernel) rfl fun K hK =>?_|refine .flat _ (f) rfl ?_|(refine .aq [0,1,2,3,5,6,7,8,12] hK ?_;clear hK K)|(with_reducible refine .done (hK _ ?_);clear hK K)|refine U.of rfl ?_|(with_reducible refine aj.ar (fun h =>?_) (fun h =>?_) <;>try simp only[h])) <;>try simp only[av,R,simprocAttr])
  all_goals clear R
  all_goals rfl
 rw[q] at f;have hw:hZ [] l=true:=by simp only[oN,zz0] at q;exact q.1.1
 have f88:=G2 r h l s (F9 hw) (Ga hw) hsl (h95 q) x;simp only[Bool.true_eq_false,if_false];generalize pB r l s x=p at *;have R:=y6 @pY (y6 @gw (y6 @bu ak))
 repeat' ((first |refine U.au (by decide +kernel) rfl fun K hK =>?_|refine .flat _ (f) rfl ?_|refine .lead _ (f88) ?_|(refine .aq [0,1,2,3,5,6,7,8,12] hK ?_;clear hK K)|(with_reducible refine .done (hK _ ?_);clear hK K)|refine U.of rfl ?_|(with_reducible refine aj.ar (fun h =>?_) (fun h =>?_) <;>try simp only[h])) <;>try simp only[av,R,simprocAttr])
 all_goals clear R
 all_goals rfl
end Go.Proofs.YtoffnnjbplgnaaaGreatDoor
namespace Go.Proofs.YtoffnnjbplgnaaaGreatDoor
open Go Go.Abs Go.RowKit
open Go.Abs.Enc (enc)
def gx(p:List Int)(i:Nat)(n:Int):Int:=if p=[] then 0 else tg (p.getD (i%p.length) 0) n
theorem abf(i n:Nat):(i:Int).tmod (n:Int)=((i%n:Nat):Int):=rfl
theorem ux(p:List Int)(i:Nat)(n:Int)(hn:n≠0)(hi:i≤1000)(hp:p.length≤1000000000000000):aK Tryz.prog 121 [enc p,.int .i64 (i:Int),enc n] (enc (gx p i n)):=by
 refine aK.bJ Tryz.func121 IC J5 Lx (t7 rfl) (fun hwf W0 bC E1 =>?_);simp only[yX,DB,bA,zz3,Nat.reduceAdd];clear hwf;simp only[gx];by_cases h:p=[]
 ·have q:((p.length:Int)==0)=true:=by rw[h];rfl
  rw[if_pos h];have R:=y6 @q ak
  repeat' ((first |refine U.au (by decide +kernel) rfl fun K hK =>?_|(refine .aq [0,1,2,6,9] hK ?_;clear hK K)|(with_reducible refine .done (hK _ ?_);clear hK K)|refine U.of rfl ?_|(with_reducible refine aj.ar (fun h =>?_) (fun h =>?_) <;>try simp only[h])) <;>try simp only[av,R,simprocAttr])
  all_goals clear R
  all_goals rfl
 ·have hpos:0<p.length:=List.length_pos_iff.2 h;have q:((p.length:Int)==0)=false:=by rw[beq_eq_false_iff_ne];omega
  have hnz:¬ (p.length:Int)=0:=by omega
  have hr:=abf i p.length;have hlt:i%p.length<p.length:=Nat.mod_lt _ hpos;have he:=fun A=>dQ (A:=A) 1 hlt rfl;rw[if_neg h];have hg:p.getD (i%p.length) 0=p[i%p.length]:=by simp[zz6,hlt]
  rw[hg];generalize p[i%p.length]=x at *;have R:=y6 @q (y6 @hnz (y6 @hr (y6 @he (y6 @hn ak))))
  repeat' ((first |refine U.au (by decide +kernel) rfl fun K hK =>?_|(refine .aq [0,1,2,6,9] hK ?_;clear hK K)|(with_reducible refine .done (hK _ ?_);clear hK K)|refine U.of rfl ?_|(with_reducible refine aj.ar (fun h =>?_) (fun h =>?_) <;>try simp only[h])) <;>try simp only[av,R,simprocAttr])
  all_goals clear R
  all_goals rfl
end Go.Proofs.YtoffnnjbplgnaaaGreatDoor
namespace Go.Proofs.YtoffnnjbplgnaaaGreatDoor
open Go Go.Abs
open Go.Abs.Enc (enc)
def ui(u:List UInt8)(p:List Int)(i:Nat):List UInt8:=u.take (gx p i (u.length+1:Nat)).toNat
def rl(w:List UInt8)(p:List Int)(i:Nat):List UInt8:=if gx p (i+1) 2=1∧0<w.length then w.set (gx p (i+2) (w.length:Nat)).toNat 63 else w
def xG(r:dc)(p:List Int)(i:Nat):List UInt8:=r.bX++rl (ui r.eE p i) p i
def ma(r:dc)(p:List Int)(i:Nat):dc:=⟨xG r p i,[]⟩
theorem FF(w:List UInt8)(p:List Int)(i:Nat):(rl w p i).length=w.length:=by
 rw[rl];split <;>simp
theorem uP{p:List Int}{i:Nat}{n:Nat}(hn:0<n∧n≤4611686018427387904)(hp:∀ x∈p,-9223372036854775808≤x∧x≤9223372036854775807):0≤gx p i (n:Nat)∧gx p i (n:Nat)<n:=by
 rw[gx];by_cases h:p=[]
 ·rw[if_pos h];omega
 ·rw[if_neg h];have hpos:0<p.length:=List.length_pos_iff.2 h;have hlt:i%p.length<p.length:=Nat.mod_lt _ hpos;have hm:p.getD (i%p.length) 0∈p:=by simp only[zz6,zz5 hlt,Option.getD_some];exact zw3 hlt
  rw[Zt (hp _ hm) (by omega)];exact ⟨Int.emod_nonneg _ (by omega),Int.emod_lt_of_pos _ (by omega)⟩
theorem yN:∀ l:List UInt8,nc (l.map enc)=some l
 | []=>rfl
 |b::l=>by
  have h:=yN l;rw[zz7]
  show (match I.int .u8 (b.toNat:Int),nc (l.map enc) with | .int .u8 n,some l=>some (UInt8.ofNat n.toNat::l) | _,_=>none)=_
  rw[h]
  show some (UInt8.ofNat ((b.toNat:Int)).toNat::l)=_
  simp
theorem rV(l:List UInt8):lj (some (l.map enc))=some (enc (aD.of l)):=by
 rw[lj,yN];rfl
theorem tY(A:ab)(t:List UInt8):kj A 1 (enc (aD.of t))=some (t.map enc):=rfl
theorem tP(n:Nat):List.replicate n (I.int .u8 0)=(List.replicate n (0:UInt8)).map enc:=by rw[List.map_replicate];rfl
def xq(sz z lo k:Nat):Option (List I)→Option (List I)
 |some fs=>if lo+k≤fs.length∧z=sz then some ((fs.drop lo).take k) else none
 |none=>none
theorem tZ(A:ab)(sz n z lo k:Nat)(p:List Nat):kj A sz (.view n p z lo k)=xq sz z lo k (eG (dv p (A.o n))):=by
 show cT A sz (.view n p z lo k)=_
 simp only[cT,j0,fH];cases dv p (A.o n) with
 |none=>rfl
 |some c=>cases c <;>rfl
theorem ub(l q:List UInt8){n:Nat}(h:n=l.length):xq 1 1 0 n (some ((l++q).map enc))=some (l.map enc):=by
 subst h;simp only[xq,zz2,List.drop_zero,←List.map_take,List.take_left];rw[if_pos ⟨by simp,trivial⟩]
theorem ua(A:ab)(k n:Nat)(l:List UInt8)(hn:n=l.length)(h:A.o k=some (.box (.agg (l.map enc)))):cT A 1 (.view k [] 1 0 n)=some (l.map enc):=by
 subst hn;have e:=nR (A:=A) (esz:=1) (lo:=0) (k:=l.length) h (by simp);rw[List.drop_zero,List.take_length] at e;exact e
theorem Av{A:ab}{d:Option Nat}{z esz:Nat}{rest:List aC}{ys:List I} : kz A d esz (aA rest) (.c0 z) (some ys)=aA rest (A.aP d (.int .i64 0)):=rfl
theorem abZ{n:Nat}{p:List Nat}{sz k:Nat} : iU n p sz 0 k k (some (.int .i64 k)) none none=some (.c0 sz):=by
 simp only[iU,gy];rw[if_pos ⟨by omega,by omega,by omega⟩,if_pos (by omega)]
theorem FC{A:ab}{n k i:Nat}{xs:List UInt8}(hk:k=xs.length)(hi:i<k)(h:A.o n=some (.box (.agg (xs.map enc)))):gH A 1 (some (.int .i64 i)) none none (.view n [] 1 0 k)=some (.view n [] 1 i (k-i)):=by
 subst hk;rw[xj,h]
 show lY n [] 1 0 xs.length 1 _ none none (some (xs.map enc))=_
 rw[xk,zz2,lZ (by omega) (by omega) hi]
theorem FD{A:ab}{n k:Nat}{xs:List UInt8}(hk:k=xs.length)(h:A.o n=some (.box (.agg (xs.map enc)))):gH A 1 (some (.int .i64 k)) none none (.view n [] 1 0 k)=some (.c0 1):=by
 subst hk;rw[xj,h]
 show lY n [] 1 0 xs.length 1 _ none none (some (xs.map enc))=_
 rw[xk,zz2,abZ]
theorem r4{A:ab}{d:Option Nat}{n k m:Nat}{rest:List aC}{a:List UInt8}(hk:k=a.length+m)(h:A.o n=some (.box (.agg ((List.replicate k (0:UInt8)).map enc)))) :
  kz A d 1 (aA rest) (.view n [] 1 0 k) (some (a.map enc))=aA rest ((A.aN n (.box (.agg ((a++List.replicate m (0:UInt8)).map enc)))).aP d (.int .i64 (a.length:Nat))):=by
 subst hk;rw[oz (c:=a.length) h (by simp) (by omega)];simp
theorem Au{A:ab}{d:Option Nat}{n i m:Nat}{rest:List aC}{a b:List UInt8}(hi:i=a.length)(hm:m=b.length)(h:A.o n=some (.box (.agg ((a++List.replicate m (0:UInt8)).map enc)))) :
  kz A d 1 (aA rest) (.view n [] 1 i m) (some (b.map enc))=aA rest ((A.aN n (.box (.agg ((a++b).map enc)))).aP d (.int .i64 (b.length:Nat))):=by
 subst hi hm;rw[oz (c:=b.length) h (by simp) (by omega)];simp
theorem yc(r:dc)(hr:r.small)(p:List Int)(i:Nat)(hi:i≤900)(hp:p.length≤100000000000000)(hpi:∀ x∈p,-9223372036854775808≤x∧x≤9223372036854775807):aK Tryz.prog 75 [enc r,enc p,.int .i64 (i:Int)] (enc (ma r p i)):=by
 obtain ⟨n1,hn1⟩:∃ n1:Nat,gx p i ((r.eE.length+1:Nat):Int)=(n1:Int):=zx0 (uP (by have:=hr.2;omega) hpi).1;have hn1l:n1≤r.eE.length:=by have:=(uP (p:=p) (i:=i) (n:=r.eE.length+1) (by have:=hr.2;omega) hpi).2;omega
 have hd:=hr.1;have hu:=hr.2;have e1:ui r.eE p i=r.eE.take n1:=by rw[ui,hn1];rfl
 have hnl:(r.eE.take n1).length=n1:=by rw[zy0];omega
 rw[ma,xG,e1];refine aK.bJ Tryz.func75 Jx KT Mo (t7 rfl) (fun hwf W0 bC E1 =>?_);simp only[c75,Ew,bA,zz3,Nat.reduceAdd];clear hwf;have f1:=ux p i ((r.eE.length+1:Nat):Int) (by omega) (by omega) (by omega);have f2:=ux p (i+1) 2 (by omega) (by omega) (by omega);have hss:=re (aD.of r.eE) (j:=n1) (by rw[aD.dC];exact hn1l);rw[aD.dC] at hss;have hs2:=xd (r.eE.take n1);have hl:=fun t=>pn t;have hw1:IntKind.i64.wrap (((r.eE.length:Nat):Int)+1)=((r.eE.length+1:Nat):Int):=by rw[dE _ (by omega) (by omega)];omega
 have hw2:IntKind.i64.wrap ((i:Int)+1)=((i+1:Nat):Int):=by rw[dE _ (by omega) (by omega)];omega
 have hw3:IntKind.i64.wrap ((i:Int)+2)=((i+2:Nat):Int):=by rw[dE _ (by omega) (by omega)];omega
 rw[hn1] at f1
 replace f2:aK Tryz.prog 121 [enc p,.int .i64 ((i+1:Nat):Int),.int .i64 2] (.int .i64 (gx p (i+1) 2)):=f2
 replace f1:aK Tryz.prog 121 [enc p,.int .i64 (i:Int),.int .i64 ((r.eE.length+1:Nat):Int)] (.int .i64 (n1:Int)):=f1
 obtain ⟨l2,hl2⟩:∃ l2,rl (r.eE.take n1) p i=l2:=⟨_,rfl⟩
 have hl2n:l2.length=n1:=by rw[←hl2,FF,hnl]
 rw[hl2];rw[rl] at hl2;generalize r.eE.take n1=w at *;have hpi':=hpi;clear e1;have hiv:=trivial;have hat:=trivial;have hst:=trivial;have f3:=f2;rcases Nat.eq_zero_or_pos n1 with h0 | h0
 ·have hw0:l2=w:=by
   rw[if_neg] at hl2
   ·exact hl2.symm
   ·intro h;omega
  subst hw0;have hg:decide ((n1:Int)>0)=false:=decide_eq_false (by omega);cases hb:gx p (i+1) 2==1
  ·generalize gx p (i+1) 2=a2 at *;have hw4:IntKind.i64.wrap ((r.bX.length:Int)+(n1:Int))=((r.bX.length+n1:Nat):Int):=by rw[dE _ (by omega) (by omega)];omega
   have hmk:=fun (A:ab) (rest:List aC)=>qF (A:=A) (d:=44) (bytes:=1) (z:=.int .u8 0) (rest:=rest) (n:=r.bX.length+n1) (by omega) (by unfold maxLen;omega);have hcp:=fun (A:ab) (rest:List aC)=>r4 (A:=A) (d:=some 48) (n:=44) (k:=r.bX.length+n1) (m:=n1) (rest:=rest) (a:=r.bX) rfl;have hcv:=fun (q:List UInt8)=>ub l2 q (n:=n1) hl2n.symm;have hsb:=fun (A:ab)=>ua A 44 (r.bX.length+n1) (r.bX++l2) (by simp[hl2n]);have hbs:=rV (r.bX++l2);have hce:=fun (A:ab)=>tY A r.bX;have hl0:l2=[]:=zw2 (by omega);have hsl:=fun (A:ab)=>FD (A:=A) (n:=44) (k:=r.bX.length+n1) (xs:=r.bX++List.replicate n1 0) (by simp);have hn:((r.bX.length+n1:Nat):Int)=(r.bX.length:Int):=by omega
   have hrp:r.bX++List.replicate n1 (0:UInt8)=r.bX++l2:=by rw[hl0,h0];rfl
   rw[hn,hrp] at hsl;rw[hrp] at hcp;have R:=y6 @hg (y6 @qy (y6 @tZ (y6 @mH (y6 @tP (y6 @hw1 (y6 @hw2 (y6 @hw3 (y6 @hw4 (y6 @hb (y6 @hnl (y6 @hmk (y6 @hcp (y6 @hcv (y6 @hsb (y6 @hbs (y6 @hce (y6 @hsl (y6 @Av (y6 @j2 (y6 @gw (y6 @lp (y6 @hl (y6 @hss (y6 @hs2 (y6 @bu (y6 @eN ak))))))))))))))))))))))))))
   repeat' ((first |(with_reducible refine .guard (fun hb =>?_) (fun hb =>?_) <;>try simp only[hb])|(refine U.lN (gs:=lD) [] [] [0,1,2,3,4,5,6,7,8,9,10,11] (by decide +kernel) (dB.of (by simp[jE])) fun K hK =>?_;simp only[kc,lD,List.getD_cons_zero,List.getD_cons_succ,R,simprocAttr])|refine bR.eT rfl fun m =>?_|refine U.au (by decide +kernel) rfl fun K hK =>?_|refine .flat _ (f1) rfl ?_|refine .flat _ (f2) rfl ?_|(refine .aq [0,1,2,3,6,7,8,29] hK ?_;clear hK K)|(with_reducible refine .done (hK _ ?_);clear hK K)|refine U.of rfl ?_|(with_reducible refine aj.ar (fun h =>?_) (fun h =>?_) <;>try simp only[h])) <;>try simp only[av,R,zy8,simprocAttr])
   all_goals clear R
   all_goals rfl
  ·generalize gx p (i+1) 2=a2 at *;have hw4:IntKind.i64.wrap ((r.bX.length:Int)+(n1:Int))=((r.bX.length+n1:Nat):Int):=by rw[dE _ (by omega) (by omega)];omega
   have hmk:=fun (A:ab) (rest:List aC)=>qF (A:=A) (d:=44) (bytes:=1) (z:=.int .u8 0) (rest:=rest) (n:=r.bX.length+n1) (by omega) (by unfold maxLen;omega);have hcp:=fun (A:ab) (rest:List aC)=>r4 (A:=A) (d:=some 48) (n:=44) (k:=r.bX.length+n1) (m:=n1) (rest:=rest) (a:=r.bX) rfl;have hcv:=fun (q:List UInt8)=>ub l2 q (n:=n1) hl2n.symm;have hsb:=fun (A:ab)=>ua A 44 (r.bX.length+n1) (r.bX++l2) (by simp[hl2n]);have hbs:=rV (r.bX++l2);have hce:=fun (A:ab)=>tY A r.bX;have hl0:l2=[]:=zw2 (by omega);have hsl:=fun (A:ab)=>FD (A:=A) (n:=44) (k:=r.bX.length+n1) (xs:=r.bX++List.replicate n1 0) (by simp);have hn:((r.bX.length+n1:Nat):Int)=(r.bX.length:Int):=by omega
   have hrp:r.bX++List.replicate n1 (0:UInt8)=r.bX++l2:=by rw[hl0,h0];rfl
   rw[hn,hrp] at hsl;rw[hrp] at hcp;have R:=y6 @hg (y6 @qy (y6 @tZ (y6 @mH (y6 @tP (y6 @hw1 (y6 @hw2 (y6 @hw3 (y6 @hw4 (y6 @hb (y6 @hnl (y6 @hmk (y6 @hcp (y6 @hcv (y6 @hsb (y6 @hbs (y6 @hce (y6 @hsl (y6 @Av (y6 @j2 (y6 @gw (y6 @lp (y6 @hl (y6 @hss (y6 @hs2 (y6 @bu (y6 @eN ak))))))))))))))))))))))))))
   repeat' ((first |(with_reducible refine .guard (fun hb =>?_) (fun hb =>?_) <;>try simp only[hb])|(refine U.lN (gs:=lD) [] [] [0,1,2,3,4,5,6,7,8,9,10,11] (by decide +kernel) (dB.of (by simp[jE])) fun K hK =>?_;simp only[kc,lD,List.getD_cons_zero,List.getD_cons_succ,R,simprocAttr])|refine bR.eT rfl fun m =>?_|refine U.au (by decide +kernel) rfl fun K hK =>?_|refine .flat _ (f1) rfl ?_|refine .flat _ (f2) rfl ?_|(refine .aq [0,1,2,3,6,7,8,29] hK ?_;clear hK K)|(with_reducible refine .done (hK _ ?_);clear hK K)|refine U.of rfl ?_|(with_reducible refine aj.ar (fun h =>?_) (fun h =>?_) <;>try simp only[h])) <;>try simp only[av,R,zy8,simprocAttr])
   all_goals clear R
   all_goals rfl
 ·have hg:decide ((n1:Int)>0)=true:=decide_eq_true (by omega);cases hb:gx p (i+1) 2==1
  ·have hw0:l2=w:=by
    rw[if_neg] at hl2
    ·exact hl2.symm
    ·intro h;rw[h.1] at hb;cases hb
   subst hw0;generalize gx p (i+1) 2=a2 at *;have hw4:IntKind.i64.wrap ((r.bX.length:Int)+(n1:Int))=((r.bX.length+n1:Nat):Int):=by rw[dE _ (by omega) (by omega)];omega
   have hmk:=fun (A:ab) (rest:List aC)=>qF (A:=A) (d:=44) (bytes:=1) (z:=.int .u8 0) (rest:=rest) (n:=r.bX.length+n1) (by omega) (by unfold maxLen;omega);have hcp:=fun (A:ab) (rest:List aC)=>r4 (A:=A) (d:=some 48) (n:=44) (k:=r.bX.length+n1) (m:=n1) (rest:=rest) (a:=r.bX) rfl;have hcv:=fun (q:List UInt8)=>ub l2 q (n:=n1) hl2n.symm;have hsb:=fun (A:ab)=>ua A 44 (r.bX.length+n1) (r.bX++l2) (by simp[hl2n]);have hbs:=rV (r.bX++l2);have hce:=fun (A:ab)=>tY A r.bX;have hsl:=fun (A:ab)=>FC (A:=A) (n:=44) (k:=r.bX.length+n1) (i:=r.bX.length) (xs:=r.bX++List.replicate n1 0) (by simp) (by omega);rw[Nat.add_sub_cancel_left] at hsl;have hcb:=fun (A:ab) (rest:List aC)=>Au (A:=A) (d:=some 55) (n:=44) (i:=r.bX.length) (m:=n1) (rest:=rest) (a:=r.bX) (b:=l2) rfl hl2n.symm;have R:=y6 @hg (y6 @hiv (y6 @hat (y6 @hst (y6 @lG (y6 @qy (y6 @tZ (y6 @mH (y6 @tP (y6 @hw1 (y6 @hw2 (y6 @hw3 (y6 @hw4 (y6 @hb (y6 @hnl (y6 @hmk (y6 @hcp (y6 @hcv (y6 @hsb (y6 @hbs (y6 @hce (y6 @hsl (y6 @hcb (y6 @j2 (y6 @gw (y6 @lp (y6 @hl (y6 @hss (y6 @hs2 (y6 @bu (y6 @eN ak))))))))))))))))))))))))))))))
   repeat' ((first |(with_reducible refine .guard (fun hb =>?_) (fun hb =>?_) <;>try simp only[hb])|(refine U.lN (gs:=lD) [] [] [0,1,2,3,4,5,6,7,8,9,10,11] (by decide +kernel) (dB.of (by simp[jE])) fun K hK =>?_;simp only[kc,lD,List.getD_cons_zero,List.getD_cons_succ,R,simprocAttr])|refine bR.eT rfl fun m =>?_|refine U.au (by decide +kernel) rfl fun K hK =>?_|refine .flat _ (f1) rfl ?_|refine .flat _ (f2) rfl ?_|refine .flat _ (f3) rfl ?_|(refine .aq [0,1,2,3,6,7,8,29] hK ?_;clear hK K)|(with_reducible refine .done (hK _ ?_);clear hK K)|refine U.of rfl ?_|(with_reducible refine aj.ar (fun h =>?_) (fun h =>?_) <;>try simp only[h])) <;>try simp only[av,R,zy8,simprocAttr])
   all_goals clear R
   all_goals rfl
  ·obtain ⟨j,hj,hjn⟩:∃ j:Nat,gx p (i+2) (n1:Int)=(j:Int)∧j<n1:=by
    have:=uP (p:=p) (i:=i+2) (n:=n1) (by omega) hpi';obtain ⟨j,hj⟩:=zx0 this.1;exact ⟨j,hj,by omega⟩
   have hw0:w.set j 63=l2:=by
    rw[if_pos ⟨by simpa using hb,by omega⟩,hnl,hj] at hl2;exact hl2
   clear f3 hiv hat hst;have f3:=ux p (i+2) (n1:Int) (by omega) (by omega) (by omega);rw[hj] at f3
   replace f3:aK Tryz.prog 121 [enc p,.int .i64 ((i+2:Nat):Int),.int .i64 (n1:Int)] (.int .i64 (j:Int)):=f3
   have hiv:=fun (fs:List I)=>sL (m:=19) (sz:=1) (lo:=0) (l:=n1) (i:=j) (fs:=fs) hjn;rw[zz3] at hiv;have hat:∀ q:List UInt8,jA j [] (some ((w++q).map enc))=some (enc w[j]):=fun q=>by
    have h2:((w++q).map (enc (α:=UInt8)))[j]?=some (enc w[j]):=by
     rw[zx2,zx8 (by omega),zz5 (by omega)];rfl
    simp only[jA,h2,mZ,na]
   have hst:∀ (A:ab) (q:List UInt8) (u:UInt8) (rest:List aC),dT A none 19 [j] (.agg ((w++q).map enc)) (.int .u8 63) rest (some (enc u))=aA rest (A.aN 19 (.box (.agg ((l2++q).map enc)))):=fun A q u rest=>by
    have:=FM (A:=A) (n:=19) (i:=j) (xs:=w++q) 63 u (rest:=rest) rfl (by simp;omega);rw[List.set_append_left _ _ (by omega),hw0] at this;exact this
   generalize gx p (i+1) 2=a2 at *;have hw4:IntKind.i64.wrap ((r.bX.length:Int)+(n1:Int))=((r.bX.length+n1:Nat):Int):=by rw[dE _ (by omega) (by omega)];omega
   have hmk:=fun (A:ab) (rest:List aC)=>qF (A:=A) (d:=44) (bytes:=1) (z:=.int .u8 0) (rest:=rest) (n:=r.bX.length+n1) (by omega) (by unfold maxLen;omega);have hcp:=fun (A:ab) (rest:List aC)=>r4 (A:=A) (d:=some 48) (n:=44) (k:=r.bX.length+n1) (m:=n1) (rest:=rest) (a:=r.bX) rfl;have hcv:=fun (q:List UInt8)=>ub l2 q (n:=n1) hl2n.symm;have hsb:=fun (A:ab)=>ua A 44 (r.bX.length+n1) (r.bX++l2) (by simp[hl2n]);have hbs:=rV (r.bX++l2);have hce:=fun (A:ab)=>tY A r.bX;have hsl:=fun (A:ab)=>FC (A:=A) (n:=44) (k:=r.bX.length+n1) (i:=r.bX.length) (xs:=r.bX++List.replicate n1 0) (by simp) (by omega);rw[Nat.add_sub_cancel_left] at hsl;have hcb:=fun (A:ab) (rest:List aC)=>Au (A:=A) (d:=some 55) (n:=44) (i:=r.bX.length) (m:=n1) (rest:=rest) (a:=r.bX) (b:=l2) rfl hl2n.symm;have R:=y6 @hg (y6 @hiv (y6 @hat (y6 @hst (y6 @lG (y6 @qy (y6 @tZ (y6 @mH (y6 @tP (y6 @hw1 (y6 @hw2 (y6 @hw3 (y6 @hw4 (y6 @hb (y6 @hnl (y6 @hmk (y6 @hcp (y6 @hcv (y6 @hsb (y6 @hbs (y6 @hce (y6 @hsl (y6 @hcb (y6 @j2 (y6 @gw (y6 @lp (y6 @hl (y6 @hss (y6 @hs2 (y6 @bu (y6 @eN ak))))))))))))))))))))))))))))))
   repeat' ((first |(with_reducible refine .guard (fun hb =>?_) (fun hb =>?_) <;>try simp only[hb])|(refine U.lN (gs:=lD) [] [] [0,1,2,3,4,5,6,7,8,9,10,11] (by decide +kernel) (dB.of (by simp[jE])) fun K hK =>?_;simp only[kc,lD,List.getD_cons_zero,List.getD_cons_succ,R,simprocAttr])|refine bR.eT rfl fun m =>?_|refine U.au (by decide +kernel) rfl fun K hK =>?_|refine .flat _ (f1) rfl ?_|refine .flat _ (f2) rfl ?_|refine .flat _ (f3) rfl ?_|(refine .aq [0,1,2,3,6,7,8,29] hK ?_;clear hK K)|(with_reducible refine .done (hK _ ?_);clear hK K)|refine U.of rfl ?_|(with_reducible refine aj.ar (fun h =>?_) (fun h =>?_) <;>try simp only[h])) <;>try simp only[av,R,zy8,simprocAttr])
   all_goals clear R
   all_goals rfl
def kY(r:db)(p:List Int):db:=⟨ma r.dk p 0,ma r.copy p 3⟩
theorem uz(r:db)(h:r.small)(p:List Int)(hp:p.length≤100000000000000)(hpi:∀ x∈p,-9223372036854775808≤x∧x≤9223372036854775807):aK Tryz.prog 22 [enc r,enc p] (enc (kY r p)):=by
 refine aK.bJ Tryz.func22 Ja Kx L1 (t7 rfl) (fun hwf W0 bC E1 =>?_);simp only[zr,D8,bA,zz3];clear hwf;have f1:=yc r.dk h.1 p 0 (by omega) hp hpi;have f2:=yc r.copy h.2 p 3 (by omega) hp hpi
 replace f1:aK Tryz.prog 75 [enc r.dk,enc p,.int .i64 0] (enc (ma r.dk p 0)):=f1
 replace f2:aK Tryz.prog 75 [enc r.copy,enc p,.int .i64 3] (enc (ma r.copy p 3)):=f2
 simp only[kY];generalize ma r.dk p 0=a at *;generalize ma r.copy p 3=b at *;have R:=y6 @lp (y6 @j2 (y6 @nd (y6 @AO (y6 @gw ak))))
 repeat' ((first |refine U.au (by decide +kernel) rfl fun K hK =>?_|refine .flat _ (f1) rfl ?_|refine .flat _ (f2) rfl ?_|(refine .aq [0,1,2,4] hK ?_;clear hK K)|(with_reducible refine .done (hK _ ?_);clear hK K)|refine U.of rfl ?_|(with_reducible refine aj.ar (fun h =>?_) (fun h =>?_) <;>try simp only[h])) <;>try simp only[av,R,simprocAttr])
 all_goals clear R
 all_goals rfl
def iy:ah:=⟨2,0,5,10,12,0,0,[97]⟩
def ja:List UInt8:=[51,55,52,56,51,55,32,50,32,48,32,53,32,49,48,32,49,50,32,48,32,48,32,97,10]
def cS:db:=⟨⟨[],ja⟩,⟨[],[]⟩⟩
theorem N4:kJ 1 iy=(ja,374837,0):=by decide +kernel
theorem N7:kQ 1 ja=(iy,374837,0):=by decide +kernel
theorem N9:rB jO [] [] iy=(cS,[iy],0):=by decide +kernel
theorem N5:(kN (kY cS [])).2=[]:=by decide +kernel
theorem N6:(kN (kY cS [25,0,0])).2=[iy]:=by decide +kernel
theorem N8:(kN (kY cS [25,1,3])).2=[]:=by decide +kernel
theorem N0:kN (pT (po cS) false)=(⟨⟨ja,[]⟩,⟨ja,[]⟩⟩,[iy]):=by decide +kernel
theorem mX:ja.length=25:=rfl
theorem Hf:ja.drop 7=[50,32,48,32,53,32,49,48,32,49,50,32,48,32,48,32,97,10]:=rfl
theorem NP:I.agg [.agg [.int .i64 2,.int .i64 0],.int .i64 5,.int .i64 10,.int .i64 12,.agg [.int .i64 0,.int .i64 0],.ay ⟨#[97]⟩]=enc iy:=rfl
theorem xE(p:List Int):(kY cS p).small:=by
 refine ⟨⟨?_,?_⟩,⟨?_,?_⟩⟩ <;>simp[kY,ma,xG,FF,ui,cS,mX] <;>omega
theorem Gz:aK Tryz.prog 14 [] (enc true):=by
 refine aK.bJ Tryz.func14 IU Kg LK (t7 rfl) (fun hwf W0 bC E1 =>?_);simp only[ze,DO,bA];clear hwf;have f29:=xZ 1 iy;rw[N4] at f29;have f31:=GM 1 ja (by rw[mX];omega);rw[N7] at f31;have f35:=GN jO ⟨⟨by decide,by decide⟩,⟨by decide,by decide⟩⟩ [] [] (by decide) (by decide) (fun _=>G5) iy;rw[N9] at f35;have h0:cS.small:=by refine ⟨⟨?_,?_⟩,⟨?_,?_⟩⟩ <;>simp[cS,mX]
 have t1:=uz cS h0 [] (by simp) (by simp);have t2:=uz cS h0 [25,0,0] (by simp) (by simp);have t3:=uz cS h0 [25,1,3] (by simp) (by simp);have o1:=rE _ (xE []);have o2:=rE _ (xE [25,0,0]);have o3:=rE _ (xE [25,1,3]);have f20:=GK cS h0;have f24:=GL (po cS) false;have o4:=rE (pT (po cS) false) (by refine ⟨⟨?_,?_⟩,⟨?_,?_⟩⟩ <;>simp[po,pT,cS,dc.all,mX]);rw[N5] at o1;rw[N6] at o2;rw[N8] at o3;rw[N0] at o4;generalize kY cS []=T1 at *;generalize kY cS [25,0,0]=T2 at *;generalize kY cS [25,1,3]=T3 at *;generalize po cS=T4 at *;generalize pT T4 false=T5 at *;generalize (kN T1).1=U1 at *;generalize (kN T2).1=U2 at *;generalize (kN T3).1=U3 at *
 dsimp only at f29 f31 f35 o4
 have hl:mC (enc (aD.of ja))=some (.int .i64 25):=by rw[pn,mX];rfl
 have hww:cS.dk.eE=ja:=rfl;have hl2:(((aD.of ja).l.length:Nat):Int)=25:=by rw[aD.dC,mX];rfl
 have hd1:decide (cS.copy=(⟨[],[]⟩:dc))=true:=rfl;have hw7:IntKind.i64.wrap 7=7:=by decide
 have hl1:(((([iy]:List ah).length:Nat):Int)==1)=true:=rfl;have hn0:(((([]:List ah).length:Nat):Int)==0)=true:=rfl;have hse:bS .eql (enc (aD.of [50,32,48,32,53,32,49,48,32,49,50,32,48,32,48,32,97,10])) (.ay ⟨#[50,32,48,32,53,32,49,48,32,49,50,32,48,32,48,32,97,10]⟩)=some (.bool true):=by
  show bS .eql (enc (aD.of _)) (enc (aD.of [50,32,48,32,53,32,49,48,32,49,50,32,48,32,48,32,97,10]))=_
  rw[lU];simp
 have hp1:fG [.int .i64 0,.int .i64 0] [(0,.int .i64 2)]=some [.int .i64 2,.int .i64 0]:=rfl;have hp2:fG [.agg [.int .i64 0,.int .i64 0],.int .i64 0,.int .i64 0,.int .i64 0,.agg [.int .i64 0,.int .i64 0],.ay ⟨#[]⟩] [(0,.agg [.int .i64 2,.int .i64 0]),(1,.int .i64 5),(2,.int .i64 10),(3,.int .i64 12),(5,.ay ⟨#[97]⟩)]=some [.agg [.int .i64 2,.int .i64 0],.int .i64 5,.int .i64 10,.int .i64 12,.agg [.int .i64 0,.int .i64 0],.ay ⟨#[97]⟩]:=rfl;have hb2:gz 1 (some [.int .i64 25,.int .i64 0,.int .i64 0])=some (enc ([25,0,0]:List Int)):=rfl;have hb3:gz 1 (some [.int .i64 25,.int .i64 1,.int .i64 3])=some (enc ([25,1,3]:List Int)):=rfl;have hs:=xe (aD.of ja) (i:=7) (by rw[aD.dC,mX];omega);rw[aD.dC,Hf] at hs
 replace hs:eC (.ss true false) [enc (aD.of ja),.int .i64 7]=some (enc (aD.of [50,32,48,32,53,32,49,48,32,49,50,32,48,32,48,32,97,10])):=hs
 have R:=y6 @hw7 (y6 @hl1 (y6 @hn0 (y6 @hse (y6 @hww (y6 @hl2 (y6 @hd1 (y6 @hl (y6 @hb2 (y6 @hb3 (y6 @hs (y6 @hp1 (y6 @hp2 (y6 @lU (y6 @NP (y6 @dY (y6 @ev (y6 @AO (y6 @j2 (y6 @nd (y6 @gw (y6 @lp (y6 @bu ak))))))))))))))))))))))
 repeat' ((first |(with_reducible refine .guard (fun hb =>?_) (fun hb =>?_) <;>try simp only[hb])|refine U.au (by decide +kernel) rfl fun K hK =>?_|refine .flat _ (f29) rfl ?_|refine .flat _ (f31) rfl ?_|refine .flat _ (f35) rfl ?_|refine .flat _ (t1) rfl ?_|refine .flat _ (o1) rfl ?_|refine .flat _ (t2) rfl ?_|refine .flat _ (o2) rfl ?_|refine .flat _ (t3) rfl ?_|refine .flat _ (o3) rfl ?_|refine .flat _ (f20) rfl ?_|refine .flat _ (f24) rfl ?_|refine .flat _ (o4) rfl ?_|refine .lead _ (f35) ?_|refine .lead _ (o1) ?_|refine .lead _ (o2) ?_|refine .lead _ (o3) ?_|refine .lead _ (o4) ?_|(refine .aq [0,1,2,3,4,5,6,7,8,9,10,12,14,16,17,18,19,20] hK ?_;clear hK K)|(with_reducible refine .done (hK _ ?_);clear hK K)|refine U.of rfl ?_|(with_reducible refine aj.ar (fun h =>?_) (fun h =>?_) <;>try simp only[h])) <;>try simp only[av,R,eq_self,decide_true,simprocAttr])
 all_goals clear R
 all_goals rfl
def gZ(known:Int)(l:List ah)(i:Nat)(v:Bool):List Bool:=List.replicate i false++v::b9 known (l.drop (i+1))
def iN(known:Int)(l:List ah)(i k:Nat):Bool:=((((l.drop (i+1)).zip (b9 known (l.drop (i+1)))).take k).any fun p=>jS known p.1&&nA p.1 (l.getD i default)&&p.2)
theorem abD{known:Int}{l:List ah}{i:Nat}{v:Bool}(h:i<l.length):(gZ known l i v).length=l.length:=by
 rw[gZ,zz1,List.length_replicate,zw0,iF,zx5];omega
theorem abB{known:Int}{l:List ah}{i:Nat} : (List.replicate (i+1) false++b9 known (l.drop (i+1))).set i true=gZ known l i true:=by
 rw[List.replicate_succ',zy3,List.singleton_append,List.set_append_right _ _ (by simp)];simp[gZ]
theorem abE{known:Int}{l:List ah}{i:Nat}{v w:Bool} : (gZ known l i v).set i w=gZ known l i w:=by
 rw[gZ,List.set_append_right _ _ (by simp)];simp[gZ]
theorem abC{known:Int}{l:List ah}{i:Nat}(h:i<l.length):gZ known l i (!iN known l i (l.length-(i+1)))=List.replicate i false++b9 known (l.drop i):=by
 have e:l.getD i default=l[i]:=by rw[zz6,zz5 h];rfl
 rw[gZ,iN,List.drop_eq_getElem_cons h,b9,e,List.take_of_length_le (by rw[List.length_zip,iF,zx5];omega)]
theorem Yw{known:Int}{l:List ah}{i k:Nat}(h:i+1+k<l.length):iN known l i (k+1)=(iN known l i k||(jS known l[i+1+k]&&nA l[i+1+k] (l.getD i default)&&(b9 known (l.drop (i+1))).getD k false)):=by
 have hz:k<((l.drop (i+1)).zip (b9 known (l.drop (i+1)))).length:=by rw[List.length_zip,iF,zx5];omega
 have hk:k<(b9 known (l.drop (i+1))).length:=by rw[iF,zx5];omega
 rw[iN,iN,zx7 hz,List.any_append,List.getElem_zip,List.getElem_drop,zz6 (l:=b9 known (l.drop (i+1))),zz5 hk];simp
theorem abA{known:Int}{l:List ah}{i k:Nat}{v:Bool} : (gZ known l i v).getD (i+1+k) false=(b9 known (l.drop (i+1))).getD k false:=by
 rw[zz6,zz6,gZ,List.getElem?_append_right (by simp;omega),List.length_replicate,show i+1+k-i=k+1 by omega,List.getElem?_cons_succ]
theorem xN(l:List ah)(hl:l.length≤4000000000000)(known:Int):aK Tryz.prog 104 [enc l,enc known] (enc (b9 known l)):=by
 refine aK.bJ Tryz.func104 Iw J0 Ls (t7 rfl) (fun hwf W0 bC E1 =>?_);simp only[yS,Dv,bA,zz3];clear hwf;have hmk:=fun (A:ab) (rest:List aC)=>qF (A:=A) (d:=10) (bytes:=1) (z:=.bool false) (rest:=rest) (n:=l.length) (by omega) (by unfold maxLen;omega);have erp:List.replicate l.length (I.bool false)=(List.replicate l.length false).map enc:=by rw[List.map_replicate];rfl
 simp only[erp] at hmk;have hw0:IntKind.i64.wrap ((l.length:Int)-1)=(l.length:Int)-1:=dE _ (by omega) (by omega);have R:=y6 @hmk (y6 @hw0 (y6 @eN ak))
 repeat' ((first |(with_reducible refine .guard (fun hb =>?_) (fun hb =>?_) <;>try simp only[hb])|refine U.au (by decide +kernel) rfl fun K hK =>?_|(refine .aq [0,1,4,5,6,7,15,26,62] hK ?_;clear hK K)|(with_reducible refine .done (hK _ ?_);clear hK K)|refine U.of rfl ?_|(with_reducible refine aj.ar (fun h =>?_) (fun h =>?_) <;>try simp only[h])) <;>try simp only[av,R,simprocAttr])
 all_goals clear R
 refine U.loop (fun x:Nat=>al [(0,enc l),(1,enc known),(5,.view 10 [] 1 0 l.length),(6,.int .i64 ((x:Int)-1))] [(10,.box (.agg ((List.replicate x false++b9 known (l.drop x)).map enc)))]) (fun x=>x≤l.length) (fun x=>x) l.length (zz8 _) ?_ ?_
 ·rw[List.drop_length,b9,List.append_nil];generalize List.replicate l.length false=iy;refine bn.bZ ?_ ?_ ?_ ?_ <;>simp[bK,bP,bO,bF,aw,bI,cL,I.only,ai.only,eR,bt,oD]
  all_goals rfl
 intro x hx;cases x with
 |zero =>
  obtain ⟨h,hh⟩:∃ h:Int,h=((0:Nat):Int)-1:=⟨_,rfl⟩
  rw[←hh];have hc:decide (h≥0)=false:=decide_eq_false (by omega);have hf:jD 1 0 l.length (some ((b9 known l).map enc))=some (enc (b9 known l)):=by
   rw[nh (α:=Bool) (sz:=1) rfl,←iF known l,List.take_length]
  simp only[List.replicate_zero,zy4,List.drop_zero];have R:=y6 @hc (y6 @hf ak)
  repeat' ((first |(with_reducible refine .guard (fun hb =>?_) (fun hb =>?_) <;>try simp only[hb])|refine U.au (by decide +kernel) rfl fun K hK =>?_|(refine .aq [0,1,4,5,6,7,15,26,62] hK ?_;clear hK K)|(with_reducible refine .done (hK _ ?_);clear hK K)|refine U.of rfl ?_|(with_reducible refine aj.ar (fun h =>?_) (fun h =>?_) <;>try simp only[h])) <;>try simp only[av,R,simprocAttr])
  all_goals clear R
  all_goals rfl
 |succ i =>
 obtain ⟨h,hh⟩:∃ h:Int,h=((i+1:Nat):Int)-1:=⟨_,rfl⟩
 have hhi:h=(i:Int):=by omega
 rw[←hh,hhi];have hc:decide ((i:Int)≥0)=true:=decide_eq_true (by omega);have hil:i<l.length:=by omega
 have hrl:(List.replicate (i+1) false++b9 known (l.drop (i+1))).length=l.length:=by
  rw[zz1,List.length_replicate,iF,zx5];omega
 have hv:∀ fs,kI 10 [] 1 0 l.length 1 (i:Int) (some fs)=some (.ptr 10 [i]):=fun fs=>by
  have:=sL (m:=10) (sz:=1) (lo:=0) (l:=l.length) (i:=i) (fs:=fs) hil
  rwa [zz3] at this
 have hat:=uO (xs:=List.replicate (i+1) false++b9 known (l.drop (i+1))) (i:=i) (by omega);have hst:=fun (A:ab) v u rest=>FN (A:=A) (n:=10) (xs:=List.replicate (i+1) false++b9 known (l.drop (i+1))) (i:=i) (by omega) v u rest;have hst1:=fun (A:ab) u rest=>(hst A true u rest).trans (by rw[abB]);have hw1:=dU (i:=i) (by omega);clear hst;generalize List.replicate (i+1) false++b9 known (l.drop (i+1))=row0 at *;have R:=y6 @hc (y6 @hv (y6 @hat (y6 @hst1 (y6 @hw1 (y6 @lG (y6 @eN ak))))))
 repeat' ((first |(with_reducible refine .guard (fun hb =>?_) (fun hb =>?_) <;>try simp only[hb])|refine U.au (by decide +kernel) rfl fun K hK =>?_|(refine .aq [0,1,4,5,6,7,15,26,62] hK ?_;clear hK K)|(with_reducible refine .done (hK _ ?_);clear hK K)|refine U.of rfl ?_|(with_reducible refine aj.ar (fun h =>?_) (fun h =>?_) <;>try simp only[h])) <;>try simp only[av,R,decide_true,simprocAttr])
 all_goals clear R
 refine U.loop (fun y:Nat=>al [(0,enc l),(1,enc known),(5,.view 10 [] 1 0 l.length),(6,.int .i64 (i:Int)),(7,.int .i64 ((i+1+y:Nat):Int))] [(10,.box (.agg ((gZ known l i (!iN known l i y)).map enc)))]) (fun y=>i+1+y≤l.length) (fun y=>l.length-y) 0 (by omega) ?_ ?_
 ·rw[show iN known l i 0=false by simp[iN],Bool.not_false];refine bn.bZ ?_ ?_ ?_ ?_ <;>simp[bK,bP,bO,bF,aw,bI,cL,I.only,ai.only,eR,bt,oD]
  all_goals rfl
 intro y hy;by_cases hky:i+1+y<l.length
 rotate_left
 ·have hkc:=eX hky;have hye:y=l.length-(i+1):=by omega
  have hwd:IntKind.i64.wrap ((i:Int)-1)=(i:Int)-1:=dE _ (by omega) (by omega);have hlast:=abC (known:=known) hil;rw[←hye] at hlast;rw[hlast];generalize hrw:List.replicate i false++b9 known (l.drop i)=row1;have R:=y6 @hkc (y6 @hwd (y6 @eN ak))
  repeat' ((first |(with_reducible refine .guard (fun hb =>?_) (fun hb =>?_) <;>try simp only[hb])|refine U.au (by decide +kernel) rfl fun K hK =>?_|(refine .aq [0,1,4,5,6,7,15,26,62] hK ?_;clear hK K)|(with_reducible refine .done (hK _ ?_);clear hK K)|refine U.of rfl ?_|(with_reducible refine aj.ar (fun h =>?_) (fun h =>?_) <;>try simp only[h])) <;>try simp only[av,R,simprocAttr])
  all_goals clear R
  refine ⟨i,by omega,by omega,?_⟩;rw[hrw];refine bn.bZ ?_ ?_ ?_ ?_ <;>simp[bK,bP,bO,bF,aw,bI,cL,I.only,ai.only,eR,bt]
  all_goals rfl
 have hkc:=eB hky;have hek:=fun A=>dQ (A:=A) 8 hky rfl;have hei:=fun A=>dQ (A:=A) 8 hil rfl;have hkw:=dU (i:=i+1+y) (by omega);rw[Nat.add_assoc (i+1) y 1] at hkw;have hv2:∀ fs,kI 10 [] 1 0 l.length 1 ((i+1+y:Nat):Int) (some fs)=some (.ptr 10 [i+1+y]):=fun fs=>by
  have:=sL (m:=10) (sz:=1) (lo:=0) (l:=l.length) (i:=i+1+y) (fs:=fs) hky
  rwa [zz3] at this
 have hrl2:=abD (known:=known) (v := !iN known l i y) hil;have hat2:=uO (xs:=gZ known l i (!iN known l i y)) (i:=i+1+y) (by omega);rw[abA] at hat2;have hati:=uO (xs:=gZ known l i (!iN known l i y)) (i:=i) (by omega);have hsti:=fun (A:ab) u rest=>FN (A:=A) (n:=10) (xs:=gZ known l i (!iN known l i y)) (i:=i) (by omega) false u rest;rw[abE] at hsti;have hsn:=Yw (known:=known) hky;have eg:l.getD i default=l[i]:=by rw[zz6,zz5 hil];rfl
 rw[eg] at hsn;have e1:jS known l[i+1+y]=((l[i+1+y].kind==0)&&decide (l[i+1+y].known≤known)):=by rw[jS,Bool.eq_iff_iff];simp
 have e2:nA l[i+1+y] l[i]=decide (l[i+1+y].fw=l[i].aV):=by rw[nA,decide_eq_decide,ah.fw,ah.aV,Item.mk.injEq]
 rw[e1,e2] at hsn;clear e1 e2 eg;generalize l[i+1+y]=q at *;generalize l[i]=r at *;generalize (b9 known (l.drop (i+1))).getD y false=sy at *;generalize iN known l i y=hy0 at *;cases qa:q.kind==0
 ·have qb:=trivial;have qc:=trivial;have qs:=trivial;rw[qa,zw6,zw6,zw6,Bool.or_false] at hsn;have R:=y6 @hkc (y6 @hek (y6 @hei (y6 @hv2 (y6 @hat2 (y6 @hkw (y6 @qa (y6 @qb (y6 @qc (y6 @qs (y6 @lG (y6 @eN ak)))))))))))
  repeat' ((first |(with_reducible refine .guard (fun hb =>?_) (fun hb =>?_) <;>try simp only[hb])|refine U.au (by decide +kernel) rfl fun K hK =>?_|(refine .aq [0,1,4,5,6,7,15,26,62] hK ?_;clear hK K)|(with_reducible refine .done (hK _ ?_);clear hK K)|refine U.of rfl ?_|(with_reducible refine aj.ar (fun h =>?_) (fun h =>?_) <;>try simp only[h])) <;>try simp only[av,R,simprocAttr])
  all_goals clear R
  all_goals
   refine ⟨y+1,by omega,by omega,?_⟩;rw[hsn];refine bn.bZ ?_ ?_ ?_ ?_ <;>simp[bK,bP,bO,bF,aw,bI,cL,I.only,ai.only,eR,bt]
   all_goals rfl
 cases qb:decide (q.known≤known)
 ·have qc:=trivial;have qs:=trivial;rw[qa,qb,Bool.and_false,zw6,zw6,Bool.or_false] at hsn;have R:=y6 @hkc (y6 @hek (y6 @hei (y6 @hv2 (y6 @hat2 (y6 @hkw (y6 @qa (y6 @qb (y6 @qc (y6 @qs (y6 @lG (y6 @eN ak)))))))))))
  repeat' ((first |(with_reducible refine .guard (fun hb =>?_) (fun hb =>?_) <;>try simp only[hb])|refine U.au (by decide +kernel) rfl fun K hK =>?_|(refine .aq [0,1,4,5,6,7,15,26,62] hK ?_;clear hK K)|(with_reducible refine .done (hK _ ?_);clear hK K)|refine U.of rfl ?_|(with_reducible refine aj.ar (fun h =>?_) (fun h =>?_) <;>try simp only[h])) <;>try simp only[av,R,simprocAttr])
  all_goals clear R
  all_goals
   refine ⟨y+1,by omega,by omega,?_⟩;rw[hsn];refine bn.bZ ?_ ?_ ?_ ?_ <;>simp[bK,bP,bO,bF,aw,bI,cL,I.only,ai.only,eR,bt]
   all_goals rfl
 cases qc:decide (q.fw=r.aV)
 ·have qs:=trivial;rw[qa,qb,qc,Bool.and_false,zw6,Bool.or_false] at hsn;have R:=y6 @hkc (y6 @hek (y6 @hei (y6 @hv2 (y6 @hat2 (y6 @hkw (y6 @qa (y6 @qb (y6 @qc (y6 @qs (y6 @lG (y6 @eN ak)))))))))))
  repeat' ((first |(with_reducible refine .guard (fun hb =>?_) (fun hb =>?_) <;>try simp only[hb])|refine U.au (by decide +kernel) rfl fun K hK =>?_|(refine .aq [0,1,4,5,6,7,15,26,62] hK ?_;clear hK K)|(with_reducible refine .done (hK _ ?_);clear hK K)|refine U.of rfl ?_|(with_reducible refine aj.ar (fun h =>?_) (fun h =>?_) <;>try simp only[h])) <;>try simp only[av,R,simprocAttr])
  all_goals clear R
  all_goals
   refine ⟨y+1,by omega,by omega,?_⟩;rw[hsn];refine bn.bZ ?_ ?_ ?_ ?_ <;>simp[bK,bP,bO,bF,aw,bI,cL,I.only,ai.only,eR,bt]
   all_goals rfl
 cases qs:sy
 ·rw[qa,qb,qc,qs,Bool.and_false,Bool.or_false] at hsn;rw[qs] at hat2;have R:=y6 @hkc (y6 @hek (y6 @hei (y6 @hv2 (y6 @hat2 (y6 @hkw (y6 @qa (y6 @qb (y6 @qc (y6 @qs (y6 @lG (y6 @eN ak)))))))))))
  repeat' ((first |(with_reducible refine .guard (fun hb =>?_) (fun hb =>?_) <;>try simp only[hb])|refine U.au (by decide +kernel) rfl fun K hK =>?_|(refine .aq [0,1,4,5,6,7,15,26,62] hK ?_;clear hK K)|(with_reducible refine .done (hK _ ?_);clear hK K)|refine U.of rfl ?_|(with_reducible refine aj.ar (fun h =>?_) (fun h =>?_) <;>try simp only[h])) <;>try simp only[av,R,simprocAttr])
  all_goals clear R
  all_goals
   refine ⟨y+1,by omega,by omega,?_⟩;rw[hsn];refine bn.bZ ?_ ?_ ?_ ?_ <;>simp[bK,bP,bO,bF,aw,bI,cL,I.only,ai.only,eR,bt]
   all_goals rfl
 ·rw[qa,qb,qc,qs,Bool.true_and,Bool.true_and,Bool.and_self,Bool.or_true] at hsn;rw[qs] at hat2;have R:=y6 @hkc (y6 @hek (y6 @hei (y6 @hv2 (y6 @hv (y6 @hat2 (y6 @hati (y6 @hsti (y6 @hkw (y6 @qa (y6 @qb (y6 @qc (y6 @qs (y6 @lG (y6 @eN ak))))))))))))))
  repeat' ((first |(with_reducible refine .guard (fun hb =>?_) (fun hb =>?_) <;>try simp only[hb])|refine U.au (by decide +kernel) rfl fun K hK =>?_|(refine .aq [0,1,4,5,6,7,15,26,62] hK ?_;clear hK K)|(with_reducible refine .done (hK _ ?_);clear hK K)|refine U.of rfl ?_|(with_reducible refine aj.ar (fun h =>?_) (fun h =>?_) <;>try simp only[h])) <;>try simp only[av,R,simprocAttr])
  all_goals clear R
  refine ⟨y+1,by omega,by omega,?_⟩;rw[hsn,Bool.not_true];refine bn.bZ ?_ ?_ ?_ ?_ <;>simp[bK,bP,bO,bF,aw,bI,cL,I.only,ai.only,eR,bt]
  all_goals rfl
def iM(a:Item):List ah→Nat→Int
 | [],_=>-1
 |r::l,i=>if r.aV=a then (i:Int) else iM a l (i+1)
theorem yg(l:List ah)(a:Item)(hl:l.length≤4000000000000):aK Tryz.prog 96 [enc l,enc a] (enc (iM a l 0)):=by
 refine aK.bJ Tryz.func96 JM K8 MD (t7 rfl) (fun hwf W0 bC E1 =>?_);simp only[zZ,EM,bA,zz3];clear hwf;have R:=ak
 repeat' ((first |refine U.au (by decide +kernel) rfl fun K hK =>?_|(refine .aq [0,1,3,4,5,9,18] hK ?_;clear hK K)|(with_reducible refine .done (hK _ ?_);clear hK K)|refine U.of rfl ?_|(with_reducible refine aj.ar (fun h =>?_) (fun h =>?_) <;>try simp only[h])) <;>try simp only[av,R,simprocAttr])
 all_goals clear R
 refine U.loop (fun i:Nat=>al [(0,enc l),(3,.ptr 3 []),(5,.int .i64 i)] [(3,.box (enc a))]) (fun i=>i≤l.length∧iM a l 0=iM a (l.drop i) i) (fun i=>l.length-i) 0 ⟨zw7 _,by simp⟩ ?_ ?_
 ·refine bn.bZ ?_ ?_ ?_ ?_ <;>simp[bK,bP,bO,bF,aw,bI,cL,I.only,ai.only,bt]
  all_goals rfl
 rintro i ⟨hi,heq⟩;rw[heq];by_cases hlt:i<l.length
 ·have hlc:=eB hlt;have he:=fun A=>dQ (A:=A) 8 hlt rfl;have hw:=dU (i:=i) (by omega);have hd:=List.drop_eq_getElem_cons hlt;rw[hd,iM] at heq ⊢;generalize l[i]=r at *;by_cases q:r.aV=a
  ·rw[if_pos q];have q1:decide (r.aV=a)=true:=decide_eq_true q;have R:=y6 @hlc (y6 @he (y6 @hw (y6 @q1 ak)))
   repeat' ((first |refine U.au (by decide +kernel) rfl fun K hK =>?_|(refine .aq [0,1,3,4,5,9,18] hK ?_;clear hK K)|(with_reducible refine .done (hK _ ?_);clear hK K)|refine U.of rfl ?_|(with_reducible refine aj.ar (fun h =>?_) (fun h =>?_) <;>try simp only[h])) <;>try simp only[av,R,simprocAttr])
   all_goals clear R
   all_goals rfl
  ·rw[if_neg q] at heq ⊢;have q1:decide (r.aV=a)=false:=decide_eq_false q;have R:=y6 @hlc (y6 @he (y6 @hw (y6 @q1 ak)))
   repeat' ((first |refine U.au (by decide +kernel) rfl fun K hK =>?_|(refine .aq [0,1,3,4,5,9,18] hK ?_;clear hK K)|(with_reducible refine .done (hK _ ?_);clear hK K)|refine U.of rfl ?_|(with_reducible refine aj.ar (fun h =>?_) (fun h =>?_) <;>try simp only[h])) <;>try simp only[av,R,simprocAttr])
   all_goals clear R
   refine ⟨i+1,⟨by omega,rfl⟩,by omega,?_⟩;clear hd heq;refine bn.bZ ?_ ?_ ?_ ?_ <;>simp[bK,bP,bO,bF,aw,bI,cL,I.only,ai.only,bt]
   all_goals rfl
 ·have hlc:=eX hlt;rw[List.drop_eq_nil_of_le (by omega),iM];have R:=y6 @hlc ak
  repeat' ((first |refine U.au (by decide +kernel) rfl fun K hK =>?_|(refine .aq [0,1,3,4,5,9,18] hK ?_;clear hK K)|(with_reducible refine .done (hK _ ?_);clear hK K)|refine U.of rfl ?_|(with_reducible refine aj.ar (fun h =>?_) (fun h =>?_) <;>try simp only[h])) <;>try simp only[av,R,simprocAttr])
  all_goals clear R
  all_goals rfl
theorem qd{a:Item} : ∀ {l:List ah} {i:Nat} {r:ah},l.find? (fun r=>decide (r.aV=a))=some r→∃ k,k<l.length∧iM a l i=((i+k:Nat):Int)∧l[k]?=some r
 | [],_,_,h=>by simp at h
 |q::l,i,r,h=>by
  rw[iM];by_cases e:q.aV=a
  ·rw[List.find?_cons_of_pos (by simpa using e)] at h;cases h;exact ⟨0,by simp,by rw[if_pos e];simp,rfl⟩
  ·rw[List.find?_cons_of_neg (by simpa using e)] at h;obtain ⟨k,h1,h2,h3⟩:=qd (i:=i+1) h;exact ⟨k+1,by simpa using h1,by rw[if_neg e,h2];congr 1;omega,h3⟩
theorem sf{a:Item} : ∀ {l:List ah} {i:Nat},l.find? (fun r=>decide (r.aV=a))=none→iM a l i=-1
 | [],_,_=>rfl
 |q::l,i,h=>by
  rw[iM];by_cases e:q.aV=a
  ·rw[List.find?_cons_of_pos (by simpa using e)] at h;cases h
  ·rw[List.find?_cons_of_neg (by simpa using e)] at h;rw[if_neg e];exact sf h
theorem Fx(x r:ah):rh x r=decide (r.aV=x.aV):=by
 simp only[rh,ah.aV,Item.mk.injEq]
theorem G3(w:List ah)(x:ah)(hl:w.length≤4000000000000)(hin:qm w):aK Tryz.prog 89 [enc w,enc x] (.tuple [enc (mi bm w x 80 82 83 2).1,enc (mi bm w x 80 82 83 2).2]):=by
 refine aK.bJ Tryz.func89 JH K3 My (t7 rfl) (fun hwf W0 bC E1 =>?_);simp only[zU,EH,bA,zz3];clear hwf;have f34:=x8 x;have f96:=yg w x.aV hl;simp only[mi];cases q1:bm x
 ·rw[show jb x=80 by simp[jb,q1]] at f34;simp only[if_true];have R:=ak
  repeat' ((first |(with_reducible refine .guard (fun hb =>?_) (fun hb =>?_) <;>try simp only[hb])|refine U.au (by decide +kernel) rfl fun K hK =>?_|refine .flat _ (f34) rfl ?_|(refine .aq [0,1,3,4,5,6,9,23,25,35,38] hK ?_;clear hK K)|(with_reducible refine .done (hK _ ?_);clear hK K)|refine U.of rfl ?_|(with_reducible refine aj.ar (fun h =>?_) (fun h =>?_) <;>try simp only[h])) <;>try simp only[av,R,simprocAttr])
  all_goals clear R
  all_goals rfl
 rw[show jb x=0 by simp[jb,q1]] at f34;simp only[Bool.true_eq_false,if_false];have e:(rh x)=fun r=>decide (r.aV=x.aV):=funext fun r=>Fx x r;rw[e];cases q2:w.find? (fun r=>decide (r.aV=x.aV)) with
 |some r =>
  obtain ⟨k,hk,h1,h2⟩:=qd (i:=0) q2;rw[zz3] at h1;have he:=fun A=>dQ (A:=A) 8 hk rfl;have hr:w[k]=r:=by rw[zz5 hk] at h2;exact Option.some.inj h2
  rw[hr] at he;obtain ⟨m1,hm1⟩:∃ m1:Int,m1=(k:Int):=⟨_,rfl⟩
  rw[h1,←hm1] at f96;simp only[←hm1] at he;have hge:decide (m1≥0)=true:=decide_eq_true (by omega);clear h1 hm1;simp only;by_cases q3:r=x
  ·have q3':decide (r=x)=true:=decide_eq_true q3;rw[if_pos q3];have R:=y6 @hge (y6 @he (y6 @q3' ak))
   repeat' ((first |(with_reducible refine .guard (fun hb =>?_) (fun hb =>?_) <;>try simp only[hb])|refine U.au (by decide +kernel) rfl fun K hK =>?_|refine .flat _ (f34) rfl ?_|refine .flat _ (f96) rfl ?_|(refine .aq [0,1,3,4,5,6,9,23,25,35,38] hK ?_;clear hK K)|(with_reducible refine .done (hK _ ?_);clear hK K)|refine U.of rfl ?_|(with_reducible refine aj.ar (fun h =>?_) (fun h =>?_) <;>try simp only[h])) <;>try simp only[av,R,simprocAttr])
   all_goals clear R
   all_goals rfl
  ·have q3':decide (r=x)=false:=decide_eq_false q3;rw[if_neg q3];have R:=y6 @hge (y6 @he (y6 @q3' ak))
   repeat' ((first |(with_reducible refine .guard (fun hb =>?_) (fun hb =>?_) <;>try simp only[hb])|refine U.au (by decide +kernel) rfl fun K hK =>?_|refine .flat _ (f34) rfl ?_|refine .flat _ (f96) rfl ?_|(refine .aq [0,1,3,4,5,6,9,23,25,35,38] hK ?_;clear hK K)|(with_reducible refine .done (hK _ ?_);clear hK K)|refine U.of rfl ?_|(with_reducible refine aj.ar (fun h =>?_) (fun h =>?_) <;>try simp only[h])) <;>try simp only[av,R,simprocAttr])
   all_goals clear R
   all_goals rfl
 |none =>
  obtain ⟨m1,hm1⟩:∃ m1:Int,m1=-1:=⟨_,rfl⟩
  rw[sf q2,←hm1] at f96;have hge:decide (m1≥0)=false:=by rw[hm1];rfl
  have f102:=uu w hl hin;have hix:=sN w (jL q1);simp only;by_cases q3:x.no>(dN w x.aT:Int)
  ·have q3':decide (x.no>(dN w x.aT:Int))=true:=decide_eq_true q3;rw[if_pos q3];have R:=y6 @hge (y6 @hix (y6 @q3' (y6 @fR ak)))
   repeat' ((first |(with_reducible refine .guard (fun hb =>?_) (fun hb =>?_) <;>try simp only[hb])|refine U.au (by decide +kernel) rfl fun K hK =>?_|refine .flat _ (f34) rfl ?_|refine .flat _ (f96) rfl ?_|refine .lead _ (f102) ?_|(refine .aq [0,1,3,4,5,6,9,23,25,35,38] hK ?_;clear hK K)|(with_reducible refine .done (hK _ ?_);clear hK K)|refine U.of rfl ?_|(with_reducible refine aj.ar (fun h =>?_) (fun h =>?_) <;>try simp only[h])) <;>try simp only[av,R,simprocAttr])
   all_goals clear R
   all_goals rfl
  ·have q3':decide (x.no>(dN w x.aT:Int))=false:=decide_eq_false q3;rw[if_neg q3];by_cases q4:w.length=60
   ·have q4':((w.length:Int)==60)=true:=by rw[beq_iff_eq];omega
    rw[if_pos q4];have R:=y6 @hge (y6 @hix (y6 @q3' (y6 @q4' (y6 @fR ak))))
    repeat' ((first |(with_reducible refine .guard (fun hb =>?_) (fun hb =>?_) <;>try simp only[hb])|refine U.au (by decide +kernel) rfl fun K hK =>?_|refine .flat _ (f34) rfl ?_|refine .flat _ (f96) rfl ?_|refine .lead _ (f102) ?_|(refine .aq [0,1,3,4,5,6,9,23,25,35,38] hK ?_;clear hK K)|(with_reducible refine .done (hK _ ?_);clear hK K)|refine U.of rfl ?_|(with_reducible refine aj.ar (fun h =>?_) (fun h =>?_) <;>try simp only[h])) <;>try simp only[av,R,simprocAttr])
    all_goals clear R
    all_goals rfl
   ·have q4':((w.length:Int)==60)=false:=by rw[beq_eq_false_iff_ne];omega
    rw[if_neg q4];have R:=y6 @hge (y6 @hix (y6 @q3' (y6 @q4' (y6 @fR ak))))
    repeat' ((first |(with_reducible refine .guard (fun hb =>?_) (fun hb =>?_) <;>try simp only[hb])|refine U.au (by decide +kernel) rfl fun K hK =>?_|refine .flat _ (f34) rfl ?_|refine .flat _ (f96) rfl ?_|refine .lead _ (f102) ?_|(refine .aq [0,1,3,4,5,6,9,23,25,35,38] hK ?_;clear hK K)|(with_reducible refine .done (hK _ ?_);clear hK K)|refine U.of rfl ?_|(with_reducible refine aj.ar (fun h =>?_) (fun h =>?_) <;>try simp only[h])) <;>try simp only[av,R,simprocAttr])
    all_goals clear R
    all_goals rfl
theorem wM(r:ah):∀ l:List ah,∃ n,n≤l.length∧lL l r=l.take n++r::l.drop n∧(∀ i (h:i<l.length),i<n→ic l[i] r=true)∧∀ h:n<l.length,ic l[n] r=false
 | []=>⟨0,by simp,by simp[lL],by simp,by simp⟩
 |q::l=>by
  cases h:ic q r
  ·refine ⟨0,by simp,by simp[lL,h],fun i _ hi=>by omega,fun _=>by simpa using h⟩
  ·obtain ⟨n,h1,h2,h3,h4⟩:=wM r l;refine ⟨n+1,by simpa using h1,?_,fun i hi hn =>?_,fun hn =>?_⟩
   ·simp only[lL,List.takeWhile_cons,List.dropWhile_cons,h,if_true,zy2,List.take_succ_cons,List.drop_succ_cons] at h2 ⊢;rw[h2]
   ·match i with
    |0=>exact h
    |i+1=>exact h3 i (by simpa using hi) (by omega)
   ·exact h4 (by simpa using hn)
theorem abV{α:Type}[Enc α]{A:ab}(esz:Nat){l:List α}{i:Nat}(h:i≤l.length)(hs:Enc.sz α=esz):gH A esz (some (.int .i64 i)) none none (enc l)=some (enc (l.drop i)):=by
 simp only[gH,gO,hs,if_true,hJ,gy,zz2];rw[if_pos ⟨by omega,by omega,by omega,by omega⟩];simp[List.take_of_length_le]
theorem Bh{l:List ah}{r:ah}{i:Nat}(b:I):bn (al [(19,b),(0,enc l),(3,.ptr 3 []),(5,.int .i64 (i:Int))] [(3,.box (enc r))]) (al [(0,enc l),(3,.ref (enc r)),(5,.int .i64 (i:Int))] []):=by
 refine bn.nj [3] 3 (x:=.ptr 3 []) (y:=.ref (enc r)) rfl ?_ ?_ ?_ ?_ ?_ ?_
 ·rw[oI];simp[lz,dv,al,jj,aG,gN,na]
 ·simp[dw,bF]
 ·simp[bK,il,bI,I.only,bt]
 ·simp[bP]
 ·simp[bO,I.only,bt]
 ·simp[bF]
theorem G6(l:List ah)(r:ah)(hl:l.length≤1000):aK Tryz.prog 97 [enc l,enc r] (enc (lL l r)):=by
 obtain ⟨n,hn,hput,hlow,hat⟩:=wM r l;rw[hput];clear hput;refine aK.bJ Tryz.func97 JN K9 ME (t7 rfl) (fun hwf W0 bC E1 =>?_);simp only[z6,EN,bA,zz3];clear hwf;have R:=ak
 repeat' ((first |(with_reducible refine .guard (fun hb =>?_) (fun hb =>?_) <;>try simp only[hb])|refine U.au (by decide +kernel) rfl fun K hK =>?_|(refine .aq [0,1,3,4,5,19] hK ?_;clear hK K)|(with_reducible refine .done (hK _ ?_);clear hK K)|refine U.of rfl ?_|(with_reducible refine aj.ar (fun h =>?_) (fun h =>?_) <;>try simp only[h])) <;>try simp only[av,R,simprocAttr])
 all_goals clear R
 refine U.loop (fun i:Nat=>al [(0,enc l),(3,.ptr 3 []),(5,.int .i64 i)] [(3,.box (enc r))]) (fun i=>i≤n) (fun i=>n-i) 0 (zw7 _) ?_ ?_
 ·refine bn.bZ ?_ ?_ ?_ ?_ <;>simp[bK,bP,bO,bF,aw,bI,cL,I.only,ai.only,bt]
  all_goals rfl
 intro i hi;by_cases hin:i<n
 ·have hlt:i<l.length:=by omega
  have hlc:=eB hlt;have he:=fun A=>dQ (A:=A) 8 hlt rfl;have hw:=dU (i:=i) (by omega);have hb:=hlow i hlt hin;rw[yF] at hb;have f108:=uw l[i].aV r.aV;rw[hb] at f108;clear hlow hat hb;generalize l[i]=q at *;have R:=y6 @hlc (y6 @he (y6 @hw ak))
  repeat' ((first |(with_reducible refine .guard (fun hb =>?_) (fun hb =>?_) <;>try simp only[hb])|refine U.au (by decide +kernel) rfl fun K hK =>?_|refine .flat _ (f108) rfl ?_|(refine .aq [0,1,3,4,5,19] hK ?_;clear hK K)|(with_reducible refine .done (hK _ ?_);clear hK K)|refine U.of rfl ?_|(with_reducible refine aj.ar (fun h =>?_) (fun h =>?_) <;>try simp only[h])) <;>try simp only[av,R,simprocAttr])
  all_goals clear R
  refine ⟨i+1,by omega,by omega,?_⟩;refine bn.bZ ?_ ?_ ?_ ?_ <;>simp[bK,bP,bO,bF,aw,bI,cL,I.only,ai.only,bt]
  all_goals rfl
 have hie:i=n:=by omega
 subst hie;have hs1:=fun A=>xl (l:=l) (k:=i) A (esz:=8) rfl hn;have hbs:gz 8 (some [enc r])=some (enc [r]):=ot 8 r rfl;have hs2:∀ A,gH A 8 (some (.int .i64 (i:Int))) none none (enc l)=some (enc (l.drop i)):=fun A=>abV (α:=ah) 8 hn rfl;have tail:U ⟨Tryz.prog,W0,bC,Tryz.f97.ntmps,bU E1,E1,e8,none,none⟩ (.bW AB sv) (cg (fun B=>U ⟨Tryz.prog,W0,bC,Tryz.f97.ntmps,bU E1,E1,e8,none,none⟩ .ret (jr [.tmp 4] (enc (l.take i++r::l.drop i))) B) (jr [.tmp 4] (enc (l.take i++r::l.drop i))))
   (al [(0,enc l),(3,.ref (enc r)),(5,.int .i64 (i:Int))] []):=by
  refine U.lN (gs:=sv) [] [(0,[]),(3,[]),(5,[]),(23,[]),(24,[]),(27,[]),(30,[]),(31,[])] [0,1,2,3,5,6,8,9,10,4,7,11,12] (by decide +kernel) (dB.of (by simp[jE,bI,v8,I.only,bt])) fun K hK =>?_
  try simp only[kc,sv,zz7,zy9,List.getD_cons_zero,List.getD_cons_succ,zy8,zy1,hs1,hs2,hbs,fo,dY,ak,aU,simprocAttr]
  have hl1:(l.take i).length=i:=by rw[zy0];omega
  refine bR.oM (bytes:=72) (default:ah) (ys:=l.take i) rfl (BT _ []) rfl (by rw[hl1,zx9];omega) (by rw[hl1,zx9];simp only[maxLen];omega) fun v1 os1 hg1 hk1 =>?_
  try simp only[aU,simprocAttr]
  refine bR.oM (default:ah) (ys:=[r]) rfl hg1 (by rw[hk1 29 (by decide)];rfl) (by rw[zy4,hl1,List.length_singleton];omega) (by rw[zy4,hl1,List.length_singleton];simp only[maxLen];omega) fun v2 os2 hg2 hk2 =>?_
  try simp only[aU,simprocAttr]
  refine bR.oM (default:ah) (ys:=l.drop i) rfl hg2 (by rw[hk2 33 (by decide),hk1 33 (by decide)];rfl) (by rw[zy4,zz1,hl1,List.length_singleton,zx5];omega) (by rw[zy4,zz1,hl1,List.length_singleton,zx5];simp only[maxLen];omega) fun v3 os3 hg3 hk3 =>?_
  try simp only[aU,simprocAttr]
  have hf:∀ ts,bf true (al ts os3) v3=some (enc (l.take i++r::l.drop i)):=fun ts=>by
   have:=vN (A:=al ts os3) rfl hg3 fun m _=>rfl;rw[this];simp
  refine .done (hK _ ?_);clear hK K;refine U.ret ?_;simp only[aU,simprocAttr]
  try simp only[hf,aU,simprocAttr]
 by_cases hlt:i<l.length
 ·have hlc:=eB hlt;have he:=fun A=>dQ (A:=A) 8 hlt rfl;have hb:=hat hlt;rw[yF] at hb;have f108:=uw l[i].aV r.aV;rw[hb] at f108;clear hlow hat hb;generalize l[i]=q at *;have R:=y6 @hlc (y6 @he (y6 @hs1 (y6 @hs2 (y6 @hbs ak))))
  repeat' ((first |(with_reducible refine .guard (fun hb =>?_) (fun hb =>?_) <;>try simp only[hb])|refine U.au (by decide +kernel) rfl fun K hK =>?_|refine .flat _ (f108) rfl ?_|(refine .aq [0,1,3,4,5,19] hK ?_;clear hK K)|(with_reducible refine .done (hK _ ?_);clear hK K)|refine U.of rfl ?_|(with_reducible refine aj.ar (fun h =>?_) (fun h =>?_) <;>try simp only[h])) <;>try simp only[av,R,simprocAttr])
  all_goals clear R
  refine U.sub ?_ tail;exact Bh _
 ·have hlc:=eX hlt;have R:=y6 @hlc ak
  repeat' ((first |(with_reducible refine .guard (fun hb =>?_) (fun hb =>?_) <;>try simp only[hb])|refine U.au (by decide +kernel) rfl fun K hK =>?_|(refine .aq [0,1,3,4,5,19] hK ?_;clear hK K)|(with_reducible refine .done (hK _ ?_);clear hK K)|refine U.of rfl ?_|(with_reducible refine aj.ar (fun h =>?_) (fun h =>?_) <;>try simp only[h])) <;>try simp only[av,R,simprocAttr])
  all_goals clear R
  refine U.sub ?_ tail;exact Bh _
theorem aaY(l:List ah)(r:ah):(lL l r).length=l.length+1:=by
 have:=(aaZ l r).length_eq;simpa using this
def uV(l:List ah):Bool:=decide (l.length≤60)&&fp (fun out r=>bm r&&kX out r) [] l
theorem Il(l:List ah):fj l=uV l:=by
 rw[fj,uV,Bool.and_comm]
 congr 1
 rw[Bool.eq_iff_iff,rP,rP];constructor
 ·rintro ⟨h1,h2⟩;exact ⟨h1,by rw[←yJ fun r hr=>wA (h1 r hr)];exact h2⟩
 ·rintro ⟨h1,h2⟩;exact ⟨h1,by rw[yJ fun r hr=>wA (h1 r hr)];exact h2⟩
theorem acg{l:List ah}{i:Nat}(h:i<l.length):kX (l.take i) l[i]=((if h0:0<i then eA (l[i-1]'(by omega)).aV l[i].aV else true)&&((dN (l.take i) l[i].aT:Int)==l[i].no)):=by
 have e:∀ (a b:Int),decide (a=b)=(a==b):=fun a b=>by rw[Bool.eq_iff_iff];simp
 rw[kX,e]
 congr 1
 by_cases h0:0<i
 ·have:=iW (l:=l) (i:=i-1) (by omega);rw[show i-1+1=i by omega] at this;rw[this,List.getLast?_concat,dif_pos h0];rfl
 ·have:i=0:=by omega
  subst this;simp
theorem pE(l:List ah)(hl:l.length≤4000000000000):aK Tryz.prog 53 [enc (⟨l⟩:dF)] (enc (ij l)):=by
 refine aK.bJ Tryz.func53 Jr KO Mi (t7 rfl) (fun hwf W0 bC E1 =>?_);simp only[c53,Er,bA];clear hwf;rw[ij,Il,uV];cases q0:decide ((l.length:Int)>60)
 rotate_left
 ·have:decide (l.length≤60)=false:=decide_eq_false (by have:=of_decide_eq_true q0;omega);rw[this];have R:=y6 @q0 ak
  repeat' ((first |(with_reducible refine .guard (fun hb =>?_) (fun hb =>?_) <;>try simp only[hb])|refine U.au (by decide +kernel) rfl fun K hK =>?_|(refine .aq [0,1,2,3,4,8,13,56] hK ?_;clear hK K)|(with_reducible refine .done (hK _ ?_);clear hK K)|refine U.of rfl ?_|(with_reducible refine aj.ar (fun h =>?_) (fun h =>?_) <;>try simp only[h])) <;>try simp only[av,R,simprocAttr])
  all_goals clear R
  all_goals rfl
 have h60:l.length≤60:=by have:=of_decide_eq_false q0;omega
 rw[decide_eq_true h60,Bool.true_and];have R:=y6 @q0 ak
 repeat' ((first |(with_reducible refine .guard (fun hb =>?_) (fun hb =>?_) <;>try simp only[hb])|refine U.au (by decide +kernel) rfl fun K hK =>?_|(refine .aq [0,1,2,3,4,8,13,56] hK ?_;clear hK K)|(with_reducible refine .done (hK _ ?_);clear hK K)|refine U.of rfl ?_|(with_reducible refine aj.ar (fun h =>?_) (fun h =>?_) <;>try simp only[h])) <;>try simp only[av,R,simprocAttr])
 all_goals clear R
 refine U.loop (fun i:Nat=>al [(1,.ptr 1 []),(3,.int .i64 i)] [(1,.box (enc (⟨l⟩:dF)))]) (fun i=>i≤l.length∧(∀ r∈l.take i,bm r=true)∧fp (fun out r=>bm r&&kX out r) [] l=fp (fun out r=>bm r&&kX out r) (l.take i) (l.drop i)) (fun i=>l.length-i) 0 ⟨zw7 _,by simp,rfl⟩ ?_ ?_
 ·refine bn.bZ ?_ ?_ ?_ ?_ <;>simp[bK,bP,bO,bF,aw,bI,cL,I.only,ai.only,bt]
  all_goals rfl
 rintro i ⟨hi,hk,heq⟩;rw[heq];by_cases hlt:i<l.length
 ·have hlc:=eB hlt;have he:=fun A=>dQ (A:=A) 8 hlt rfl;have hw:=dU (i:=i) (by omega);have hnx:=tr hlt hk;have hst:=acg hlt;have hsl:=fun A=>abW (A:=A) (l:=l) (i:=i) (by omega);have hfv:=fun aE A=>abX (i:=i) l aE A;have hli:(l.take i).length=i:=by rw[zy0];omega
  rw[yr hlt] at heq ⊢;rw[hst] at heq ⊢;have hbf:∀ h:0<i,True:=fun _=>trivial;have f34:=x8 l[i];have f102:=uu (l.take i) (by omega) (fun q hq=>jL (hk q hq));cases q1:bm l[i]
  ·rw[show jb l[i]=80 by simp[jb,q1]] at f34;clear heq hst hnx;generalize l[i]=r at *;have R:=y6 @hlc (y6 @he (y6 @hw (y6 @dY (y6 @ev ak))))
   repeat' ((first |(with_reducible refine .guard (fun hb =>?_) (fun hb =>?_) <;>try simp only[hb])|refine U.au (by decide +kernel) rfl fun K hK =>?_|refine .flat _ (f34) rfl ?_|(refine .aq [0,1,2,3,4,8,13,56] hK ?_;clear hK K)|(with_reducible refine .done (hK _ ?_);clear hK K)|refine U.of rfl ?_|(with_reducible refine aj.ar (fun h =>?_) (fun h =>?_) <;>try simp only[h])) <;>try simp only[av,R,simprocAttr])
   all_goals clear R
   all_goals rfl
  rw[show jb l[i]=0 by simp[jb,q1]] at f34;have hix:=sN (l.take i) (jL q1);rw[q1] at heq;by_cases hz:0<i
  ·have hgt:decide ((i:Int)>0)=true:=decide_eq_true (by omega);have hpe:=fun A=>dQ (A:=A) (l:=l) (k:=i-1) 8 (by omega) rfl;have hw1:IntKind.i64.wrap ((i:Int)-1)=((i-1:Nat):Int):=by rw[dE _ (by omega) (by omega)];omega
   simp only[dif_pos hz] at heq ⊢;have f108:=uw (l[i-1]'(by omega)).aV l[i].aV;clear hst;generalize (l[i-1]'(by omega))=q at *;generalize l[i]=r at *;cases c1:eA q.aV r.aV
   ·rw[c1] at f108 heq;have R:=y6 @hlc (y6 @he (y6 @hw (y6 @hgt (y6 @hpe (y6 @hw1 (y6 @hsl (y6 @hfv (y6 @hix (y6 @dY (y6 @ev (y6 @fR ak)))))))))))
    repeat' ((first |(with_reducible refine .guard (fun hb =>?_) (fun hb =>?_) <;>try simp only[hb])|refine U.au (by decide +kernel) rfl fun K hK =>?_|refine .flat _ (f34) rfl ?_|refine .flat _ (f108) rfl ?_|refine .lead _ (f102) ?_|(refine .aq [0,1,2,3,4,8,13,56] hK ?_;clear hK K)|(with_reducible refine .done (hK _ ?_);clear hK K)|refine U.of rfl ?_|(with_reducible refine aj.ar (fun h =>?_) (fun h =>?_) <;>try simp only[h])) <;>try simp only[av,R,simprocAttr])
    all_goals clear R
    all_goals rfl
   rw[c1] at f108 heq;cases c2:((dN (l.take i) r.aT:Int)==r.no)
   ·have c2':((dN (l.take i) r.aT:Int) != r.no)=true:=by simp[bne,c2]
    rw[c2] at heq;have R:=y6 @hlc (y6 @he (y6 @hw (y6 @hgt (y6 @hpe (y6 @hw1 (y6 @hsl (y6 @hfv (y6 @hix (y6 @c2' (y6 @dY (y6 @ev (y6 @fR ak))))))))))))
    repeat' ((first |(with_reducible refine .guard (fun hb =>?_) (fun hb =>?_) <;>try simp only[hb])|refine U.au (by decide +kernel) rfl fun K hK =>?_|refine .flat _ (f34) rfl ?_|refine .flat _ (f108) rfl ?_|refine .lead _ (f102) ?_|(refine .aq [0,1,2,3,4,8,13,56] hK ?_;clear hK K)|(with_reducible refine .done (hK _ ?_);clear hK K)|refine U.of rfl ?_|(with_reducible refine aj.ar (fun h =>?_) (fun h =>?_) <;>try simp only[h])) <;>try simp only[av,R,zy8,simprocAttr])
    all_goals clear R
    all_goals rfl
   ·have c2':((dN (l.take i) r.aT:Int) != r.no)=false:=by simp[bne,c2]
    rw[c2] at heq;have R:=y6 @hlc (y6 @he (y6 @hw (y6 @hgt (y6 @hpe (y6 @hw1 (y6 @hsl (y6 @hfv (y6 @hix (y6 @c2' (y6 @dY (y6 @ev (y6 @fR ak))))))))))))
    repeat' ((first |(with_reducible refine .guard (fun hb =>?_) (fun hb =>?_) <;>try simp only[hb])|refine U.au (by decide +kernel) rfl fun K hK =>?_|refine .flat _ (f34) rfl ?_|refine .flat _ (f108) rfl ?_|refine .lead _ (f102) ?_|(refine .aq [0,1,2,3,4,8,13,56] hK ?_;clear hK K)|(with_reducible refine .done (hK _ ?_);clear hK K)|refine U.of rfl ?_|(with_reducible refine aj.ar (fun h =>?_) (fun h =>?_) <;>try simp only[h])) <;>try simp only[av,R,zy8,simprocAttr])
    all_goals clear R
    refine ⟨i+1,⟨by omega,hnx q1,by rfl⟩,by omega,?_⟩;clear heq hnx;refine bn.bZ ?_ ?_ ?_ ?_ <;>simp[bK,bP,bO,bF,aw,bI,cL,I.only,ai.only,bt]
    all_goals rfl
  ·have hgt:decide ((i:Int)>0)=false:=decide_eq_false (by omega);simp only[dif_neg hz] at heq ⊢;clear hst;generalize l[i]=r at *;cases c2:((dN (l.take i) r.aT:Int)==r.no)
   ·have c2':((dN (l.take i) r.aT:Int) != r.no)=true:=by simp[bne,c2]
    rw[c2] at heq;have R:=y6 @hlc (y6 @he (y6 @hw (y6 @hgt (y6 @hsl (y6 @hfv (y6 @hix (y6 @c2' (y6 @dY (y6 @ev (y6 @fR ak))))))))))
    repeat' ((first |(with_reducible refine .guard (fun hb =>?_) (fun hb =>?_) <;>try simp only[hb])|refine U.au (by decide +kernel) rfl fun K hK =>?_|refine .flat _ (f34) rfl ?_|refine .lead _ (f102) ?_|(refine .aq [0,1,2,3,4,8,13,56] hK ?_;clear hK K)|(with_reducible refine .done (hK _ ?_);clear hK K)|refine U.of rfl ?_|(with_reducible refine aj.ar (fun h =>?_) (fun h =>?_) <;>try simp only[h])) <;>try simp only[av,R,zy8,simprocAttr])
    all_goals clear R
    all_goals rfl
   ·have c2':((dN (l.take i) r.aT:Int) != r.no)=false:=by simp[bne,c2]
    rw[c2] at heq;have R:=y6 @hlc (y6 @he (y6 @hw (y6 @hgt (y6 @hsl (y6 @hfv (y6 @hix (y6 @c2' (y6 @dY (y6 @ev (y6 @fR ak))))))))))
    repeat' ((first |(with_reducible refine .guard (fun hb =>?_) (fun hb =>?_) <;>try simp only[hb])|refine U.au (by decide +kernel) rfl fun K hK =>?_|refine .flat _ (f34) rfl ?_|refine .lead _ (f102) ?_|(refine .aq [0,1,2,3,4,8,13,56] hK ?_;clear hK K)|(with_reducible refine .done (hK _ ?_);clear hK K)|refine U.of rfl ?_|(with_reducible refine aj.ar (fun h =>?_) (fun h =>?_) <;>try simp only[h])) <;>try simp only[av,R,zy8,simprocAttr])
    all_goals clear R
    refine ⟨i+1,⟨by omega,hnx q1,by rfl⟩,by omega,?_⟩;clear heq hnx;refine bn.bZ ?_ ?_ ?_ ?_ <;>simp[bK,bP,bO,bF,aw,bI,cL,I.only,ai.only,bt]
    all_goals rfl
 ·have hlc:=eX hlt;rw[List.drop_eq_nil_of_le (by omega),fp];have R:=y6 @hlc ak
  repeat' ((first |(with_reducible refine .guard (fun hb =>?_) (fun hb =>?_) <;>try simp only[hb])|refine U.au (by decide +kernel) rfl fun K hK =>?_|(refine .aq [0,1,2,3,4,8,13,56] hK ?_;clear hK K)|(with_reducible refine .done (hK _ ?_);clear hK K)|refine U.of rfl ?_|(with_reducible refine aj.ar (fun h =>?_) (fun h =>?_) <;>try simp only[h])) <;>try simp only[av,R,simprocAttr])
  all_goals clear R
  all_goals rfl
def pM(l:List ah)(x:ah):List ah×Int :=
 if fj l=false then ([],81) else if (mi bm l x 80 82 83 2).2≠0 then ([],(mi bm l x 80 82 83 2).2)
 else if (mi bm l x 80 82 83 2).1=false then (l,0) else (lL l x,0)
theorem ab2{v:I}{os:List (Nat×ai)}{l:List ah}{S:List Nat}(h:jT 8 v os l S):v.cn=true∧bT (some 1) (.agg [v])=true∧(I.agg [v]).aL=(I.agg [.nils 8]).aL∧fG [.nils 8] [(0,v)]=some [v]∧(I.agg [v]).cn=true:=by
 rcases h with ⟨rfl,rfl | rfl⟩ | ⟨n,q,hn,rfl,ho⟩ <;>exact ⟨rfl,rfl,rfl,rfl,rfl⟩
theorem GP(l:List ah)(x:ah)(hl:l.length≤4000000000000):aK Tryz.prog 46 [enc (⟨l⟩:dF),enc x] (.tuple [enc (⟨(pM l x).1⟩:dF),enc (pM l x).2]):=by
 refine aK.bJ Tryz.func46 Jk KH Mb (t7 rfl) (fun hwf W0 bC E1 =>?_);simp only[c46,Ej,bA,zz3];clear hwf;have f53:=pE l hl;simp only[pM];cases q1:fj l
 ·rw[show ij l=81 by simp[ij,q1]] at f53;simp only[if_true];have R:=y6 @gf ak
  repeat' ((first |refine U.au (by decide +kernel) rfl fun K hK =>?_|refine .flat _ (f53) rfl ?_|(refine .aq [0,1,2,3,4,5,6,7,10,20,24] hK ?_;clear hK K)|(with_reducible refine .done (hK _ ?_);clear hK K)|refine U.of rfl ?_|(with_reducible refine aj.ar (fun h =>?_) (fun h =>?_) <;>try simp only[h])) <;>try simp only[av,R,simprocAttr])
  all_goals clear R
  all_goals rfl
 rw[show ij l=0 by simp[ij,q1]] at f53;have hb:=jW q1;have hlen:=hb.len;have f89:=G3 l x hl (fun r hr=>jL (hb.ok r hr));simp only[Bool.true_eq_false,if_false];have f97:=G6 l x (by omega);generalize mi bm l x 80 82 83 2=p at *;obtain ⟨b,e⟩:=p;simp only at f89 ⊢;by_cases q2:e=0
 rotate_left
 ·have q2':(e != 0)=true:=by simpa using q2
  rw[if_pos q2];have R:=y6 @q2' (y6 @gf ak)
  repeat' ((first |refine U.au (by decide +kernel) rfl fun K hK =>?_|refine .flat _ (f53) rfl ?_|refine .lead _ (f89) ?_|(refine .aq [0,1,2,3,4,5,6,7,10,20,24] hK ?_;clear hK K)|(with_reducible refine .done (hK _ ?_);clear hK K)|refine U.of rfl ?_|(with_reducible refine aj.ar (fun h =>?_) (fun h =>?_) <;>try simp only[h])) <;>try simp only[av,R,simprocAttr])
  all_goals clear R
  all_goals rfl
 have q2':(e != 0)=false:=by simp[q2]
 rw[if_neg (by simp[q2])];cases b
 rotate_left
 ·simp only[Bool.true_eq_false,if_false];have R:=y6 @q2' (y6 @gf ak)
  repeat' ((first |refine U.au (by decide +kernel) rfl fun K hK =>?_|refine .flat _ (f53) rfl ?_|refine .lead _ (f89) ?_|refine .lead _ (f97) ?_|(refine .aq [0,1,2,3,4,5,6,7,10,20,24] hK ?_;clear hK K)|(with_reducible refine .done (hK _ ?_);clear hK K)|refine U.of rfl ?_|(with_reducible refine aj.ar (fun h =>?_) (fun h =>?_) <;>try simp only[h])) <;>try simp only[av,R,simprocAttr])
  all_goals clear R
  all_goals rfl
 ·simp only[if_true];have R:=y6 @q2' (y6 @dY (y6 @fo (y6 @gf ak)))
  repeat' ((first |refine U.au (by decide +kernel) rfl fun K hK =>?_|refine .flat _ (f53) rfl ?_|refine .lead _ (f89) ?_|(refine .aq [0,1,2,3,4,5,6,7,10,20,24] hK ?_;clear hK K)|(with_reducible refine .done (hK _ ?_);clear hK K)|refine U.of rfl ?_|(with_reducible refine aj.ar (fun h =>?_) (fun h =>?_) <;>try simp only[h])) <;>try simp only[av,R,simprocAttr])
  all_goals clear R
  refine ba.oM (bytes:=72) (default:ah) (ys:=l) rfl (BT _ []) rfl (by rw[zx9];omega) (by rw[zx9];simp only[maxLen];omega) fun v os hg hk =>?_;obtain ⟨g1,g2,g3,g4,g5⟩:=ab2 hg;rw[zy4] at hg;have h4:aG os 4=some (.box (.agg [.nils 8])):=by rw[hk 4 (by decide)];rfl
  have hst:∀ A b rest,dT A (some 1) 4 [] b (.agg [v]) rest (some (.agg [.nils 8]))=aA rest (A.aN 4 (.box (.agg [v]))):=fun A b rest=>by rw[fg (s:=some 1) (v:=.agg [v]) (old:=.agg [.nils 8]) g5 g2 g3,ff]
  have hf:∀ ts,bf true (al ts ((4,.box (.agg [v]))::os)) v=some (enc l):=fun ts=>vN rfl hg fun m hm=>by
   have:m≠4:=by
    simp only[zw5,List.not_mem_nil,or_false] at hm;omega
   simp[al,aG,this]
  try simp only[h4,g4,hst,aU,simprocAttr]
  refine .done (hK _ ?_);clear hK K;refine U.ret ?_;simp only[cg,aU,simprocAttr]
  try simp only[g2,hf,aU,simprocAttr]
  all_goals rfl
def px(l:List ah):List UInt8×Bool:=if l.all bm then (eJ 1 l,true) else ([],false)
theorem acE(l:List ah)(hl:l.length≤4000000000000):aK Tryz.prog 27 [enc l] (.tuple [enc (aD.of (px l).1),enc (px l).2]):=by
 refine aK.bJ Tryz.func27 Jc Kz L3 (t7 rfl) (fun hwf W0 bC E1 =>?_);simp only[zu,Ea,bA];clear hwf;have R:=y6 @bu ak
 repeat' ((first |refine U.au (by decide +kernel) rfl fun K hK =>?_|(refine .aq [0,2,3,4,5,6,7,8,9,13,27] hK ?_;clear hK K)|(with_reducible refine .done (hK _ ?_);clear hK K)|refine U.of rfl ?_|(with_reducible refine aj.ar (fun h =>?_) (fun h =>?_) <;>try simp only[h])) <;>try simp only[av,R,simprocAttr])
 all_goals clear R
 refine U.loop (fun i:Nat=>al [(0,enc l),(4,enc (aD.of (eJ 1 (l.take i)))),(5,.int .i64 (dW 1 (l.take i))),(6,.int .i64 i)] []) (fun i=>i≤l.length∧(∀ r∈l.take i,bm r=true)) (fun i=>l.length-i) 0 ⟨zw7 _,by simp⟩ ?_ ?_
 ·refine bn.bZ ?_ ?_ ?_ ?_ <;>simp[bK,bP,bO,bF,bI,I.only,bt]
  all_goals exact ⟨rfl,rfl⟩
 rintro i ⟨hi,hk⟩;by_cases hlt:i<l.length
 ·have hlc:=eB hlt;have he:=fun A=>dQ (A:=A) 8 hlt rfl;have hw:=dU (i:=i) (by omega);have hnx:=tr hlt hk;have hsn:=ue (l.take i) l[i] 1;rw[←iW hlt] at hsn;have hst:=rr (l.take i);have hin:dP 0 1000002 (dW 1 (l.take i))=true:=qn.2 (by omega);have hln:=rv (l.take i) (s:=1) (by omega) hk;have hli:(l.take i).length=i:=by rw[zy0];omega
  have hno:bm l[i]=false→px l=([],false):=fun h=>by
   rw[px,if_neg];intro h2;rw[zx3] at h2;rw[h2 _ (zw3 hlt)] at h;cases h
  have f29:=xZ (dW 1 (l.take i)) l[i];generalize l[i]=r at *;cases q:bm r
  ·rw[Cv hin q] at f29;rw[hno q];have R:=y6 @hlc (y6 @he (y6 @hw (y6 @bu ak)))
   repeat' ((first |refine U.au (by decide +kernel) rfl fun K hK =>?_|refine .lead _ (f29) ?_|(refine .aq [0,2,3,4,5,6,7,8,9,13,27] hK ?_;clear hK K)|(with_reducible refine .done (hK _ ?_);clear hK K)|refine U.of rfl ?_|(with_reducible refine aj.ar (fun h =>?_) (fun h =>?_) <;>try simp only[h])) <;>try simp only[av,R,simprocAttr])
   all_goals clear R
   all_goals rfl
  ·rw[Cw hin q] at f29;have hll:=qA hst q;clear hno;generalize dW 1 (l.take i)=z at *;generalize eJ 1 (l.take i)=u at *;have ha:=fe u (dR z r) (by omega);have R:=y6 @hlc (y6 @he (y6 @hw (y6 @ha (y6 @bu ak))))
   repeat' ((first |refine U.au (by decide +kernel) rfl fun K hK =>?_|refine .lead _ (f29) ?_|(refine .aq [0,2,3,4,5,6,7,8,9,13,27] hK ?_;clear hK K)|(with_reducible refine .done (hK _ ?_);clear hK K)|refine U.of rfl ?_|(with_reducible refine aj.ar (fun h =>?_) (fun h =>?_) <;>try simp only[h])) <;>try simp only[av,R,simprocAttr])
   all_goals clear R
   refine ⟨i+1,⟨by omega,hnx q⟩,by omega,?_⟩;rw[hsn.1,hsn.2];clear hsn hnx;refine bn.bZ ?_ ?_ ?_ ?_ <;>simp[bK,bP,bO,bF,bI,I.only,bt]
   all_goals rfl
 ·have hlc:=eX hlt;have hge:i=l.length:=by omega
  subst hge;rw[List.take_length] at hk ⊢;have:px l=(eJ 1 l,true):=by rw[px,if_pos (zx3.2 hk)]
  rw[this];have R:=y6 @hlc (y6 @bu ak)
  repeat' ((first |refine U.au (by decide +kernel) rfl fun K hK =>?_|(refine .aq [0,2,3,4,5,6,7,8,9,13,27] hK ?_;clear hK K)|(with_reducible refine .done (hK _ ?_);clear hK K)|refine U.of rfl ?_|(with_reducible refine aj.ar (fun h =>?_) (fun h =>?_) <;>try simp only[h])) <;>try simp only[av,R,simprocAttr])
  all_goals clear R
  all_goals rfl
def nk(l:List ah):ew 6 Int×Int:=if fj l then (c6 l,0) else (c6 [],81)
theorem GQ(l:List ah)(hl:l.length≤4000000000000):aK Tryz.prog 47 [enc (⟨l⟩:dF)] (.tuple [enc (nk l).1,enc (nk l).2]):=by
 refine aK.bJ Tryz.func47 Jl KI Mc (t7 rfl) (fun hwf W0 bC E1 =>?_);simp only[zE,Ek,bA];clear hwf;have f:=pI l hl;simp only[nk];cases q:fj l
 ·rw[q] at f;simp only[zz4,if_false];have R:=y6 @oC (y6 @fR ak)
  repeat' ((first |refine U.au (by decide +kernel) rfl fun K hK =>?_|refine .flat _ (f) rfl ?_|(refine .aq [0,1,2,3,6] hK ?_;clear hK K)|(with_reducible refine .done (hK _ ?_);clear hK K)|refine U.of rfl ?_|(with_reducible refine aj.ar (fun h =>?_) (fun h =>?_) <;>try simp only[h])) <;>try simp only[av,R,simprocAttr])
  all_goals clear R
  all_goals rfl
 ·rw[q] at f;have hb:=jW q;have f100:=ur l hl (fun r hr=>jL (hb.ok r hr));simp only[if_true];have R:=y6 @oC (y6 @fR ak)
  repeat' ((first |refine U.au (by decide +kernel) rfl fun K hK =>?_|refine .flat _ (f) rfl ?_|refine .lead _ (f100) ?_|(refine .aq [0,1,2,3,6] hK ?_;clear hK K)|(with_reducible refine .done (hK _ ?_);clear hK K)|refine U.of rfl ?_|(with_reducible refine aj.ar (fun h =>?_) (fun h =>?_) <;>try simp only[h])) <;>try simp only[av,R,simprocAttr])
  all_goals clear R
  all_goals rfl
theorem GR(l:List ah)(hl:l.length≤4000000000000):aK Tryz.prog 48 [enc (⟨l⟩:dF)] (.tuple [enc (nk l).1,enc (nk l).2]):=by
 refine aK.bJ Tryz.func48 Jm KJ Md (t7 rfl) (fun hwf W0 bC E1 =>?_);simp only[zF,El,bA];clear hwf;have f:=pE l hl;simp only[nk];cases q:fj l
 ·rw[show ij l=81 by simp[ij,q]] at f;simp only[zz4,if_false];have R:=y6 @oC (y6 @fR ak)
  repeat' ((first |refine U.au (by decide +kernel) rfl fun K hK =>?_|refine .flat _ (f) rfl ?_|(refine .aq [0,1,2,3,6] hK ?_;clear hK K)|(with_reducible refine .done (hK _ ?_);clear hK K)|refine U.of rfl ?_|(with_reducible refine aj.ar (fun h =>?_) (fun h =>?_) <;>try simp only[h])) <;>try simp only[av,R,simprocAttr])
  all_goals clear R
  all_goals rfl
 ·rw[show ij l=0 by simp[ij,q]] at f;have hb:=jW q;have f102:=uu l hl (fun r hr=>jL (hb.ok r hr));simp only[if_true];have R:=y6 @oC (y6 @fR ak)
  repeat' ((first |refine U.au (by decide +kernel) rfl fun K hK =>?_|refine .flat _ (f) rfl ?_|refine .lead _ (f102) ?_|(refine .aq [0,1,2,3,6] hK ?_;clear hK K)|(with_reducible refine .done (hK _ ?_);clear hK K)|refine U.of rfl ?_|(with_reducible refine aj.ar (fun h =>?_) (fun h =>?_) <;>try simp only[h])) <;>try simp only[av,R,simprocAttr])
  all_goals clear R
  all_goals rfl
theorem Dr(l:List ah)(x:ah):lL l x=fK l (eS l x.aV) x:=by
 obtain ⟨n,h1,h2,h3,h4⟩:=wM x l;have:eS l x.aV=n:=wJ h1 (fun k hk hkn=>h3 k hk hkn) fun h=>h4 h;rw[h2,this,fK]
theorem Ov{l:List ah}(hs:og l){a:Item}{r:ah}(h:l.find? (fun r=>decide (r.aV=a))=some r):im l a=true∧l.getD (eS l a) default=r:=by
 have hm:=List.mem_of_find?_eq_some h;have ha:r.aV=a:=by have:=List.find?_some h;simpa using this
 have hh:im l a=true:=by simp only[im,List.any_eq_true,decide_eq_true_eq];exact ⟨r,hm,ha⟩
 obtain ⟨h1,h2⟩:=(vO hs a).1 hh;refine ⟨hh,?_⟩;simp only[zz6,zz5 h1,Option.getD_some];have h3:(l[eS l a]).aV=r.aV:=h2.trans ha.symm;have e:(l[eS l a]).aT=r.aT∧(l[eS l a]).no=r.no:=by
  simp only[ah.aV,Item.mk.injEq] at h3;exact h3
 exact aaE (xt hs) (zw3 h1) hm e
theorem Ou{l:List ah}{a:Item}(h:l.find? (fun r=>decide (r.aV=a))=none):im l a=false:=by
 rw[im,List.any_eq_false];intro r hr;have:=List.find?_eq_none.1 h r hr;simpa using this
theorem Hl(l:List ah)(x:ah):eM l x=pM l x:=by
 have e:(rh x)=fun r=>decide (r.aV=x.aV):=funext fun r=>Fx x r;simp only[eM,pM,mi,e];cases q1:fj l
 ·simp only[if_true]
 have hb:=jW q1;simp only[Bool.true_eq_false,if_false];cases q2:bm x
 ·simp
 simp only[Bool.true_eq_false,if_false];cases q3:l.find? (fun r=>decide (r.aV=x.aV)) with
 |some r =>
  obtain ⟨h1,h2⟩:=Ov hb.rm q3;simp only[h1,if_true,h2];by_cases h:r=x
  ·simp[h]
  ·simp[h]
 |none =>
  simp only[Ou q3,zz4,if_false,Dr];by_cases h:(dN l x.aT:Int)<x.no
  ·simp[h]
  ·by_cases h4:l.length=60
   ·simp[h,h4]
   ·simp[h,h4]
def nU(l:List ah)(a:Item):Bool×Int:=if fj l=false then (false,81) else if iM a l 0<0 then (false,3) else ((b9 100000 l).getD (iM a l 0).toNat false,0)
theorem GU(l:List ah)(hl:l.length≤4000000000000)(a:Item):aK Tryz.prog 50 [enc (⟨l⟩:dF),enc a] (.tuple [enc (nU l a).1,enc (nU l a).2]):=by
 refine aK.bJ Tryz.func50 Jo KL Mf (t7 rfl) (fun hwf W0 bC E1 =>?_);simp only[zH,En,bA,zz3];clear hwf;have f53:=pE l hl;have f96:=yg l a hl;have f104:=xN l hl 100000;rw[nU];have h81:((81:Int) != 0)=true:=rfl;have h00:((0:Int) != 0)=false:=rfl;rw[ij] at f53;cases q1:fj l
 ·rw[q1] at f53;simp only[zz4,if_false] at f53;rw[if_pos rfl];have R:=y6 @h81 ak
  repeat' ((first |refine U.au (by decide +kernel) rfl fun K hK =>?_|refine .flat _ (f53) rfl ?_|(refine .aq [0,1,2,3,4,5,6,9,15] hK ?_;clear hK K)|(with_reducible refine .done (hK _ ?_);clear hK K)|refine U.of rfl ?_|(with_reducible refine aj.ar (fun h =>?_) (fun h =>?_) <;>try simp only[h])) <;>try simp only[av,R,simprocAttr])
  all_goals clear R
  all_goals rfl
 rw[q1,if_pos rfl] at f53;rw[if_neg (by decide)];cases q2:l.find? (fun r=>decide (r.aV=a)) with
 |none =>
  have e:=sf (i:=0) q2;rw[if_pos (by rw[e];decide)];obtain ⟨m1,hm1⟩:∃ m1:Int,m1=-1:=⟨_,rfl⟩
  rw[e,←hm1] at f96;have hls:decide (m1<0)=true:=by rw[hm1];rfl
  have R:=y6 @h00 (y6 @hls ak)
  repeat' ((first |refine U.au (by decide +kernel) rfl fun K hK =>?_|refine .flat _ (f53) rfl ?_|refine .lead _ (f96) ?_|(refine .aq [0,1,2,3,4,5,6,9,15] hK ?_;clear hK K)|(with_reducible refine .done (hK _ ?_);clear hK K)|refine U.of rfl ?_|(with_reducible refine aj.ar (fun h =>?_) (fun h =>?_) <;>try simp only[h])) <;>try simp only[av,R,simprocAttr])
  all_goals clear R
  all_goals rfl
 |some r =>
  obtain ⟨k,hk,h1,h2⟩:=qd (i:=0) q2;rw[zz3] at h1;rw[h1] at f96 ⊢;rw[if_neg (by omega),zw8];have hk2:k<(b9 100000 l).length:=by rw[iF];exact hk
  have he:=fun A=>dQ (A:=A) 1 hk2 rfl;have e2:(b9 100000 l).getD k false=(b9 100000 l)[k]:=by rw[zz6,zz5 hk2];rfl
  rw[e2];generalize (b9 100000 l)[k]=s at *;generalize b9 100000 l=S at *;obtain ⟨m1,hm1⟩:∃ m1:Int,m1=(k:Int):=⟨_,rfl⟩
  rw[←hm1] at f96;simp only[←hm1] at he;have hls:decide (m1<0)=false:=decide_eq_false (by omega);clear h1 hm1;have R:=y6 @h00 (y6 @hls (y6 @he ak))
  repeat' ((first |refine U.au (by decide +kernel) rfl fun K hK =>?_|refine .flat _ (f53) rfl ?_|refine .lead _ (f96) ?_|refine .lead _ (f104) ?_|(refine .aq [0,1,2,3,4,5,6,9,15] hK ?_;clear hK K)|(with_reducible refine .done (hK _ ?_);clear hK K)|refine U.of rfl ?_|(with_reducible refine aj.ar (fun h =>?_) (fun h =>?_) <;>try simp only[h])) <;>try simp only[av,R,simprocAttr])
  all_goals clear R
  all_goals rfl
def fJ(known:Int)(p:ah×Bool):Bool:=p.2&&(decide (p.1.known≤known)&&(p.1.kind != 0))
def kW(known:Int)(l:List ah):List ah:=((l.zip (b9 known l)).filter (fJ known)).map (·.1)
def l9(known:Int)(l:List ah):List ah×Int:=if fj l=false then ([],81) else if dP 0 100000 known=false then ([],6) else (kW known l,0)
theorem acb(known:Int)(l:List ah):(kW known l).length≤l.length:=by
 rw[kW,zz2];have:=List.length_filter_le (fJ known) (l.zip (b9 known l));rw[List.length_zip,iF] at this;omega
def uF(l:List ah)(known:Int)(x:Nat×List ah):ab:=al [(1,enc known),(2,.ptr 2 []),(6,enc (b9 known l)),(7,.own 7 x.2.length),(8,.int .i64 (x.1:Int))] [(2,.box (enc (⟨l⟩:dF))),(7,.bM 50 8 (x.2.map enc))]
theorem GW(l:List ah)(hl:l.length≤4000000000000)(known:Int):aK Tryz.prog 52 [enc (⟨l⟩:dF),enc known] (.tuple [enc (l9 known l).1,enc (l9 known l).2]):=by
 refine aK.bJ Tryz.func52 Jq KN Mh (t7 rfl) (fun hwf W0 bC E1 =>?_);simp only[zI,Ep,bA,zz3];clear hwf;have f53:=pE l hl;have f82:=mc known 0 100000;have f104:=xN l hl known;rw[l9];have h81:((81:Int) != 0)=true:=rfl;have h00:((0:Int) != 0)=false:=rfl;rw[ij] at f53;cases q1:fj l
 ·rw[q1] at f53;simp only[zz4,if_false] at f53;rw[if_pos rfl];have R:=y6 @h81 ak
  repeat' ((first |(with_reducible refine .guard (fun hb =>?_) (fun hb =>?_) <;>try simp only[hb])|refine U.au (by decide +kernel) rfl fun K hK =>?_|refine .flat _ (f53) rfl ?_|(refine .aq [0,1,2,4,5,6,7,8,11,14,22,47] hK ?_;clear hK K)|(with_reducible refine .done (hK _ ?_);clear hK K)|refine U.of rfl ?_|(with_reducible refine aj.ar (fun h =>?_) (fun h =>?_) <;>try simp only[h])) <;>try simp only[av,R,simprocAttr])
  all_goals clear R
  all_goals rfl
 have hlb:=(jW q1).len;rw[q1,if_pos rfl] at f53;rw[if_neg (by decide)];cases q2:dP 0 100000 known
 ·rw[q2] at f82;rw[if_pos rfl];have R:=y6 @h00 ak
  repeat' ((first |(with_reducible refine .guard (fun hb =>?_) (fun hb =>?_) <;>try simp only[hb])|refine U.au (by decide +kernel) rfl fun K hK =>?_|refine .flat _ (f53) rfl ?_|refine .flat _ (f82) rfl ?_|(refine .aq [0,1,2,4,5,6,7,8,11,14,22,47] hK ?_;clear hK K)|(with_reducible refine .done (hK _ ?_);clear hK K)|refine U.of rfl ?_|(with_reducible refine aj.ar (fun h =>?_) (fun h =>?_) <;>try simp only[h])) <;>try simp only[av,R,simprocAttr])
  all_goals clear R
  all_goals rfl
 rw[q2] at f82;rw[if_neg (by decide)];have R:=y6 @h00 ak
 repeat' ((first |(with_reducible refine .guard (fun hb =>?_) (fun hb =>?_) <;>try simp only[hb])|refine U.au (by decide +kernel) rfl fun K hK =>?_|refine .flat _ (f53) rfl ?_|refine .flat _ (f82) rfl ?_|refine .lead _ (f104) ?_|(refine .aq [0,1,2,4,5,6,7,8,11,14,22,47] hK ?_;clear hK K)|(with_reducible refine .done (hK _ ?_);clear hK K)|refine U.of rfl ?_|(with_reducible refine aj.ar (fun h =>?_) (fun h =>?_) <;>try simp only[h])) <;>try simp only[av,R,simprocAttr])
 all_goals clear R
 refine U.loop (uF l known) (fun x=>x.1≤l.length∧x.2=(((l.zip (b9 known l)).take x.1).filter (fJ known)).map (·.1)∧x.2.length≤x.1) (fun x=>l.length-x.1) (0,[]) ⟨zw7 _,rfl,zz8 _⟩ ?_ ?_
 ·refine bn.Hq 7 7 50 8 8 rfl rfl ?_;simp only[uF,zx9,zy9];refine bn.bZ ?_ ?_ ?_ ?_ <;>simp[bK,bP,bO,bF,aw,bI,cL,I.only,I.cB,ai.only,bt,oD]
  all_goals rfl
 rintro ⟨i,out⟩ ⟨hi,ho,hol⟩;simp only at hi ho hol;simp only[uF];have hfo:kF out.length (some (.bM 50 8 (out.map enc)))=some (enc out):=p9 8 rfl rfl;have hsl:=iF known l;by_cases hlt:i<l.length
 rotate_left
 ·have hc:=eX (show ¬ i<(b9 known l).length by omega);have:kW known l=out:=by
   rw[ho,kW,List.take_of_length_le (by rw[List.length_zip,hsl];omega)]
  rw[this];generalize b9 known l=S at *;have R:=y6 @hc (y6 @hfo ak)
  repeat' ((first |(with_reducible refine .guard (fun hb =>?_) (fun hb =>?_) <;>try simp only[hb])|refine U.au (by decide +kernel) rfl fun K hK =>?_|(refine .aq [0,1,2,4,5,6,7,8,11,14,22,47] hK ?_;clear hK K)|(with_reducible refine .done (hK _ ?_);clear hK K)|refine U.of rfl ?_|(with_reducible refine aj.ar (fun h =>?_) (fun h =>?_) <;>try simp only[h])) <;>try simp only[av,R,simprocAttr])
  all_goals clear R
  all_goals rfl
 have hc:=eB (show i<(b9 known l).length by omega);have he:=fun A=>dQ (A:=A) 8 hlt rfl;have hes:=fun A=>dQ (A:=A) 1 (show i<(b9 known l).length by omega) rfl;have hw:=dU (i:=i) (by omega);have hz:i<(l.zip (b9 known l)).length:=by rw[List.length_zip,hsl];omega
 have hst:(((l.zip (b9 known l)).take (i+1)).filter (fJ known)).map (·.1)=out++if fJ known (l[i],(b9 known l)[i]'(by omega))=true then [l[i]] else []:=by
  rw[zx7 hz,List.filter_append,zx4,←ho,List.getElem_zip,List.filter_cons];split <;>simp
 have hno:fJ known (l[i],(b9 known l)[i]'(by omega))=false→out=(((l.zip (b9 known l)).take (i+1)).filter (fJ known)).map (·.1):=fun h=>by rw[hst,h];simp
 have hyes:fJ known (l[i],(b9 known l)[i]'(by omega))=true→out++[l[i]]=(((l.zip (b9 known l)).take (i+1)).filter (fJ known)).map (·.1):=fun h=>by rw[hst,h];simp
 clear hst ho;generalize (b9 known l)[i]'(by omega)=s at *;generalize b9 known l=S at *;generalize l[i]=r at *;have hbs:gz 8 (some [enc r])=some (enc [r]):=ot 8 r rfl;have hap:=fun (A:ab) d rest=>yw (A:=A) (d:=d) 50 8 72 7 (l:=out.length) (es:=out) (ys:=[r]) (rest:=rest) rfl rfl (by simp) (by simp[maxLen];omega) (by simp;omega);cases qa:s
 ·have qb:=trivial;have qc:=trivial;have hg:fJ known (r,s)=false:=by rw[fJ,qa];rfl
  rw[qa] at hes hg;have R:=y6 @hc (y6 @he (y6 @hes (y6 @hw (y6 @qb (y6 @qc ak)))))
  repeat' ((first |(with_reducible refine .guard (fun hb =>?_) (fun hb =>?_) <;>try simp only[hb])|refine U.au (by decide +kernel) rfl fun K hK =>?_|(refine .aq [0,1,2,4,5,6,7,8,11,14,22,47] hK ?_;clear hK K)|(with_reducible refine .done (hK _ ?_);clear hK K)|refine U.of rfl ?_|(with_reducible refine aj.ar (fun h =>?_) (fun h =>?_) <;>try simp only[h])) <;>try simp only[av,R,simprocAttr])
  all_goals clear R
  refine ⟨(i+1,out),⟨by simp only;omega,by simp only;exact hno (by rw[qa];exact hg),by simp only;omega⟩,by simp only;omega,?_⟩;refine bn.bZ ?_ ?_ ?_ ?_ <;>simp[bK,bP,bO,bF,aw,bI,cL,I.only,ai.only,eR,bt]
  all_goals rfl
 cases qb:decide (r.known≤known)
 ·have qc:=trivial;have hg:fJ known (r,s)=false:=by rw[fJ,qa];simp only[qb];rfl
  rw[qa] at hes hg;have R:=y6 @hc (y6 @he (y6 @hes (y6 @hw (y6 @qb (y6 @qc ak)))))
  repeat' ((first |(with_reducible refine .guard (fun hb =>?_) (fun hb =>?_) <;>try simp only[hb])|refine U.au (by decide +kernel) rfl fun K hK =>?_|(refine .aq [0,1,2,4,5,6,7,8,11,14,22,47] hK ?_;clear hK K)|(with_reducible refine .done (hK _ ?_);clear hK K)|refine U.of rfl ?_|(with_reducible refine aj.ar (fun h =>?_) (fun h =>?_) <;>try simp only[h])) <;>try simp only[av,R,simprocAttr])
  all_goals clear R
  refine ⟨(i+1,out),⟨by simp only;omega,by simp only;exact hno (by rw[qa];exact hg),by simp only;omega⟩,by simp only;omega,?_⟩;refine bn.bZ ?_ ?_ ?_ ?_ <;>simp[bK,bP,bO,bF,aw,bI,cL,I.only,ai.only,eR,bt]
  all_goals rfl
 cases qc:(r.kind != 0)
 ·have hg:fJ known (r,s)=false:=by rw[fJ,qa];simp only[qb,qc];rfl
  rw[qa] at hes hg;have R:=y6 @hc (y6 @he (y6 @hes (y6 @hw (y6 @qb (y6 @qc ak)))))
  repeat' ((first |(with_reducible refine .guard (fun hb =>?_) (fun hb =>?_) <;>try simp only[hb])|refine U.au (by decide +kernel) rfl fun K hK =>?_|(refine .aq [0,1,2,4,5,6,7,8,11,14,22,47] hK ?_;clear hK K)|(with_reducible refine .done (hK _ ?_);clear hK K)|refine U.of rfl ?_|(with_reducible refine aj.ar (fun h =>?_) (fun h =>?_) <;>try simp only[h])) <;>try simp only[av,R,simprocAttr])
  all_goals clear R
  refine ⟨(i+1,out),⟨by simp only;omega,by simp only;exact hno (by rw[qa];exact hg),by simp only;omega⟩,by simp only;omega,?_⟩;refine bn.bZ ?_ ?_ ?_ ?_ <;>simp[bK,bP,bO,bF,aw,bI,cL,I.only,ai.only,eR,bt]
  all_goals rfl
 have hg:fJ known (r,s)=true:=by rw[fJ,qa];simp only[qb,qc];rfl
 rw[qa] at hes hg;have R:=y6 @hc (y6 @he (y6 @hes (y6 @hw (y6 @qb (y6 @qc (y6 @hbs (y6 @hap (y6 @hfo (y6 @dY ak)))))))))
 repeat' ((first |(with_reducible refine .guard (fun hb =>?_) (fun hb =>?_) <;>try simp only[hb])|refine U.au (by decide +kernel) rfl fun K hK =>?_|(refine .aq [0,1,2,4,5,6,7,8,11,14,22,47] hK ?_;clear hK K)|(with_reducible refine .done (hK _ ?_);clear hK K)|refine U.of rfl ?_|(with_reducible refine aj.ar (fun h =>?_) (fun h =>?_) <;>try simp only[h])) <;>try simp only[av,R,simprocAttr])
 all_goals clear R
 refine ⟨(i+1,out++[r]),⟨by simp only;omega,by simp only;exact hyes (by rw[qa];exact hg),by simp only[zz1,List.length_singleton];omega⟩,by simp only;omega,?_⟩;refine bn.bZ ?_ ?_ ?_ ?_ <;>simp[bK,bP,bO,bF,aw,bI,cL,I.only,I.cB,ai.only,eR,C8,bt]
 all_goals rfl
def kH(p:ah→Bool)(l:List ah):Int:=match l.findIdx? p with
 |some i=>i
 |none=>-1
theorem xT(l:List ah)(caps:List I)(hcaps:I.fV caps=true)(p:ah→Bool)(hl:l.length≤1000)(hf:∀ x∈l,aK Tryz.prog 107 (enc x::caps) (enc (p x))):aK Tryz.prog 146 [enc l,.func 107 caps] (enc (kH p l)):=by
 refine aK.bJ Tryz.func146 IX Kj LN (t7 rfl) (fun hwf W0 bC E1 =>?_);simp only[zg,DR,bA,zz3];clear hwf;have hcl:I.b7 caps=true:=oB caps hcaps;have hfc:∀ aE A,bL aE A caps=some caps:=fun aE A=>ni aE A caps hcaps;have hon:∀ q,I.cB q caps=true:=fun q=>kM q caps hcl;have R:=y6 @hfc ak
 repeat' ((first |refine U.au (by decide +kernel) rfl fun K hK =>?_|(refine .aq [0,1,4,5,7,8,9,16] hK ?_;clear hK K)|(with_reducible refine .done (hK _ ?_);clear hK K)|refine U.of rfl ?_|(with_reducible refine aj.ar (fun h =>?_) (fun h =>?_) <;>try simp only[h])) <;>try simp only[av,R,simprocAttr])
 all_goals clear R
 refine U.loop (fun i:Nat=>al [(0,enc l),(1,.func 107 caps),(7,.int .i64 l.length),(8,.int .i64 i)] []) (fun i=>i≤l.length∧∀ k,k<i→∀ h:k<l.length,p l[k]=false) (fun i=>l.length-i) 0 ⟨zw7 _,fun k h=>by omega⟩ ?_ (fun i hi =>?_)
 ·refine bn.bZ ?_ ?_ ?_ ?_ <;>simp[*,bK,bP,bO,bF,bI,I.only,bt]
 obtain ⟨hi1,hi2⟩:=hi;by_cases hlt:i<l.length
 ·have hlc:=eB hlt;have he:=fun A=>dQ (A:=A) 8 hlt rfl;have hw:=dU (i:=i) (by omega);have hP:=hf _ (zw3 hlt);rcases q:p l[i]
  ·rw[q] at hP;have R:=y6 @hlc (y6 @he (y6 @hw (y6 @hfc ak)))
   repeat' ((first |refine U.au (by decide +kernel) rfl fun K hK =>?_|refine .flat _ (hP) rfl ?_|(refine .aq [0,1,4,5,7,8,9,16] hK ?_;clear hK K)|(with_reducible refine .done (hK _ ?_);clear hK K)|refine U.of rfl ?_|(with_reducible refine aj.ar (fun h =>?_) (fun h =>?_) <;>try simp only[h])) <;>try simp only[av,R,zy2,simprocAttr])
   all_goals clear R
   refine ⟨i+1,⟨by omega,fun k hk h =>?_⟩,by omega,?_⟩
   ·by_cases e:k=i
    ·subst e;exact q
    ·exact hi2 k (by omega) h
   ·refine bn.bZ ?_ ?_ ?_ ?_ <;>simp[*,bK,bP,bO,bF,bI,I.only,bt]
  ·rw[q] at hP;have hm:kH p l=(i:Int):=by
    have:l.findIdx? p=some i:=List.findIdx?_eq_some_iff_getElem.2 ⟨hlt,q,fun j hj=>by simp[hi2 j hj (by omega)]⟩;simp only[kH,this]
   rw[hm];have R:=y6 @hlc (y6 @he (y6 @hfc ak))
   repeat' ((first |refine U.au (by decide +kernel) rfl fun K hK =>?_|refine .flat _ (hP) rfl ?_|(refine .aq [0,1,4,5,7,8,9,16] hK ?_;clear hK K)|(with_reducible refine .done (hK _ ?_);clear hK K)|refine U.of rfl ?_|(with_reducible refine aj.ar (fun h =>?_) (fun h =>?_) <;>try simp only[h])) <;>try simp only[av,R,zy2,simprocAttr])
   all_goals clear R
 ·have hlc:=eX hlt;have hm:kH p l=-1:=by
   have:l.findIdx? p=none:=List.findIdx?_eq_none_iff.2 fun x hx=>by
    obtain ⟨k,hk,rfl⟩:=List.mem_iff_getElem.1 hx;exact hi2 k (by omega) hk
   simp only[kH,this]
  rw[hm];have R:=y6 @hlc ak
  repeat' ((first |refine U.au (by decide +kernel) rfl fun K hK =>?_|(refine .aq [0,1,4,5,7,8,9,16] hK ?_;clear hK K)|(with_reducible refine .done (hK _ ?_);clear hK K)|refine U.of rfl ?_|(with_reducible refine aj.ar (fun h =>?_) (fun h =>?_) <;>try simp only[h])) <;>try simp only[av,R,simprocAttr])
  all_goals clear R
theorem Gk(caps:List I)(hcaps:I.fV caps=true):aK Tryz.prog 106 [enc ([]:List ah),.func 107 caps] (enc ([]:List ah)):=by
 refine aK.bJ Tryz.func106 Ab Al Aw (t7 rfl) (fun hwf W0 bC E1 =>?_);simp only[uX,wP,bA,zz3];clear hwf;have hfc:∀ aE A,bL aE A caps=some caps:=fun aE A=>ni aE A caps hcaps;have hF:=xT ([]:List ah) caps hcaps (fun _=>true) (by simp) (fun x h=>by cases h);have h1:kH (fun _=>true) []=-1:=rfl;rw[h1] at hF;have q1:((-1:Int)==-1)=true:=rfl;have R:=y6 @q1 (y6 @hfc ak)
 repeat' ((first |refine U.au (by decide +kernel) rfl fun K hK =>?_|refine .flat _ (hF) rfl ?_|(refine .aq [0,1,4,5,6,7,12,19,29] hK ?_;clear hK K)|(with_reducible refine .done (hK _ ?_);clear hK K)|refine U.of rfl ?_|(with_reducible refine aj.ar (fun h =>?_) (fun h =>?_) <;>try simp only[h])) <;>try simp only[av,R,simprocAttr])
 all_goals clear R
def jP(k:Nat)(ws:List ah):List (Nat×ai):=[(k,.box (.agg (ws.map enc)))]
theorem sZ(p:Nat→Bool)(l:List ah):(I.agg (l.map enc)).only p=true:=by simp only[I.only];exact eR p l
theorem abz{ws:List ah} : ∀ m,aw (jP 1000000 ws) m=true→1000000≤m:=fun m hm=>by rw[fL.1 hm];exact zz8 _
theorem Ce{n i:Nat}(h:i<n)(fs:List I):kI 1000000 [] 8 0 n 8 (i:Int) (some fs)=some (.ptr 1000000 [i]):=by
 have:=sL (m:=1000000) (sz:=8) (lo:=0) (l:=n) (i:=i) (fs:=fs) h
 rwa [zz3] at this
theorem ab6{A:ab}{n i:Nat}{xs:List ah}(h:i<xs.length)(v u:ah){rest:List aC} : dT A (some 8) n [i] (.agg (xs.map enc)) (enc v) rest (some (enc u))=aA rest (A.aN n (.box (.agg ((xs.set i v).map enc)))):=by
 rw[fg (eW v) (by rw[ik];rfl) ((eh v).trans (eh u).symm)];have h2:(xs.map (enc (α:=ah)))[i]?=some (enc (xs[i])):=by simp[h]
 simp only[I.dm,h2,List.map_set]
def AH(xs:List ah)(p:ah→Bool)(N:Nat):cd:=fun r os'=>∃ us:List ah,r=.view 1000000 [] 8 0 (xs.filter fun x => !p x).length∧os'=jP 1000000 us∧us.take (xs.filter fun x => !p x).length=(xs.filter fun x => !p x)∧us.length=N
theorem Gj(xs q:List ah)(hn:xs.length≤200)(hq:0<(xs++q).length)(caps:List I)(hcaps:I.fV caps=true)(p:ah→Bool)(hf:∀ x∈xs,aK Tryz.prog 107 (enc x::caps) (enc (p x))) :
  eU Tryz.prog 106 [.view 1000000 [] 8 0 xs.length,.func 107 caps] (jP 1000000 (xs++q)) (AH xs p (xs++q).length):=by
 refine eU.bJ Tryz.func106 Ab Al Aw (t7 rfl) (t7 rfl) abz (fun hwf W0 bC E1 =>?_);simp only[uX,wP,bA,zz3];clear hwf;have hcl:I.b7 caps=true:=oB caps hcaps;have hfc:∀ aE A,bL aE A caps=some caps:=fun aE A=>ni aE A caps hcaps;have hon:∀ q,I.cB q caps=true:=fun q=>kM q caps hcl;have hF:=xT xs caps hcaps p (by omega) hf;have hfp:jD 8 0 xs.length (some ((xs++q).map enc))=some (enc xs):=by rw[nh (α:=ah) (sz:=8) rfl,List.take_left]
 simp only[jP];cases hfi:xs.findIdx? p with
 |none =>
  have hi:kH p xs=-1:=by simp[kH,hfi]
  rw[hi] at hF;rw[List.findIdx?_eq_none_iff] at hfi;have hk:(xs.filter fun x => !p x)=xs:=by
   rw[List.filter_eq_self];intro x hx;simp[hfi x hx]
  have q1:((-1:Int)==-1)=true:=rfl;have R:=y6 @q1 (y6 @hfp (y6 @hfc (y6 @ov (y6 @fo ak))))
  repeat' ((first |refine U.au (by decide +kernel) rfl fun K hK =>?_|refine .flat _ (hF) rfl ?_|(refine .aq [0,1,4,5,6,7,12,19,29] hK ?_;clear hK K)|(with_reducible refine .done (hK _ ?_);clear hK K)|refine U.of rfl ?_|(with_reducible refine aj.ar (fun h =>?_) (fun h =>?_) <;>try simp only[h])) <;>try simp only[av,R,simprocAttr])
  all_goals clear R
  rw[iR];exact ⟨jP 1000000 (xs++q),[.view 1000000 [] 8 0 xs.length],mz rfl (fun p=>sZ p _),⟨⟨_,rfl,.inl ⟨rfl,rfl,rfl⟩⟩,trivial⟩,xs++q,by rw[hk];rfl,rfl,by rw[hk,List.take_left],rfl⟩
 |some i0 =>
  obtain ⟨q1,q2,q3⟩:=List.findIdx?_eq_some_iff_getElem.1 hfi;have hi:kH p xs=(i0:Int):=by simp[kH,hfi]
  rw[hi] at hF;have hstart:xs.take i0=(xs.take (i0+1)).filter fun x => !p x:=by
   rw[zx7 q1,List.filter_append,List.filter_cons,q2];simp only[Bool.not_true,zz4,if_false,List.filter_nil,List.append_nil]
   symm
   rw[List.filter_eq_self];intro x hx;obtain ⟨j,hj,rfl⟩:=List.mem_take_iff_getElem.1 hx;have:=q3 j (by omega);simpa using this
  have n1:((i0:Int)==-1)=false:=beq_eq_false_iff_ne.2 (by omega);have hwi:=dU (i:=i0) (by omega);have R:=y6 @n1 (y6 @hwi (y6 @hfp (y6 @hfc (y6 @ov (y6 @fo ak)))))
  repeat' ((first |refine U.au (by decide +kernel) rfl fun K hK =>?_|refine .flat _ (hF) rfl ?_|(refine .aq [0,1,4,5,6,7,12,19,29] hK ?_;clear hK K)|(with_reducible refine .done (hK _ ?_);clear hK K)|refine U.of rfl ?_|(with_reducible refine aj.ar (fun h =>?_) (fun h =>?_) <;>try simp only[h])) <;>try simp only[av,R,simprocAttr])
  all_goals clear R
  refine U.loop (fun s:List ah×Nat×Nat=>al [(0,.view 1000000 [] 8 0 xs.length),(1,.func 107 caps),(5,.int .i64 s.2.1),(6,.int .i64 s.2.2)] (jP 1000000 s.1)) (fun s=>s.1.length=(xs++q).length∧s.2.1<s.2.2∧s.2.2≤xs.length∧s.1.take s.2.1=(xs.take s.2.2).filter (fun x => !p x)∧s.1.drop s.2.2=(xs++q).drop s.2.2) (fun s=>xs.length-s.2.2) (xs++q,i0,i0+1) ⟨rfl,by simp only;omega,by simp only;omega,?_,rfl⟩ ?_ ?_
  ·simp only;rw[List.take_append_of_le_length (by omega)];exact hstart
  ·simp only[jP];refine bn.bZ ?_ ?_ ?_ ?_ <;>simp[*,bK,bP,bO,bF,aw,bI,cL,I.only,ai.only,eR,C8]
  rintro ⟨ws,i,j⟩ ⟨c1,c2,c3,c4,c5⟩;simp only at c1 c2 c3 c4 c5 ⊢;simp only[jP];have hlen:(xs++q).length=xs.length+q.length:=zz1;by_cases hlt:j<xs.length
  ·have hc:=eB hlt;have hwj:=dU (i:=j) (by omega);have hwi2:=dU (i:=i) (by omega);have v1:=Ce (n:=xs.length) (i:=j) hlt;have v2:=Ce (n:=xs.length) (i:=i) (by omega);have l1:=uN (xs:=ws) (i:=j) (default:ah) (by omega);have l2:=uN (xs:=ws) (i:=i) (default:ah) (by omega);have hwj2:ws.getD j (default:ah)=xs[j]:=by
    have h1:(ws.drop j)[0]?=((xs++q).drop j)[0]?:=by rw[c5]
    simp only[List.getElem?_drop,Nat.add_zero] at h1;rw[zz6,h1,zx8 hlt,zz5 hlt];rfl
   rw[hwj2] at l1;have hP:=hf _ (zw3 hlt);have ht:(xs.take (j+1)).filter (fun x => !p x)=(xs.take j).filter (fun x => !p x)++if (!p xs[j]) then [xs[j]] else []:=by
    rw[zx7 hlt,List.filter_append,List.filter_cons,List.filter_nil]
   have s1:=fun (A:ab) v u rest=>ab6 (A:=A) (n:=1000000) (xs:=ws) (i:=i) (rest:=rest) (by omega) v u;generalize xs[j]=y at l1 hP ht;rcases hp:p y
   ·rw[hp] at hP ht;simp only[Bool.not_false,if_true] at ht;have R:=y6 @hc (y6 @hwj (y6 @hwi2 (y6 @v1 (y6 @v2 (y6 @l1 (y6 @l2 (y6 @s1 (y6 @hfc (y6 @dY (y6 @ev (y6 @ov (y6 @fo ak))))))))))))
    repeat' ((first |refine U.au (by decide +kernel) rfl fun K hK =>?_|refine .flat _ (hP) rfl ?_|(refine .aq [0,1,4,5,6,7,12,19,29] hK ?_;clear hK K)|(with_reducible refine .done (hK _ ?_);clear hK K)|refine U.of rfl ?_|(with_reducible refine aj.ar (fun h =>?_) (fun h =>?_) <;>try simp only[h])) <;>try simp only[av,R,zy2,simprocAttr])
    all_goals clear R
    refine ⟨(ws.set i y,i+1,j+1),⟨by simp[c1],by simp only;omega,by simp only;omega,?_,?_⟩,by simp only;omega,?_⟩
    ·simp only;rw[ht,←c4,zx7 (by simp;omega),List.take_set_of_le (zz8 _)];simp
    ·simp only;rw[List.drop_set_of_lt (by omega)];have:(ws.drop j).drop 1=((xs++q).drop j).drop 1:=by rw[c5]
     simpa[List.drop_drop] using this
    ·simp only[];generalize ws.set i y=us;refine bn.bZ ?_ ?_ ?_ ?_ <;>simp[*,bK,bP,bO,bF,aw,bI,cL,I.only,ai.only,eR]
   ·rw[hp] at hP ht;simp only[Bool.not_true,zz4,if_false,List.append_nil] at ht;have R:=y6 @hc (y6 @hwj (y6 @v1 (y6 @l1 (y6 @hfc (y6 @dY (y6 @ev (y6 @ov (y6 @fo ak))))))))
    repeat' ((first |refine U.au (by decide +kernel) rfl fun K hK =>?_|refine .flat _ (hP) rfl ?_|(refine .aq [0,1,4,5,6,7,12,19,29] hK ?_;clear hK K)|(with_reducible refine .done (hK _ ?_);clear hK K)|refine U.of rfl ?_|(with_reducible refine aj.ar (fun h =>?_) (fun h =>?_) <;>try simp only[h])) <;>try simp only[av,R,zy2,simprocAttr])
    all_goals clear R
    refine ⟨(ws,i,j+1),⟨c1,by simp only;omega,by simp only;omega,?_,?_⟩,by simp only;omega,?_⟩
    ·simp only;rw[ht];exact c4
    ·simp only;have:(ws.drop j).drop 1=((xs++q).drop j).drop 1:=by rw[c5]
     simpa[List.drop_drop] using this
    ·simp only[];refine bn.bZ ?_ ?_ ?_ ?_ <;>simp[*,bK,bP,bO,bF,aw,bI,cL,I.only,ai.only,eR]
  ·have hj:j=xs.length:=by omega
   subst hj;have hc:=eX hlt;rw[List.take_length] at c4;have hlk:(xs.filter fun x => !p x).length=i:=by rw[←c4,zy0];omega
   have hsl2:=lZ (n:=1000000) (p:=[]) (sz:=8) (k:=xs.length) (total:=ws.length) (i:=i) (by omega) (by omega) (by omega);have hsl3:=fun us:List ah=>fun (hu:us.length=ws.length)=>xm (n:=1000000) (p:=[]) (sz:=8) (k:=xs.length) (total:=us.length) (i:=i) (by omega) (by omega);have hml2:∀ us:List ah,(us.map (enc (α:=ah))).length=us.length:=fun us=>by simp
   have hclr:=fun (A:ab) rest ho=>Ll (A:=A) (rest:=rest) (esz:=8) (α:=ah) (default:ah) (n:=1000000) (lo:=i) (k:=xs.length-i) (xs:=ws) ho (by omega);obtain ⟨us,hus⟩:∃ us,us=ws.take i++(List.replicate (xs.length-i) (default:ah)++ws.drop (i+(xs.length-i))):=⟨_,rfl⟩
   have hul:us.length=ws.length:=by
    rw[hus];simp only[zz1,zy0,List.length_replicate,zx5];omega
   have hut:us.take i=xs.filter fun x => !p x:=by
    rw[hus,List.take_append_of_le_length (by rw[zy0];omega),List.take_take,Nat.min_self,c4]
   have hsl3:=hsl3 us hul;simp only[←hus] at hclr;refine U.seq (U.seq ?_);refine .fQ (by decide +kernel) fun K hK =>?_;simp only[BC,aU,simprocAttr]
   try simp only[hc,fo,aU,simprocAttr]
   refine .done (hK _ ?_);clear hK K;try simp only[cg]
   refine U.fM ?_;simp only[aj,aU,simprocAttr];refine ⟨fun h =>?_,fun h =>?_⟩
   ·cases h
   refine U.exit ?_;try simp only[cg,iJ,simprocAttr]
   refine .di (by decide +kernel) fun K hK =>?_;simp only[BA,aU,simprocAttr]
   try simp only[hml2,hsl2,zy8,dY,fo,aU,simprocAttr]
   rw[hclr _ _ rfl]
   try simp only[aU,simprocAttr]
   refine .done (hK _ ?_);clear hK K;refine .di (by decide +kernel) fun K hK =>?_;simp only[BB,aU,simprocAttr]
   try simp only[hml2,hsl3,zy8,fo,aU,simprocAttr]
   refine .done (hK _ ?_);clear hK K;refine U.ret ?_;simp only[iR];exact ⟨jP 1000000 us,[.view 1000000 [] 8 0 i],mz rfl (fun p=>sZ p _),⟨⟨_,rfl,.inl ⟨rfl,rfl,rfl⟩⟩,trivial⟩,us,by rw[hlk];rfl,rfl,by rw[hlk];exact hut,by omega⟩
theorem C0(l:List ah):bT none (enc l)=true:=by simp[vi,AL]
theorem s9:(∀ (x:I) xs (f:I→Bool),(x::xs).all f=(f x&&xs.all f))∧(∀ f:I→Bool,([]:List I).all f=true)∧(∀ n p,(I.ptr n p).cn=true)∧(∀ b,(true&&b)=b) :=
 ⟨fun _ _ _=>List.all_cons,fun _=>List.all_nil,fun _ _=>rfl,fun _=>rfl⟩
theorem wF:∀ m,aw [] m=true→m<1000000:=fun m h=>by simp[aw,aG] at h
theorem BX{os os2 ow:List (Nat×ai)}{ts:List (Nat×I)}(h:dM os os2)(how:∀ m,aw ow m=true→m<1000000):∀ n x,aG os2 n=some x→(al ts (ow++os2)).o n=some x∧x.only (aw os2)=true∧x.dO=true:=fun n x hx=>by
 have hn:aw os2 n=true:=by simp[aw,hx]
 have hg:=h.j5 n (by rw[←h.same];exact hn);refine ⟨?_,h.ok n x hx⟩;simp only[al,v7];cases hw:aG ow n with
 |none=>exact hx
 |some y=>have:=how n (by simp[aw,hw]);omega
def ga(l:List ah)(i:Nat):ah:=l.getD i default
theorem YD{A:ab}{l:List ah}{i:Nat}(h:i<l.length):ji A 8 (i:Int) (enc l)=some (.ref (enc (ga l i))):=by
 rw[dQ 8 h rfl,ga,zz6,zz5 h];rfl
theorem GH(l:List ah)(hl:l.length≤4000000000000):yh Tryz.prog 165 [.ref (enc l)] l.length (fun k=>[.int .i64 ((l.length-1-k:Nat):Int),enc (ga l (l.length-1-k))]):=by
 intro Y v aW Ix os hv hY hI hIx h0;have hG:=hI 0 os h0;refine iH.bJ Tryz.func165 Af Kp LU (t7 rfl) (t7 rfl) hG.j5 (fun hwf W0 bC E1 =>?_);simp only[zm,DX,bA,zz3];refine .di (by decide +kernel) fun K hK =>?_;simp only[BD,aU,simprocAttr]
 try simp only[C0,ak,aU,simprocAttr]
 rw[dE ((l.length:Int)-1) (by omega) (by omega)];refine .done (hK _ ?_);clear hK K;refine U.block (U.loop (fun s:Nat×List (Nat×ai)=>al [(0,.raw v),(1,.ref (enc l)),(3,.int .i64 ((l.length:Int)-1-s.1))] s.2) (fun s=>s.1≤l.length∧aW s.1 s.2) (fun s=>l.length-s.1) (0,os) ⟨zw7 _,h0⟩ ?_ ?_)
 ·refine bn.slots ?_ (fun n=>rfl);simp[bK,bI]
 rintro ⟨k,osk⟩ ⟨hk,hIk⟩;simp only at hk hIk ⊢;have gk:=hI k osk hIk;refine U.seq (U.seq ?_);refine .fQ (by decide +kernel) fun K hK =>?_;simp only[BE,aU,simprocAttr];refine .done (hK _ ?_);clear hK K;try simp only[cg]
 refine U.fM ?_;simp only[aj,aU,simprocAttr];refine ⟨fun h =>?_,fun h =>?_⟩
 ·have hlt:k<l.length:=by simp at h;omega
  have hix:((l.length:Int)-1-k)=((l.length-1-k:Nat):Int):=by omega
  rw[hix];refine U.skip ?_;try simp only[cg,simprocAttr]
  refine U.seq (U.block (U.seq ?_));refine .fQ (by decide +kernel) fun K hK =>?_;simp only[BF,aU,simprocAttr]
  try simp only[C0,YD (l:=l) (i:=l.length-1-k) (by omega),Ak,ak,aU,simprocAttr]
  refine ba.Gb (ow:=[]) (In:=aW (k+1)) (Ix:=Ix) (hY k osk _ hlt hIk (fun r os2 h=>h)) gk (hI _) hIx (by simp[I.b7,gN,I.bw]) wF (fun os2 h2 =>?_) (fun os2 h2 =>?_)
  ·try simp only[zy4,aU,simprocAttr]
   refine .done (hK _ ?_);clear hK K;try simp only[cg]
   refine U.fM ?_;simp only[aj,aU,simprocAttr];refine ⟨fun h =>?_,fun h =>?_⟩
   ·cases h
   refine U.skip ?_;try simp only[cg,iJ,simprocAttr]
   refine .fQ (by decide +kernel) fun K hK =>?_;simp only[BG,aU,simprocAttr];refine .done (hK _ ?_);clear hK K;try simp only[cg]
   refine ⟨(k+1,os2),⟨by simp only;omega,h2⟩,by simp only;omega,?_⟩;simp only;rw[dE _ (by omega) (by omega)];have e:(((l.length-1-k:Nat):Int)-1)=((l.length:Int)-1-((k+1:Nat):Int)):=by omega
   rw[e];refine bn.slots ?_ (fun n=>rfl);simp[bK,bI]
  ·try simp only[zy4,aU,simprocAttr]
   refine .done (hK _ ?_);clear hK K;try simp only[cg]
   refine U.fM ?_;simp only[aj,aU,simprocAttr];refine ⟨fun h =>?_,fun h =>?_⟩
   ·refine U.ret ?_;simp only[cg,iJ];rw[iR];exact ⟨os2,[],BX (ow:=[]) (hIx os2 h2) wF,trivial,rfl,.inr h2⟩
   ·cases h
 ·have he:k=l.length:=by simp at h;omega
  subst he;refine U.exit ?_;try simp only[cg,iJ,simprocAttr]
  rw[E8];exact ⟨osk,[],BX (ow:=[]) gk wF,trivial,rfl,.inl hIk⟩
theorem GC(l:List ah):aK Tryz.prog 145 [enc l] (.func 165 [.ref (enc l)]):=by
 refine aK.bJ Tryz.func145 IW Ki LM (t7 rfl) (fun hwf W0 bC E1 =>?_);simp only[c145,DQ,bA];have R:=y6 @s9 (y6 @gN ak)
 repeat' ((first |refine U.au (by decide +kernel) rfl fun K hK =>?_|(refine .aq [0,1,2] hK ?_;clear hK K)|(with_reducible refine .done (hK _ ?_);clear hK K)|refine U.of rfl ?_|(with_reducible refine aj.ar (fun h =>?_) (fun h =>?_) <;>try simp only[h])) <;>try simp only[av,R,simprocAttr])
 all_goals clear R
 all_goals rfl
end Go.Proofs.YtoffnnjbplgnaaaGreatDoor
