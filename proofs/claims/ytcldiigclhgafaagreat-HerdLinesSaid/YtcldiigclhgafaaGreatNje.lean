/-
  A part of the proof that the law HerdLines returns true for every input; conditions: none beyond the statement's own. (part 5 of 7)
-/
import Derived.Test.YtcldiigclhgafaaGreatRows
import Derived.Test.YtcldiigclhgafaaGreatNjd
set_option linter.unusedSimpArgs false
set_option linter.unusedVariables false
set_option maxHeartbeats 16000000
set_option maxRecDepth 100000
namespace Go.Proofs.YtcldiigclhgafaaGreat
open Go Go.Abs
open Go.Abs.Enc (enc)
def fe(rs:List (aR 6 Int))(j:Nat):aR 6 Int:=rs.getD j ln
theorem agx{A:ae}{rs:List (aR 6 Int)}{i:Nat}(h:i<rs.length):iB A 6 (i:Int) (enc rs)=some (.ref (enc (fe rs i))):=by
 rw[fH 6 h rfl];simp[fe,zz1,h]
def CM(m:b7)(rs:List (aR 6 Int))(g:ca)(j:Nat):Bool:=decide (lB m.eR g.mark (fe rs j)≤m.eP)
def jC(m:b7)(rs:List (aR 6 Int))(n:Nat):List ca:=m.given.filter fun g=>(List.range n).all (CM m rs g)
theorem ail(m:b7)(rs:List (aR 6 Int)):jC m rs 0=m.given:=by simp[jC]
theorem Ky(m:b7)(rs:List (aR 6 Int))(n:Nat):jC m rs (n+1)=kV ⟨m.eR,m.eP,jC m rs n⟩ (fe rs n):=by
 simp only[jC,kV,fR,List.filter_filter];refine List.filter_congr fun g _ =>?_;rw[List.range_succ,List.all_append];simp only[List.all_cons,List.all_nil,Bool.and_true,CM];by_cases h:lB m.eR g.mark (fe rs n)≤m.eP
 ·have h2:¬ m.eP<lB m.eR g.mark (fe rs n):=by omega
  simp[h,h2]
 ·have h2:m.eP<lB m.eR g.mark (fe rs n):=by omega
  simp[h,h2]
theorem aik{m:b7}{rs:List (aR 6 Int)}{n:Nat}{g:ca}(h:g∈jC m rs n):g∈m.given:=(zw9.1 h).1
theorem Kx(m:b7)(rs:List (aR 6 Int))(n:Nat):(jC m rs n).length≤m.given.length:=zv4 _ _
def ya(rs:List (aR 6 Int)):Bool:=(List.range rs.length).all fun i=>gZ (fe rs i)
def jc(m:b7)(rs:List (aR 6 Int)):List Int×Int:=if ez m then (if rs.length≤60 then (if ya rs then ((jC m rs rs.length).map (·.bP),0) else ([],12)) else ([],2)) else ([],13)
theorem QZ(w:aR 5 Int)(n:Int)(l:List ca):dX [enc (a5 0 0 0 0 0),.int .i64 0,.nils 7] [(0,enc w),(1,.int .i64 n),(2,enc l)]=some [enc w,.int .i64 n,enc l]:=by
 have h1:((enc w:I).b8=true∧(enc w:I).size=(enc (a5 0 0 0 0 0)).size):=⟨dO _,by rw[gp,gp]⟩
 have h2:((enc l:I).b8=true∧(enc l:I).size=(I.nils 7).size):=⟨dO _,by rw[gp];rfl⟩
 rw[oR (z:=enc (a5 0 0 0 0 0)) rfl h1.1 h1.2,oR (v:=.int .i64 n) (z:=.int .i64 0) rfl rfl rfl,oR (z:=.nils 7) rfl h2.1 h2.2];rfl
theorem OO(m:b7)(rs:List (aR 6 Int)):aD Tryz.prog 128 [enc m,enc rs] (.tuple [enc (jc m rs).1,enc (jc m rs).2]):=by
 refine aD.bA Tryz.func128 Rm Ta Vh (t7 rfl) (fun hwf W0 D0 E1 =>?_);simp only[AE,LB,bp,zz4];refine .ao (by decide +kernel) fun K hK =>?_;simp only[Em,ab,simprocAttr]
 try simp only[dO,ab,simprocAttr]
 refine .done (hK _ ?_);clear hK K;refine J.seq ?_;refine .ao (by decide +kernel) fun K hK =>?_;simp only[En,ab,simprocAttr]
 try simp only[cG,cZ,ab,simprocAttr]
 refine .flat _ (uN m) rfl ?_;generalize hm:ez m=bm;cases bm
 ·try simp only[ab,simprocAttr]
  refine .done (hK _ ?_);clear hK K;refine .ao (by decide +kernel) fun K hK =>?_;simp only[vX,ab,simprocAttr];refine .done (hK _ ?_);clear hK K;refine J.bH ?_;simp only[aq,ab,simprocAttr];refine ⟨fun h =>?_,fun h =>?_⟩
  ·refine .ao (by decide +kernel) fun K hK =>?_;simp only[Eo,ab,simprocAttr];refine .done (hK _ ?_);clear hK K;refine J.ret ?_;simp only[ar,ab,simprocAttr];simp[jc,hm,xV]
  ·cases h
 try simp only[ab,simprocAttr]
 refine .done (hK _ ?_);clear hK K;refine .ao (by decide +kernel) fun K hK =>?_;simp only[vX,ab,simprocAttr];refine .done (hK _ ?_);clear hK K;refine J.bH ?_;simp only[aq,ab,simprocAttr];refine ⟨fun h =>?_,fun h =>?_⟩
 ·cases h
 refine J.skip ?_;try simp only[ar,simprocAttr]
 refine J.seq ?_;refine .ao (by decide +kernel) fun K hK =>?_;simp only[Ep,ab,simprocAttr]
 try simp only[bG,ab,simprocAttr]
 refine .done (hK _ ?_);clear hK K;refine J.bH ?_;simp only[aq,ab,simprocAttr];refine ⟨fun h =>?_,fun h =>?_⟩
 ·refine .ao (by decide +kernel) fun K hK =>?_;simp only[Er,ab,simprocAttr];refine .done (hK _ ?_);clear hK K;refine J.ret ?_;simp only[ar,ab,simprocAttr];have:¬ rs.length≤60:=by simp at h;omega
  simp[jc,hm,this,xV]
 have hrl:rs.length≤60:=by simp at h;omega
 refine J.skip ?_;try simp only[ar,simprocAttr]
 have hlen:m.given.length≤1000:=by have:=KJ hm;omega
 -- from the clone on
 have key:∀ c:cS,c=⟨Tryz.prog,W0,D0,Tryz.f128.ntmps,dz E1,E1,iE,none⟩→J c (.seq (.seq (.cg none vY) (.block 0 (.loop (.seq (.cg none vZ) (.seq (.cond (.t 25) .skip (.exit 0)) (.seq (.block 1 (.seq (.cg none v7) (.seq (.seq (.cg none vT) (.seq (.cg none sO) (.cond (.t 31) (.seq (.cg none vU) .ret) .skip))) (.cg none vV)))) (.cg none sP))))))) (.seq (.cg none vW) .ret))
   (jH [.tmp 4,.tmp 5] (.tuple [enc (jc m rs).1,enc (jc m rs).2])) (au [(1,enc rs),(2,.ptr 2 []),(7,enc m.given)] [(2,.box (enc m))]):=by
  rintro c rfl;refine J.seq ?_;refine .ao (by decide +kernel) fun K hK =>?_;simp only[vY,ab,simprocAttr]
  try simp only[bG,ab,simprocAttr]
  refine .done (hK _ ?_);clear hK K;refine J.block (J.loop (fun i:Nat=>au [(1,enc rs),(2,.ptr 2 []),(7,enc (jC m rs i)),(22,enc rs),(23,.int .i64 rs.length),(24,.int .i64 i)] [(2,.box (enc m))]) (fun i=>i≤rs.length∧∀ j,j<i→gZ (fe rs j)=true) (fun i=>rs.length-i) 0 ⟨by omega,fun j h=>by omega⟩ ?_ (fun i hi =>?_))
  ·rw[ail];refine aF.bM ?_ ?_ ?_ ?_ <;>simp[aX,bK,bJ,a8,al,aY,cu,I.only,ai.only,bt]
  refine .ao (by decide +kernel) fun K hK =>?_;simp only[vZ,ab,simprocAttr];refine .done (hK _ ?_);clear hK K;refine J.seq ?_;refine J.bH ?_;simp only[aq,ab,simprocAttr];refine ⟨fun h =>?_,fun h =>?_⟩
  case refine_2.refine_2 =>
   have hge:i=rs.length:=by simp at h;omega
   subst hge;have hok:ya rs=true:=qv hi.2;refine J.exit ?_;try simp only[ar,bL,simprocAttr]
   refine .ao (by decide +kernel) fun K hK =>?_;simp only[vW,ab,simprocAttr]
   try simp only[cZ,ab,simprocAttr]
   refine .lead _ (Pa (jC m rs rs.length) (zv8 (Kx _ _ _) hlen)) ?_
   try simp only[ab,simprocAttr]
   refine .done (hK _ ?_);clear hK K;refine J.ret ?_;simp only[ab,simprocAttr]
   try simp only[cZ,ab,simprocAttr]
   simp[jc,hm,hrl,hok]
  have hlt:i<rs.length:=by simp at h;omega
  refine J.skip ?_;try simp only[ar,simprocAttr]
  refine J.seq (J.block ?_);refine .ao (by decide +kernel) fun K hK =>?_;simp only[v7,ab,simprocAttr]
  try simp only[cG,agx hlt,CQ,qj,ab,simprocAttr]
  refine .done (hK _ ?_);clear hK K;refine J.seq ?_;refine .ao (by decide +kernel) fun K hK =>?_;simp only[vT,ab,simprocAttr]
  try simp only[cG,cZ,ab,simprocAttr]
  refine .flat _ (zn (fe rs i)) rfl ?_;generalize hr:gZ (fe rs i)=aQ;cases aQ
  ·try simp only[ab,simprocAttr]
   refine .done (hK _ ?_);clear hK K;refine .ao (by decide +kernel) fun K hK =>?_;simp only[sO,ab,simprocAttr];refine .done (hK _ ?_);clear hK K;refine J.bH ?_;simp only[aq,ab,simprocAttr];refine ⟨fun h =>?_,fun h =>?_⟩
   ·refine .ao (by decide +kernel) fun K hK =>?_;simp only[vU,ab,simprocAttr];refine .done (hK _ ?_);clear hK K;refine J.ret ?_;simp only[bL,ar,ab,simprocAttr];have hok:ya rs=false:=nW i hlt hr;simp[jc,hm,hrl,hok,xV]
   ·cases h
  try simp only[ab,simprocAttr]
  refine .done (hK _ ?_);clear hK K;refine .ao (by decide +kernel) fun K hK =>?_;simp only[sO,ab,simprocAttr];refine .done (hK _ ?_);clear hK K;refine J.bH ?_;simp only[aq,ab,simprocAttr];refine ⟨fun h =>?_,fun h =>?_⟩
  ·cases h
  refine J.skip ?_;try simp only[ar,simprocAttr]
  have hof:∀ j,j<i+1→gZ (fe rs j)=true:=fun j hj=>by
   rcases Nat.lt_or_ge j i with h1 | h1
   ·exact hi.2 j h1
   ·have:j=i:=by omega
    subst this;exact hr
  refine .bu (by decide +kernel) fun K hK =>?_;simp only[vV,ab,simprocAttr]
  try simp only[cG,cZ,QZ,CP,qI,ab,simprocAttr]
  refine .bT false [(7,40)] [] [enc (⟨m.eR,m.eP,jC m rs i⟩:b7),enc (fe rs i)] (Li 7 ⟨m.eR,m.eP,jC m rs i⟩ (fe rs i)) rfl (O9 ⟨m.eR,m.eP,jC m rs i⟩ (fe rs i) (fun g hg=>KM hm g (aik hg)) (zv8 (Kx m rs i) hlen)) fZ.nil ⟨.inl ⟨(kg _ _).symm,bt _ _,dO _⟩,.inl ⟨(kg _ _).symm,bt _ _,dO _⟩,trivial⟩ ?_ ?_
  ·rintro x os' (⟨_,rfl,rfl⟩ | ⟨k,rfl,rfl⟩)
   ·exact eK.nil (fun _=>rfl) (fun h=>by cases h)
   ·exact eK.tx (fun p=>mE p _) (fun h=>by cases h) rfl (fun h=>by cases h) rfl (by decide)
  ·rintro x os' (⟨hp,rfl,rfl⟩ | ⟨k,rfl,rfl⟩)
   ·try simp only[kg,jF,zy6,ab,simprocAttr]
    refine .done (hK _ ?_);clear hK K;try simp only[ar,bL]
    refine .bu (by decide +kernel) fun K hK =>?_;simp only[sP,ab,simprocAttr];refine .done (hK _ ?_);clear hK K;try simp only[ar]
    refine ⟨i+1,⟨by omega,hof⟩,by omega,?_⟩;rw[cE _ (by omega) (by omega),Ky,hp];refine aF.bM ?_ ?_ ?_ ?_ <;>simp[aX,bK,bJ,a8,al,aY,cu,I.only,ai.only,bt]
   ·try simp only[iJ,jF,gM,zy0,zy6,ab,simprocAttr]
    refine .done (hK _ ?_);clear hK K;try simp only[ar,bL]
    refine .bu (by decide +kernel) fun K hK =>?_;simp only[sP,ab,simprocAttr];refine .done (hK _ ?_);clear hK K;try simp only[ar]
    refine ⟨i+1,⟨by omega,hof⟩,by omega,?_⟩;rw[cE _ (by omega) (by omega),Ky];refine aF.qR (y:=enc (kV ⟨m.eR,m.eP,jC m rs i⟩ (fe rs i))) [40] 7 rfl ?_ ?_ ?_ ?_ ?_ ?_
    ·try simp only[iC,zw1,zv9,List.contains_cons,List.contains_nil,Nat.reduceBEq,Bool.or_false,BEq.rfl,sK (α:=ca) (sz:=7) rfl,y5,ab,simprocAttr]
    ·simp[db,a8,ai.only,bt]
    ·simp[aX,gF,aY,I.only,bt]
    ·simp[bK,db,cu]
    ·simp[bJ,al,cu,I.only,bt]
    ·simp[a8,ai.only,bt]
 refine .ao (by decide +kernel) fun K hK =>?_;simp only[Es,ab,simprocAttr]
 try simp only[cG,cZ,ab,simprocAttr]
 refine .bT false [(7,21)] [] [enc m.given] (vk m.given) rfl (zq m.given hlen) fZ.nil ⟨.inl ⟨(kg _ _).symm,bt _ _,dO _⟩,trivial⟩ ?_ ?_
 ·rintro x os' (⟨_,h | h,rfl⟩ | ⟨_,k,rfl,rfl⟩)
  ·subst h;exact eK.nil (fun _=>rfl) (fun h=>by cases h)
  ·subst h;exact eK.nil (fun _=>rfl) (fun h=>by cases h)
  ·exact eK.tx (fun p=>mE p _) (fun h=>by cases h) rfl (fun h=>by cases h) rfl (by decide)
 ·rintro x os' (⟨hn,h,rfl⟩ | ⟨hn,k,rfl,rfl⟩)
  ·have hren:∀ x:I,(x=.nils 7∨x=.c0 7)→x.aK (bx [(7,21)])=x:=by rintro x (rfl | rfl) <;>simp only[I.aK]
   rw[hren x h]
   try simp only[jF,zy6,ab,simprocAttr]
   refine .done (hK _ ?_);clear hK K;refine J.sub (aF.qR (y:=enc m.given) [] 7 rfl ?_ ?_ ?_ ?_ ?_ ?_) (key _ rfl)
   ·rw[hn];rcases h with rfl | rfl <;>simp only[gn,zx1] <;>rfl
   ·simp[db,a8,ai.only,bt]
   ·simp[aX,gF,aY,I.only,bt]
   ·simp[bK,db,cu]
   ·simp[bJ,al,cu,I.only,bt]
   ·simp[a8,ai.only,bt]
  ·try simp only[iJ,jF,gM,zy0,zy6,ab,simprocAttr]
   refine .done (hK _ ?_);clear hK K;refine J.sub (aF.qR (y:=enc m.given) [21] 7 rfl ?_ ?_ ?_ ?_ ?_ ?_) (key _ rfl)
   ·try simp only[iC,zw1,zv9,List.contains_cons,List.contains_nil,Nat.reduceBEq,Bool.or_false,BEq.rfl,sK (α:=ca) (sz:=7) rfl,y5,ab,simprocAttr]
   ·simp[db,a8,ai.only,bt]
   ·simp[aX,gF,aY,I.only,bt]
   ·simp[bK,db,cu]
   ·simp[bJ,al,cu,I.only,bt]
   ·simp[a8,ai.only,bt]
theorem C9(n:Nat)(ts:List (Nat×I)):∀ t,Abs.cn (gF [n] ts) t=if (Abs.cn ts t).only (fun j => ![n].contains j)=true then Abs.cn ts t else .dp:=by
 intro t;simp only[gF]
 induction ts with
 |nil=>simp[Abs.cn]
 |cons q ts ih =>
  obtain ⟨k,v⟩:=q;simp only[zz9,Abs.cn];split
  ·rfl
  ·exact ih
theorem uF{p q:Nat→Bool}(h:∀ n,p n=true→q n=true){y:ai}(hy:y.only p=true):y.only q=true:=by
 cases y with
 |box x=>exact jd h _ hy
 |bX T sz es=>exact iG h _ hy
 |dQ o=>rfl
 |cV T xs=>rfl
 |cv ks vs=>simp only[ai.only,zz2] at hy ⊢;exact ⟨iG h _ hy.1,iG h _ hy.2⟩
 |it ks vs l c=>simp only[ai.only,zz2] at hy ⊢;exact ⟨iG h _ hy.1,iG h _ hy.2⟩
theorem tJ{n k:Nat} : ∀ {ts:List (Nat×I)},(∀ q∈ts,nH n k q.2)→∀ t,nH n k (Abs.cn ts t)
 | [],_,_=>.inr rfl
 |(a,v)::ts,h,t=>by
  simp only[Abs.cn];split
  ·exact h (a,v) (by simp)
  ·exact tJ (fun q hq=>h q (by simp[hq])) t
theorem tK{p:Nat→Bool}{n k:Nat}(hp:p=fun j => ![n].contains j)(f:ai→ai)(hf:∀ y:ai,y.only p=true→f y=y):∀ {os:List (Nat×ai)},a8 p (db [n] os)→a8 p (db [n] (os.map fun q=>(q.1,f q.2)))
 | [],_=>trivial
 |(m,y)::os,h=>by
  simp only[zz9,db,zw1] at h ⊢;split
  ·rename_i hm;rw[if_pos hm] at h;refine ⟨?_,tK (k:=k) hp f hf h.2⟩;rw[hf y h.1];exact h.1
  ·rename_i hm;rw[if_neg hm] at h;exact tK (k:=k) hp f hf h
theorem Dc{ys q:List Int}{k:Nat}(hk:ys.length=k):mz 1 0 k (some ((ys++q).map enc))=some (enc ys):=by
 have h:(((ys++q).map (enc (α:=Int))).drop 0).take k=ys.map enc:=by
  rw[List.drop_zero,zx6,zw6 (by simp[hk]),zv5 (by simp[hk])]
 simp only[mz,h];rw[if_pos (jP ys),gn];rfl
theorem Og{n k:Nat} : ∀ y:ai,y.only (fun j => ![n].contains j)=true→iL (fL n k) y=y:=fun y hy=>by
 cases y <;>try rfl
 simp only[ai.only] at hy;simp only[iL,rQ (jd (fun j hj=>by simpa using hj) _ hy)]
theorem Of{n:Nat} : ∀ y:ai,y.only (fun j => ![n].contains j)=true→iL (fK n) y=y:=fun y hy=>by
 cases y <;>try rfl
 simp only[ai.only] at hy;simp only[iL,y0 (jd (fun j hj=>by simpa using hj) _ hy)]
theorem Ob{ts ts':List (Nat×I)}(h:∀ q∈ts',Abs.cn ts q.1=q.2):aX ts ts':=by
 induction ts' with
 |nil=>trivial
 |cons q ts' ih=>exact ⟨h q (by simp),ih fun q hq=>h q (by simp[hq])⟩
theorem J.NT{W0:World}{D0:aM}{nn:Nat}{ow:Nat→Prop}{E1:aW}{Y:Value→List I→List (Nat×ai)→cT→Prop}{mR:Option Nat}{y:aP}{Q:Exit→ae→Prop}{ts:List (Nat×I)}{os:List (Nat×ai)}{a b d n:Nat}{xs:List Int}
  (hd:Abs.cn ts d=.own n xs.length) (hn:ak os n=some (.cV 3 xs)) (hlt:n<1000000) (hl:xs.length≤60) (ht:∀ t,nH n xs.length (Abs.cn ts t)) (ho:a8 (fun j => ![n].contains j) (db [n] os))
  (ts':List (Nat×I)) (h1:∀ q∈ts',q.1≠a∧q.1≠b∧Abs.cn ts q.1=q.2∧q.2.only (fun j=>j != n)=true)
  (hda:d≠a) (hdb:d≠b)
  (h:J ⟨Tryz.prog,W0,D0,nn,ow,E1,Y,mR⟩ y Q (au ((d,enc (dJ xs))::ts') (db [n] os))) :
  J ⟨Tryz.prog,W0,D0,nn,ow,E1,Y,mR⟩ (.seq (.cg none [⟨some a,.mv (.t d),none⟩,⟨some b,.call 107 [.t a],none⟩]) y) Q (au ts os):=by
 have hdrop:∀ m,ak (db [n] os) m=if m=n then none else ak os m:=fun m=>by
  have:=nz [n] os m;simpa using this
 have ho':∀ m y,ak os m=some y→m≠n→y.only (fun j=>j != n)=true:=fun m y hy hm=>by
  have:=yc ho m y (by rw[hdrop,if_neg hm];exact hy);exact uF (fun j hj=>by simpa using hj) this
 by_cases hx:xs=[]
 ·subst hx;refine J.sub (aF.Om hn (aF.refl _)) ?_;refine J.seq (J.cg (cl:=[]) (by rfl) fun K hK =>?_);have hd':Abs.cn (ts.map fun q=>(q.1,fK n q.2)) d=.nils 1:=by
   rw[pR _ rfl,hd];simp[fK]
  simp only[ab,simprocAttr,hd'];refine .flat _ (OJ _ (.inr rfl)) rfl ?_
  try simp only[ab,simprocAttr]
  refine .done (hK _ ?_);clear hK K;refine J.sub ((aF.ib [n] d (x:=.nils 1) (y:=enc ([]:List Int)) ?_ (by rfl) ?_).trans (aF.c8 ?_ fun m =>?_)) h
  ·simp only[Abs.cn,hda,hdb,if_false];exact hd'
  ·exact tK (k:=0) rfl (iL (fK n)) Of ho
  ·refine ⟨by simp[Abs.cn,dJ],Ob fun q hq =>?_⟩;obtain ⟨k1,k2,k3,k4⟩:=h1 q hq;have hqd:q.1≠d:=fun e=>by
    rw[e,hd] at k3;rw[←k3] at k4;simp[I.only] at k4
   have h5:Abs.cn (ts.map fun p=>(p.1,fK n p.2)) q.1=q.2:=by
    rw[pR _ rfl,k3,y0 k4]
   simp only[Abs.cn,C9,k1,k2,hqd,if_false,h5];rw[if_pos (jd (fun j hj=>by simpa using hj) _ k4)]
  ·rw[hdrop,nz,th];by_cases hm:m=n
   ·simp[hm]
   ·cases h6:ak os m with
    |none=>simp[hm]
    |some y =>
     have h7:iL (fK n) y=y:=Of _ (uF (fun j hj=>by simpa using hj) (ho' _ _ h6 hm));simp[hm,h7]
 ·refine J.Ol hn hx hlt ht (fun m y hy hm=>.inr (ho' m y hy hm)) fun q =>?_;refine J.seq (J.cg (cl:=[]) (by rfl) fun K hK =>?_);have hd':Abs.cn (ts.map fun p=>(p.1,fL n xs.length p.2)) d=.view n [] 1 0 xs.length:=by
   rw[pR _ rfl,hd];simp[fL]
  simp only[ab,simprocAttr,hd'];refine .bT false [(1000000,n)] (cA 1000000 (xs++List.replicate q 0)) [.view 1000000 [] 1 0 xs.length] _ rfl (OI xs _ (by omega)) ?_ ?_ ?_ ?_
  ·refine ⟨fun m y hy =>?_,fun m m' h h' _=>by rw[dy.1 h,dy.1 h']⟩;simp only[cA,ak] at hy;split at hy
   ·rename_i hm;cases hy;subst hm;exact ⟨by simp only[bx,if_true,ak,ai.aK,I.aK,gM],oA _ _,rfl⟩
   ·cases hy
  ·exact ⟨.inl ⟨by simp[I.aK,bx],dy.2 rfl,rfl⟩,trivial⟩
  ·rintro fe os2 ⟨rfl,rfl⟩;refine ⟨fun m y hy =>?_,fun m m' h h' _=>by rw[dy.1 h,dy.1 h'],fun m hm=>by rw[dy.1 hm];exact dy.2 rfl,fun m a b=>by rw[dy.1 a] at b;simp[cA,al,ak] at b,rfl,fun _=>rfl⟩;simp only[cA,ak] at hy;split at hy
   ·cases hy;exact ⟨oA _ _,rfl,fun h=>by cases h⟩
   ·cases hy
  ·rintro fe os2 ⟨rfl,rfl⟩
   try simp only[cA,dH,zz9,zx1,ai.aK,I.aK,gM,bx,reduceIte,zy0,zy6,I.cJ,ab,simprocAttr]
   refine .done (hK _ ?_);clear hK K;refine J.sub ((aF.ib [n] d (x:=.view n [] 1 0 xs.length) (y:=enc (dJ xs)) ?_ ?_ ?_).trans (aF.c8 ?_ fun m =>?_)) h
   ·simp only[Abs.cn,hda,hdb,if_false];exact hd'
   ·have:ak (iC [n] ((n,ai.box (I.agg ((dJ xs++List.replicate q 0).map enc)))::(n,ai.box (I.agg ((xs++List.replicate q 0).map enc)))::os.map fun p=>(p.1,iL (fL n xs.length) p.2))) n=some (.box (.agg ((dJ xs++List.replicate q 0).map enc))):=by
     rw[ox];simp[ak]
    try simp only[this,ab,simprocAttr]
    exact Dc (by simp[dJ])
   ·have:=tK (k:=0) rfl (iL (fL n xs.length)) Og ho;simpa[db] using this
   ·refine ⟨by simp[Abs.cn],Ob fun q hq =>?_⟩;obtain ⟨k1,k2,k3,k4⟩:=h1 q hq;have hqd:q.1≠d:=fun e=>by
     rw[e,hd] at k3;rw[←k3] at k4;simp[I.only] at k4
    have h5:Abs.cn (ts.map fun p=>(p.1,fL n xs.length p.2)) q.1=q.2:=by
     rw[pR _ rfl,k3,rQ k4]
    simp only[Abs.cn,C9,k1,k2,hqd,if_false,h5];rw[if_pos (jd (fun j hj=>by simpa using hj) _ k4)]
   ·rw[hdrop,nz];by_cases hm:m=n
    ·simp[hm]
    ·simp only[ak,if_neg hm,th];cases h6:ak os m with
     |none=>simp[hm]
     |some y =>
      have h7:iL (fL n xs.length) y=y:=Og _ (uF (fun j hj=>by simpa using hj) (ho' _ _ h6 hm));simp[hm,h7]
def fB(l:List av)(o:List Nat)(i:Nat):List aB×List Nat:=(o.take i).foldl (lh ev l) ([],[])
theorem Le{l:List av}{o:List Nat}{i:Nat}(h:i<o.length):fB l o (i+1)=lh ev l (fB l o i) (o.getD i 0):=by
 have e:o.getD i 0=o[i]:=by rw[zz1,zz8 h];rfl
 simp only[fB];rw[zy3 h,List.foldl_append,e];rfl
theorem Ld(l:List av)(o:List Nat):fB l o o.length=rB ev l o:=by simp only[fB,List.take_length];rfl
theorem Qn{bs bs':List aB}{x:av}{n:Nat}(hs:∀ b∈bs,b.cm.length≤n)(h:ea ev bs x=some bs'):bs'.length≤bs.length+1∧∀ b∈bs',b.cm.length≤n+1:=by
 simp only[ea] at h;split at h
 ·split at h
  ·simp only[u8] at h;subst h;refine ⟨by simp[ev],fun b hb =>?_⟩;simp only[ev,zy1,zw5] at hb;rcases hb with hb | rfl
   ·exact Nat.le_succ_of_le (hs b hb)
   ·simp[eY]
  ·cases h
 ·split at h
  ·cases h
  ·rename_i b0 hb0;simp only[zz0] at h;obtain ⟨b',hb',rfl⟩:=h;refine ⟨by simp[lb],fun b hb =>?_⟩;simp only[lb,zx4] at hb;obtain ⟨c,hc,rfl⟩:=hb;split
   ·have h0:=hs b0 (oi hb0).1;simp only[eT] at hb'
    repeat' split at hb'
    all_goals first
     |(cases hb';done)
     |(simp only[u8] at hb';subst hb';simp only[zz5,List.length_singleton];omega)
     |(simp only[u8] at hb';subst hb';simp only;omega)
   ·exact Nat.le_succ_of_le (hs c hc)
theorem yi(l:List av)(o:List Nat):∀ i,i≤o.length→((fB l o i).1.map (·.no)).Nodup∧(fB l o i).1.length≤i∧(∀ b∈(fB l o i).1,b.cm.length≤i)∧(fB l o i).2.length≤i
 |0,_=>⟨by simp[fB],by simp[fB],by simp[fB],by simp[fB]⟩
 |i+1,h=>by
  obtain ⟨h1,h2,h3,h4⟩:=yi l o i (by omega);rw[Le (by omega)];simp only[lh];split
  ·rename_i bs hb;have:=Qn h3 hb;exact ⟨z7 zS h1 hb,by simp only;omega,this.2,by simp only;omega⟩
  ·exact ⟨h1,by simp only;omega,fun b hb=>Nat.le_succ_of_le (h3 b hb),by simp;omega⟩
theorem J0(B:Nat)(b:aB):∀ (bs:List aB) (i:Nat),eX B i (bs++[b])=eX B i bs++eX B (i+bs.length) [b]
 | [],i=>rfl
 |a::bs,i=>by
  simp only[zy0,eX,J0 B b bs (i+1),List.length_cons];rw[show i+1+bs.length=i+(bs.length+1) by omega]
theorem ai5(B n:Nat):eA B (n+1)=eA B n++[.ptr (B+2+2*n) []]:=by
 simp only[eA,List.range_succ,zx6,zz9,zx1]
theorem qT{bs:List aB}{n:Nat}(h:¬ (n=43∨n=41∨(2002≤n∧n<2002+2*bs.length))):ak (ec bs) n=none:=by
 have:=xe (bs:=bs) (n:=n);rw[decide_eq_false h] at this;simpa[al] using this
theorem agj{bs:List aB}{n:Nat}(h:n=43∨n=41∨(2002≤n∧n<2002+2*bs.length)):∃ y,ak (ec bs) n=some y:=by
 have:=xe (bs:=bs) (n:=n);rw[decide_eq_true h] at this;exact zw0.1 this
theorem xC{bs bs':List aB}{z y:ai}(h:bs.length≤bs'.length)(n:Nat):ak (ec bs'++((900,z)::(ec bs++[(3,y)]))) n=ak ((900,z)::(ec bs'++[(3,y)])) n:=by
 simp only[km,ak];by_cases h1:n=43∨n=41∨(2002≤n∧n<2002+2*bs'.length)
 ·obtain ⟨u,hu⟩:=agj h1;have:n≠900:=by omega
  simp only[hu,this,if_false]
 ·have h2:ak (ec bs) n=none:=qT (by omega);simp only[qT h1,h2]
theorem ag4{bs:List aB}{z z' y:ai}(n:Nat):ak ((900,z')::(ec bs++((900,z)::(ec bs++[(3,y)])))) n=ak ((900,z')::(ec bs++[(3,y)])) n:=by
 have h:=xC (bs:=bs) (bs':=bs) (z:=z) (y:=y) (zz7 _) n;by_cases hn:n=900
 ·simp only[ak,hn,if_true]
 ·simp only[ak,if_neg hn] at h ⊢;rw[h]
theorem ag3{bs:List aB}{b:aB}{z y:ai}(hk:bs.length≤60)(hb:b.cm=[])(n:Nat) :
  ak ((2002+2*bs.length,.box (eD b (.own (2003+2*bs.length) 0)))::(2003+2*bs.length,.bX 66 6 [])::(nq bs b++((900,z)::(ec bs++[(3,y)])))) n=ak ((900,z)::(ec (bs++[b])++[(3,y)])) n:=by
 have hC:ak (ec (bs++[b])) n=if n=43 then some (.box (.agg [.mref 41])) else if n=41 then some (.cv (dc (bs++[b])) (eA 2000 bs.length++[.ptr (2002+2*bs.length) []])) else
   match ak (eX 2000 0 bs) n with
   |some u=>some u
   |none=>if n=2002+2*bs.length then some (.box (eD b (.own (2003+2*bs.length) 0))) else if n=2003+2*bs.length then some (.bX 66 6 []) else none:=by
  simp only[ec,ak,J0,km,eX,hb,zx1,List.length_nil,zz5,List.length_singleton,ai5,zz4];rfl
 have hL:ak (ec bs) n=if n=43 then some (.box (.agg [.mref 41])) else if n=41 then some (.cv (dc bs) (eA 2000 bs.length)) else ak (eX 2000 0 bs) n:=rfl
 have hlow:n<2002→ak (eX 2000 0 bs) n=none:=fun h=>tf 2000 bs 0 n (by omega);have hhigh:2002+2*bs.length≤n→ak (eX 2000 0 bs) n=none:=fun h=>td 2000 bs 0 n (by omega);simp only[ak,km,nq,zy0,hC,hL];by_cases c1:n=2002+2*bs.length
 ·have d1:¬ n=900:=by omega
  have d2:¬ n=43:=by omega
  have d3:¬ n=41:=by omega
  rw[if_pos c1,if_neg d1,if_neg d2,if_neg d3,hhigh (by omega)];simp only[c1,if_true]
 by_cases c2:n=2003+2*bs.length
 ·have d1:¬ n=900:=by omega
  have d2:¬ n=43:=by omega
  have d3:¬ n=41:=by omega
  rw[if_neg c1,if_pos c2,if_neg d1,if_neg d2,if_neg d3,hhigh (by omega)];simp only[c2,if_true];rw[if_neg (by omega)]
 rw[if_neg c1,if_neg c2];by_cases c3:n=41
 ·have d1:¬ n=900:=by omega
  have d2:¬ n=43:=by omega
  rw[if_pos c3,if_neg d1,if_neg d2,if_pos c3]
 rw[if_neg c3,if_neg c1];by_cases iR:n=43
 ·have d1:¬ n=900:=by omega
  simp only[iR,if_true];simp
 rw[if_neg iR,if_neg iR];by_cases lx:n=900
 ·have:=hlow (by omega);subst lx;simp[this]
 ·cases hq:ak (eX 2000 0 bs) n with
  |some u=>simp only[lx,c3,if_false]
  |none=>simp only[lx,c3,c1,c2,if_false]
theorem yd{p:Nat→Bool}{ns:List Nat} : ∀ {os:List (Nat×ai)},a8 p os→a8 p (db ns os)
 | [],_=>trivial
 |(m,y)::os,h=>by
  simp only[db,zw1];split
  ·exact ⟨h.1,yd h.2⟩
  ·exact yd h.2
theorem KW{p:Nat→Bool} : ∀ {os os':List (Nat×ai)},a8 p os→a8 p os'→a8 p (os++os')
 | [],_,_,h=>h
 |_::_,_,h,k=>⟨h.1,KW h.2 k⟩
theorem J1{p:Nat→Bool}{B:Nat}(hp:∀ j,B≤j→p j=true):∀ (bs:List aB) (i:Nat),a8 p (eX B i bs)
 | [],_=>trivial
 |b::bs,i=>⟨by simp[ai.only,eD,I.only,I.bU,hp _ (show B≤B+3+2*i by omega)],ej _ _,J1 hp bs (i+1)⟩
theorem agi{p:Nat→Bool}(hp:∀ j,2000≤j→p j=true)(h41:p 41=true)(bs:List aB):a8 p (ec bs) :=
 ⟨by simp[ai.only,I.only,I.bU,h41],by simp only[ai.only,zz2];exact ⟨ej _ _,yf _ fun i _=>hp _ (by omega)⟩,J1 hp bs 0⟩
def fm(bs:List aB):I:=.ref (.agg [.cI (dc bs) (bs.map fun b=>.ref (enc (⟨b⟩:er)))])
theorem Ka{f:I→Option I} : ∀ {xs ys:List I},xs.length=ys.length→(∀ (i:Nat) (x y:I),xs[i]?=some x→ys[i]?=some y→f x=some y)→fy f xs=some ys
 | [],[],_,_=>rfl
 |x::xs,y::ys,hl,h=>by
  have h1:=h 0 x y rfl rfl;have h2:=Ka (f:=f) (xs:=xs) (ys:=ys) (by simpa using hl) fun i a b ha hb=>h (i+1) a b ha hb;simp only[fy,h1,h2]
theorem Yz{A:ae}{bs:List aB}(hA:∀ m y,ak (ec bs) m=some y→A.o m=some y):a7 true A (.ptr 43 [])=some (fm bs):=by
 have h43:A.o 43=some (.box (.agg [.mref 41])):=hA _ _ rfl;have h41:A.o 41=some (.cv (dc bs) (eA 2000 bs.length)):=hA _ _ rfl;have hl:∀ k,k<bs.length→2002+2*k≠43∧2002+2*k≠41∧2003+2*k≠43∧2003+2*k≠41:=fun k hk=>by omega
 have hm:fy (dK A 7) (eA 2000 bs.length)=some (bs.map fun b=>.ref (enc (⟨b⟩:er))):=by
  refine Ka (by simp[eA]) fun i x y hx hy =>?_;have hi:i<bs.length:=by
   have:=(zy5.1 hx).1;simpa[eA] using this
  rw[Lj hi] at hx;simp only[zw2,zz8 hi,zy4,u8] at hx hy;subst hx hy;obtain ⟨q1,q2,q3,q4⟩:=hl i hi;have h1:A.o (2000+2+2*i)=some (.box (eD bs[i] (.own (2000+3+2*i) (bs[i]).cm.length))):=hA _ _ (by
   simp only[ec,ak];rw[if_neg (by omega),if_neg (by omega)];have:=te 2000 bs 0 i hi
   rwa [zz4] at this)
  have h2:A.o (2000+3+2*i)=some (.bX 66 6 ((bs[i]).cm.map enc)):=hA _ _ (by
   simp only[ec,ak];rw[if_neg (by omega),if_neg (by omega)];have:=tg 2000 bs 0 i hi
   rwa [zz4] at this)
  have h3:=mw (m:=3) h2;have h4:cB A (.ptr (2000+2+2*i) [])=some (eD bs[i] (.own (2000+3+2*i) (bs[i]).cm.length)):=by
   simp only[cB,h1];exact hT _
  rw[dK];simp only[I.bn,zz6,if_false,h4];rw[h3];rfl
 have h5:dK A 8 (.mref 41)=some (.cI (dc bs) (bs.map fun b=>.ref (enc (⟨b⟩:er)))):=by
  rw[dK];simp only[I.bn,zz6,if_false,h41];rw[if_pos (show I.bW (dc bs)=true from jP _),hm];rfl
 have h6:dK A 9 (.agg [.mref 41])=some (.agg [.cI (dc bs) (bs.map fun b=>.ref (enc (⟨b⟩:er)))]):=by
  rw[dK];simp only[I.bn,I.bW,Bool.and_true,zz6,if_false,fy,h5,zy4]
 simp only[a7,cB,h43,if_true,hT,I.bn,I.bW,Bool.and_true,zz6,if_false,h6];rfl
def rA(l:List av)(day known:Int):I:=.tuple [fm (rB ev l (jE l day known)).1,enc (dJ (cN (rB ev l (jE l day known)).2))]
def P0(l:List av)(ord:List Int):ae:=au [(3,.ptr 3 []),(9,.nils 1),(11,.ptr 43 []),(12,kK),(45,enc ord),(46,.int .i64 ord.length),(47,.int .i64 0)] [(43,.box (.agg [.mref 41])),(41,.cv [] []),(3,.box (enc l))]
def zP(l:List av)(o:List Nat)(i:Nat):ae:=au [(3,.ptr 3 []),(9,.own 900 (cN (fB l o i).2).length),(11,.ptr 43 []),(12,kK),(45,enc (cN o)),(46,.int .i64 (cN o).length),(47,.int .i64 i)] ((900,.cV 3 (cN (fB l o i).2))::(ec (fB l o i).1++[(3,.box (enc l))]))
theorem agz{xs:List Int}{i:Nat}(h:i<xs.length)(A:ae):iB A 1 (i:Int) (enc xs)=some (.ref (.int .i64 (xs.getD i 0))):=by
 rw[fH 1 (by omega) rfl,zz1,zz8 h];rfl
noncomputable abbrev CC (W0:World) (D0:aM) (E1:aW):cS := { P:=Tryz.prog,ff:=W0,D0:=D0,n:=Tryz.f88.ntmps,own:=dz E1,dM:=E1,Y:=iE,mR:=none }
def Oz:aP:=((aP.cg none sU).seq ((aP.cond (aJ.t 48) aP.skip (aP.exit 2)).seq ((aP.block 3 ((aP.cg none wK).seq ((aP.cg CE sV).seq (aP.cond (aJ.t 64) (aP.cg none IV) aP.skip)))).seq (aP.cg none IW))))
def akM:aP:=(aP.cg none IX).seq ((aP.cg none IY).seq aP.ret)
theorem zJ(l:List av)(day known:Int)(hok:dU l=true){W0:World}{D0:aM}{E1:aW} : J (CC W0 D0 E1) (.block 2 (.loop Oz)) (ar (fun B=>J (CC W0 D0 E1) akM (jH [.tmp 6,.tmp 7] (rA l day known)) B) (jH [.tmp 6,.tmp 7] (rA l day known))) (P0 l (p7 l day known)):=by
 have hl:=ru hok;have hmem:∀ i∈jE l day known,i<l.length∧(af l i).kind≠0:=fun i hi=>by
  have h1:=aiT hi;refine ⟨CN h1,?_⟩;have:=(zw9.1 h1).2;simp only[zz2,decide_eq_true_eq] at this;exact this.1
 have hol:(jE l day known).length≤60:=by rw[K8];exact zv8 (vy l day known) hl
 have hall:=Ld l (jE l day known);simp only[rA,p7,←hall];clear hall;generalize jE l day known=o at hmem hol ⊢;have htl:(cN o).length=o.length:=by simp[cN]
 refine J.block (J.loop (fun i:Nat=>zP l o i) (fun i=>i≤o.length) (fun i=>o.length-i) 0 (zw7 _) ?_ (fun i hi =>?_))
 ·refine aF.zT 9 900 3 1 rfl rfl ?_;refine aF.c8 ?_ (fun n =>?_)
  ·simp[aX,aY,fB,cN]
  ·simp only[fB,cN,List.take_zero,List.foldl_nil,zx1,ec,eX,eA,dc,List.length_nil,List.range_zero,zy0,zy6]
 obtain ⟨hnd,hbl,hsl,hvl⟩:=yi l o i hi;simp only[zP,Oz];have n3:ak ((900,.cV 3 (cN (fB l o i).2))::(ec (fB l o i).1++[(3,.box (enc l))])) 3=some (.box (enc l)):=by
  simp only[ak,km];rw[qT (by omega)];rfl
 by_cases hlt:i<o.length
 ·have hc:decide ((i:Int)<((cN o).length:Int))=true:=by rw[htl];exact ic hlt
  have hw:=fw (i:=i) (by omega);have hst:=Le (l:=l) hlt;generalize fB l o i=s at *;obtain ⟨bs,vd⟩:=s;simp only at hnd hbl hsl hvl n3 hst ⊢;obtain ⟨j,hj⟩:∃ j,j=o.getD i 0:=⟨_,rfl⟩
  have hjm:j∈o:=by
   rw[hj,zz1,zz8 hlt];exact zy9 hlt
  obtain ⟨hjl,hjk⟩:=hmem j hjm;rw[←hj] at hst;have he:=ny hjl;have hi2:∀ A,iB A 1 (i:Int) (enc (cN o))=some (.ref (.int .i64 (j:Int))):=fun A=>by
   rw[agz (by omega),hj]
   congr 3
   simp[cN,zz1,zz8 hlt]
  obtain ⟨f,hf1,hf2,hf3⟩:=vt (bs:=bs) (x9 hok hjl) hjk hnd (fun b hb=>by have:=hsl b hb;omega);have hmo:∀ A,gu A kK=some (nf,ng):=fun A=>rfl;refine .ao (by decide +kernel) fun K hK =>?_;simp only[sU,ab,simprocAttr];simp only[hc];refine .done (hK _ ?_);clear hK K;refine J.seq ?_;refine J.bH ?_;simp only[aq,ab,simprocAttr];refine ⟨fun h =>?_,fun h =>?_⟩
  case refine_2=>cases h
  refine J.skip ?_;try simp only[ar,simprocAttr]
  refine J.seq (J.block ?_);refine .ao (by decide +kernel) fun K hK =>?_;simp only[wK,ab,simprocAttr]
  try simp only[hi2,ab,simprocAttr]
  refine .done (hK _ ?_);clear hK K;refine J.seq (J.ua (gs:=sV) [172,173,174,175,176,177] [] [0,1,2,3,4,5,6,7,8,9,10,11,12,13] (by decide +kernel) (fh.of trivial) fun K hK =>?_)
  try simp only[p9,sV,List.getD_cons_zero,List.getD_cons_succ,n3,he,hmo,hf1,dW,dT,aZ,ab,simprocAttr]
  have hlo:∀ bs',bs.length≤bs'.length→ak (ec bs'++((900,.cV 3 (cN vd))::(ec bs++[(3,.box (enc l))]))) 900=some (.cV 3 (cN vd)):=fun bs' h=>by
   rw[xC h];rfl
  have htv:(cN vd).length=vd.length:=by simp[cN]
  have hap:=fun (A:ae) d rest=>uV (A:=A) (d:=d) (e:=3) (bytes:=8) (n:=900) (l:=(cN vd).length) (xs:=cN vd) (y:=(j:Int)) (rest:=rest) rfl (by simp[cN,maxLen];omega) (by simp[cN];omega);refine cF.vt (by omega) hf2 hf3 rfl (fun hb =>?_) (fun bs' hb hk =>?_) (fun hb =>?_)
  ·have hs2:fB l o (i+1)=(bs,vd++[j]):=by rw[hst];simp only[lh,hb]
   have h900:=hlo bs (zz7 _)
   try simp only[ab,simprocAttr]
   have R:=v6 @h900 (v6 @hap (v6 @dW (v6 @bG (v6 @aZ @ab))))
   repeat' ((first |(with_reducible refine .guard (fun hb =>?_) (fun hb =>?_) <;>try simp only[hb])|refine J.aT (by decide +kernel) rfl fun K hK =>?_|(refine .aH [0,1,2,3,4,6,7,8,9,10,11,12,14,17,18,33,45,46,47,48,64] hK ?_;clear hK K)|(with_reducible refine .done (hK _ ?_);clear hK K)|refine J.of rfl ?_|(with_reducible refine aq.aQ (fun h =>?_) (fun h =>?_) <;>try simp only[h])) <;>try simp only[aU,R,simprocAttr])
   all_goals clear R
   refine ⟨i+1,by omega,by omega,?_⟩;rw[hs2,hw];have e:cN (vd++[j])=cN vd++[(j:Int)]:=by simp[cN]
   simp only[e];refine aF.c8 ?_ (fun n=>ag4 n);simp[aX,aY]
  ·have hs2:fB l o (i+1)=(bs',vd):=by rw[hst];simp only[lh,hb]
   try simp only[ab,simprocAttr]
   have R:=v6 @dW (v6 @bG (v6 @aZ @ab))
   repeat' ((first |(with_reducible refine .guard (fun hb =>?_) (fun hb =>?_) <;>try simp only[hb])|refine J.aT (by decide +kernel) rfl fun K hK =>?_|(refine .aH [0,1,2,3,4,6,7,8,9,10,11,12,14,17,18,33,45,46,47,48,64] hK ?_;clear hK K)|(with_reducible refine .done (hK _ ?_);clear hK K)|refine J.of rfl ?_|(with_reducible refine aq.aQ (fun h =>?_) (fun h =>?_) <;>try simp only[h])) <;>try simp only[aU,R,simprocAttr])
   all_goals clear R
   refine ⟨i+1,by omega,by omega,?_⟩;rw[hs2,hw];refine aF.c8 ?_ (fun n=>xC (Nat.le_of_eq (uW hk hb).symm) n);simp[aX,aY]
  ·have hs2:fB l o (i+1)=(bs++[eY (af l j)],vd):=by rw[hst];simp only[lh,hb]
   try simp only[ab,simprocAttr]
   have R:=v6 @dW (v6 @bG (v6 @aZ @ab))
   repeat' ((first |(with_reducible refine .guard (fun hb =>?_) (fun hb =>?_) <;>try simp only[hb])|refine J.aT (by decide +kernel) rfl fun K hK =>?_|(refine .aH [0,1,2,3,4,6,7,8,9,10,11,12,14,17,18,33,45,46,47,48,64] hK ?_;clear hK K)|(with_reducible refine .done (hK _ ?_);clear hK K)|refine J.of rfl ?_|(with_reducible refine aq.aQ (fun h =>?_) (fun h =>?_) <;>try simp only[h])) <;>try simp only[aU,R,simprocAttr])
   all_goals clear R
   refine ⟨i+1,by omega,by omega,?_⟩;rw[hs2,hw];refine aF.uT (2002+2*bs.length) (2003+2*bs.length) 66 6 6 [0,8] (eD (eY (af l j)) (.nils 6)) ?_ rfl ?_ ?_ (by omega)
   ·have:¬ 2002+2*bs.length=41:=by omega
    simp[nq,ak,this]
   ·have h1:¬ 2003+2*bs.length=41:=by omega
    have h2:¬ 2003+2*bs.length=2002+2*bs.length:=by omega
    have h3:¬ 2003+2*bs.length=900:=by omega
    have h4:¬ 2003+2*bs.length=3:=by omega
    have h5:ak (ec bs) (2003+2*bs.length)=none:=qT (by omega);simp only[nq,zy0,ak,km,h1,h2,h3,h4,h5,if_false]
   ·refine aF.c8 ?_ (fun n=>ag3 (by omega) rfl n);simp[aX,aY]
 ·have hio:i=o.length:=by omega
  subst hio;have hc:decide ((o.length:Int)<((cN o).length:Int))=false:=by simp[htl]
  refine .ao (by decide +kernel) fun K hK =>?_;simp only[sU,ab,simprocAttr]
  try simp only[hc,simprocAttr]
  refine .done (hK _ ?_);clear hK K;refine J.seq ?_;refine J.bH ?_;simp only[aq,ab,simprocAttr];refine ⟨fun h =>?_,fun h =>?_⟩
  case refine_1=>cases h
  refine J.exit ?_;try simp only[ar,bL,simprocAttr]
  generalize fB l o o.length=s at *;obtain ⟨bs,vd⟩:=s;simp only at hnd hbl hsl hvl ⊢;have htv:(cN vd).length=vd.length:=by simp[cN]
  have hw2:∀ t,nH 900 (cN vd).length (Abs.cn [(48,I.bool false),(3,.ptr 3 []),(9,.own 900 (cN vd).length),(11,.ptr 43 []),(12,kK),(45,enc (cN o)),(46,.int .i64 ((cN o).length:Int)),(47,.int .i64 (o.length:Int))] t):=tJ (by simp[nH,I.only,bt,kK,I.bU]);refine J.NT (a:=70) (b:=71) (d:=9) (n:=900) (xs:=cN vd) rfl rfl (by decide) (by omega) hw2 ?_ [(11,.ptr 43 [])] ?_ (by decide) (by decide) ?_
  ·refine yd ⟨rfl,KW (agi (fun j hj=>by simp;omega) (by decide) bs) ⟨bt _ _,trivial⟩⟩
  ·simp[Abs.cn,I.only]
  ·have hfin:=fun (ts:List (Nat×I))=>Yz (A:=au ts (db [900] ((900,.cV 3 (cN vd))::(ec bs++[(3,.box (enc l))])))) (bs:=bs) (fun m y hy=>by
    have:m≠900:=fun e=>by
     rw[e,qT (by omega)] at hy;cases hy
    simp only[au,nz];simp[ak,this,km,hy])
   have R:=v6 @hfin (v6 @bG (v6 @aZ @ab))
   repeat' ((first |(with_reducible refine .guard (fun hb =>?_) (fun hb =>?_) <;>try simp only[hb])|refine J.aT (by decide +kernel) rfl fun K hK =>?_|(refine .aH [0,1,2,3,4,6,7,8,9,10,11,12,14,17,18,33,45,46,47,48,64] hK ?_;clear hK K)|(with_reducible refine .done (hK _ ?_);clear hK K)|refine J.of rfl ?_|(with_reducible refine aq.aQ (fun h =>?_) (fun h =>?_) <;>try simp only[h])) <;>try simp only[aU,R,simprocAttr])
   all_goals clear R
theorem ajZ{xs ys:List Int}(h:xs.Perm ys):dJ xs=dJ ys:=by
 unfold dJ;have hx:=List.pairwise_mergeSort (le:=fun x y:Int=>decide (x≤y)) (by intro a b c;simp;omega) (by intro a b;simp;omega) xs;have hy:=List.pairwise_mergeSort (le:=fun x y:Int=>decide (x≤y)) (by intro a b c;simp;omega) (by intro a b;simp;omega) ys;refine List.Perm.eq_of_pairwise (fun a b _ _ h k =>?_) hx hy ((List.mergeSort_perm _ _).trans (h.trans (List.mergeSort_perm _ _).symm));simp only[decide_eq_true_eq] at h k;omega
theorem Kt{A:ae}{d:Option Nat}{n:Nat}{rest:List az}{ks vs:List I}{cur:Option Nat} : pZ A d n rest (some (.it ks vs [] cur))=ay rest (A.aN d (.tuple [.bool false])):=by
 simp only[pZ,if_true]
theorem bj.iF{P:Program}{Y:Value→List I→List (Nat×ai)→cT→Prop}{K:ae→Prop}{A:ae}{d:Option Nat}{n:Nat}{rest:List az}{ks vs:List I}{left:List Nat}{cur:Option Nat}(hl:left≠[])
  (h:∀ i,i∈left→∃ kk x,ks[i]?=some kk∧vs[i]?=some x∧bj P Y false K (ay rest ((A.aL n (.it ks vs (left.filter (· != i)) (some i))).aN d (.tuple [.bool true,kk,x])))) :
  bj P Y false K (pZ A d n rest (some (.it ks vs left cur))):=by
 simp only[pZ,if_neg hl];refine .any rfl fun i hi =>?_;obtain ⟨kk,x,h1,h2,h3⟩:=h i hi;simp only[h1,h2];exact h3
def jf(bs:List aB)(p:aB→Bool)(aH:List Nat):List Int:=((aH.map fun i=>bs.getD i default).filter p).map (·.no)
theorem ai2(bs:List aB)(p:aB→Bool)(aH:List Nat)(i:Nat):jf bs p (aH++[i])=jf bs p aH++if p (bs.getD i default) then [(bs.getD i default).no] else []:=by
 simp only[jf,zx6,List.filter_append,zz9,zx1,zw1,zv9]
 congr 1
 split <;>rfl
theorem Lc(bs:List aB)(p:aB→Bool)(aH:List Nat):(jf bs p aH).length≤aH.length:=by
 simp only[jf,zy2];exact zv8 (zv4 _ _) (by simp)
theorem ai1{bs:List aB}{p:aB→Bool}{aH:List Nat}(h:aH.Perm (List.range bs.length)):(jf bs p aH).Perm ((bs.filter p).map (·.no)):=by
 have e:(List.range bs.length).map (fun i=>bs.getD i default)=bs:=by
  refine List.ext_getElem (by simp) fun i h1 h2 =>?_;simp[zz1,h2]
 simp only[jf];refine List.Perm.map _ ?_;have:=(h.map fun i=>bs.getD i default).filter p
 rwa [e] at this
theorem aiN(p:Nat→Bool)(bs:List aB):I.bU p (bs.map fun b=>.ref (enc (⟨b⟩:er)))=true:=by
 induction bs with
 |nil=>rfl
 |cons b bs ih=>simp only[zz9,I.bU,I.only,bt,ih,zw3]
def zO(bs:List aB)(p:aB→Bool)(f:FuncId)(caps:List I)(s:List Nat×List Nat×Option Nat):ae :=
 au [(1,.func f caps),(5,.own 905 (jf bs p s.1).length),(12,.dv 12)] [(12,.it (dc bs) (bs.map fun b=>.ref (enc (⟨b⟩:er))) s.2.1 s.2.2),(905,.cV 3 (jf bs p s.1))]
theorem r4(bs:List aB)(hn:bs.length≤60)(f:FuncId)(caps:List I)(hcaps:I.eV caps=true)(p:aB→Bool)(hf:∀ b∈bs,aD Tryz.prog f (.ref (enc (⟨b⟩:er))::caps) (enc (p b))) :
  aD Tryz.prog 72 [fm bs,.func f caps] (enc (dJ ((bs.filter p).map (·.no)))):=by
 refine aD.bA Tryz.func72 Sw Uo Ws (t7 rfl) (fun hwf W0 D0 E1 =>?_);simp only[BR,MP,bp,zz4];clear hwf;have hcl:I.bW caps=true:=kM caps hcaps;have hfc:∀ aA A,bZ aA A caps=some caps:=fun aA A=>kQ aA A caps hcaps;have hon:∀ q,I.bU q caps=true:=fun q=>kr q caps hcl;refine .ao (by decide +kernel) fun K hK =>?_;simp only[Ig,ab,simprocAttr];refine .done (hK _ ?_);clear hK K;refine .ao (by decide +kernel) fun K hK =>?_;simp only[Ih,ab,simprocAttr];refine .done (hK _ ?_);clear hK K;refine J.seq (J.seq ?_);refine .bu (by decide +kernel) fun K hK =>?_;simp only[Ii,ab,simprocAttr]
 try simp only[fm,dW,dT,aZ,ab,simprocAttr]
 refine .done (hK _ ?_);clear hK K;try simp only[ar]
 refine J.block (J.loop (zO bs p f caps) (fun s=>(s.1++s.2.1).Perm (List.range bs.length)) (fun s=>s.2.1.length) ([],List.range bs.length,none) (by simp) ?_ ?_)
 ·refine aF.zT 5 905 3 1 rfl rfl ?_;refine aF.c8 ?_ (fun n =>?_)
  ·simp[aX,aY,jf]
  ·simp only[jf,zx1,zv9,cu,oy,dc,zy2]
   (repeat' split) <;>simp_all
 rintro ⟨aH,left,cur⟩ hC;simp only at hC;have hlen:aH.length+left.length=bs.length:=by simpa using hC.length_eq
 have hpl:=Lc bs p aH;simp only[zO];by_cases hl:left=[]
 ·subst hl;refine .ao (by decide +kernel) fun K hK =>?_;simp only[wI,ab,simprocAttr]
  try simp only[dT,Kt,ab,simprocAttr]
  refine .done (hK _ ?_);clear hK K;refine J.seq ?_;refine J.bH ?_;simp only[aq,ab,simprocAttr];refine ⟨fun h =>?_,fun h =>?_⟩
  case refine_1=>cases h
  refine J.exit ?_;try simp only[ar,bL,simprocAttr]
  have hdn:(jf bs p aH).Perm ((bs.filter p).map (·.no)):=ai1 (by simpa using hC);rw[←ajZ hdn];generalize jf bs p aH=xs at hpl;refine J.NT (a:=25) (b:=26) (d:=5) (n:=905) (xs:=xs) rfl rfl (by decide) (by omega) (tJ (by simp[nH,I.only,I.bU,hon])) (by simp only[db,dc,zw1,zv9,List.contains_cons];simp[a8,ai.only,ej,aiN,-List.map_map]) [] (by simp) (by decide) (by decide) ?_;have R:=v6 @aZ @ab
  repeat' ((first |(with_reducible refine .guard (fun hb =>?_) (fun hb =>?_) <;>try simp only[hb])|refine J.aT (by decide +kernel) rfl fun K hK =>?_|(refine .aH [0,1,4,5,6,7,12,14,20] hK ?_;clear hK K)|(with_reducible refine .done (hK _ ?_);clear hK K)|refine J.of rfl ?_|(with_reducible refine aq.aQ (fun h =>?_) (fun h =>?_) <;>try simp only[h])) <;>try simp only[aU,R,simprocAttr])
  all_goals clear R
 ·refine .ao (by decide +kernel) fun K hK =>?_;simp only[wI,ab,simprocAttr]
  try simp only[dT,ab,simprocAttr]
  refine bj.iF hl fun i hi =>?_;have hib:i<bs.length:=zx5.1 (hC.mem_iff.1 (by simp[hi]));refine ⟨enc (bs[i]).no,.ref (enc (⟨bs[i]⟩:er)),by simp[dc,hib],by simp[hib],?_⟩;have hx:bs.getD i default=bs[i]:=by simp[zz1,hib]
  try simp only[ab,simprocAttr]
  refine .done (hK _ ?_);clear hK K;refine J.seq ?_;refine J.bH ?_;simp only[aq,ab,simprocAttr];refine ⟨fun h =>?_,fun h =>?_⟩
  case refine_2=>cases h
  refine J.skip ?_;try simp only[ar,simprocAttr]
  refine J.block ?_;have hent:ni (dc bs) (bs.map fun b=>.ref (enc (⟨b⟩:er))) (some i)=some (.tuple [.int .i64 (bs[i]).no,.ref (enc (⟨bs[i]⟩:er))]):=by
   simp[ni,dc,hib,gT]
  have hsn:=ai2 bs p aH i;have hps:=Lc bs p (aH++[i]);have hpl2:(left.filter (· != i)).length<left.length:=by
   rcases Nat.lt_or_ge (left.filter (· != i)).length left.length with h | h
   ·exact h
   ·have:=List.filter_eq_self.1 (List.Sublist.eq_of_length_le List.filter_sublist h) i hi;simp at this
  have hnd:left.Nodup:=(List.nodup_append.1 (hC.nodup_iff.2 List.nodup_range)).2.1;have hC2:((aH++[i])++left.filter (· != i)).Perm (List.range bs.length):=by
   have h1:left.Perm (i::left.filter (· != i)):=by
    have h2:(left.filter (· == i)).length=1:=by
     have:=List.nodup_iff_count.1 hnd i;have h3:=List.count_pos_iff.2 hi;have h4:left.count i=(left.filter (· == i)).length:=by rw[List.count,List.countP_eq_length_filter]
     omega
    have h5:left.filter (· == i)=[i]:=by
     obtain ⟨a,ha⟩:=List.length_eq_one_iff.1 h2;have:a∈left.filter (· == i):=by rw[ha];simp
     have:=(zw9.1 this).2;simp at this;rw[ha,this]
    have h6:=(List.filter_append_perm (· == i) left).symm;rw[h5] at h6;exact h6
   refine List.Perm.trans ?_ hC;rw[zz3];exact (h1.symm).append_left aH
  refine .ao (by decide +kernel) fun K hK =>?_;simp only[Ij,ab,simprocAttr]
  try simp only[hent,dT,aZ,ab,simprocAttr]
  refine .done (hK _ ?_);clear hK K;refine .ao (by decide +kernel) fun K hK =>?_;simp only[Ik,ab,simprocAttr]
  try simp only[zy0,zy6,hfc,kJ,ab,simprocAttr]
  refine .flat _ (hf _ (zy9 hib)) rfl ?_
  try simp only[ab,simprocAttr]
  refine .done (hK _ ?_);clear hK K;have hap:=fun (A:ae) d rest=>uV (A:=A) (d:=d) (e:=3) (bytes:=8) (n:=905) (l:=(jf bs p aH).length) (xs:=jf bs p aH) (y:=(bs[i]).no) (rest:=rest) rfl (by simp[maxLen];omega) (by omega);rw[hx] at hsn;rcases hpb:p bs[i]
  ·rw[hpb,if_neg (by decide),zx8] at hsn;have R:=v6 @hpb (v6 @aZ @ab)
   repeat' ((first |(with_reducible refine .guard (fun hb =>?_) (fun hb =>?_) <;>try simp only[hb])|refine J.aT (by decide +kernel) rfl fun K hK =>?_|(refine .aH [0,1,4,5,6,7,12,14,20] hK ?_;clear hK K)|(with_reducible refine .done (hK _ ?_);clear hK K)|refine J.of rfl ?_|(with_reducible refine aq.aQ (fun h =>?_) (fun h =>?_) <;>try simp only[h])) <;>try simp only[aU,R,simprocAttr])
   all_goals clear R
   refine ⟨(aH++[i],left.filter (· != i),some i),hC2,hpl2,?_⟩;simp only[hsn];refine aF.c8 ?_ (fun n =>?_)
   ·simp[aX,aY]
   ·simp only[cu,oy];(repeat' split) <;>simp_all
  ·rw[hpb,if_pos rfl] at hsn;have R:=v6 @hpb (v6 @hap (v6 @aZ @ab))
   repeat' ((first |(with_reducible refine .guard (fun hb =>?_) (fun hb =>?_) <;>try simp only[hb])|refine J.aT (by decide +kernel) rfl fun K hK =>?_|(refine .aH [0,1,4,5,6,7,12,14,20] hK ?_;clear hK K)|(with_reducible refine .done (hK _ ?_);clear hK K)|refine J.of rfl ?_|(with_reducible refine aq.aQ (fun h =>?_) (fun h =>?_) <;>try simp only[h])) <;>try simp only[aU,R,simprocAttr])
   all_goals clear R
   refine ⟨(aH++[i],left.filter (· != i),some i),hC2,hpl2,?_⟩;simp only[hsn];refine aF.c8 ?_ (fun n =>?_)
   ·simp[aX,aY]
   ·simp only[cu,oy];(repeat' split) <;>simp_all
theorem Aa{aA:Bool}{A0:ae}{os:List (Nat×ai)} : ∀ xs:List I,(∀ x∈xs,x.only (al os)=true∧x.b8=true)→jr aA A0 [] os xs xs
 | [],_=>trivial
 |x::xs,h=>⟨.inl ⟨(lX (ρ:=bx []) (fun _=>rfl) x).symm,(h x (by simp)).1,(h x (by simp)).2⟩,Aa xs fun y hy=>h y (by simp[hy])⟩
theorem ajI(ts:List (Nat×I))(k:Nat)(a b:List Int):au ts (cA k a++cA k b)=au ts (cA k a):=by
 simp only[au];congr 1;funext n;simp only[cA,zy0,zy6,ak];split <;>rfl
theorem bj.kY{K:ae→Prop}{f:FuncId}{avs:List I}{a1 a2:Option (List I)}{dst:Option Nat}{rest:List az}{ts:List (Nat×I)}{ws:List Int}{post:cT}(hc:cD Tryz.prog f avs (cA 1000000 ws) post)(hav:∀ x∈avs,x.only (al (cA 1000000 ws))=true∧x.b8=true)
  (h:∀ r os',post r os'→∃ ws',os'=cA 1000000 ws'∧r=.tuple []∧bj Tryz.prog iE false K (ay rest ((au ts (cA 1000000 ws')).aN dst (.tuple [])))):bj Tryz.prog iE false K (.call f avs a1 a2 dst rest (au ts (cA 1000000 ws))):=by
 refine .bT false [] (cA 1000000 ws) avs post rfl hc ⟨fun m y hy =>?_,fun m m' _ _ h=>h⟩ (Aa avs hav) ?_ ?_
 ·rw[ai.lX (ρ:=bx []) (fun n=>rfl)];refine ⟨hy,?_⟩;simp only[cA,ak] at hy;split at hy
  ·cases hy;exact ⟨oA _ _,rfl⟩
  ·cases hy
 ·intro r os' hp;obtain ⟨ws',rfl,rfl,_⟩:=h r os' hp;refine ⟨fun m y hy =>?_,fun m m' _ _ h=>h,fun m hm=>by rw[dy.1 hm];exact dy.2 rfl,fun m a b=>by rw[dy.1 a] at b;simp[cA,al,ak] at b,rfl,fun h=>by cases h⟩;simp only[cA,ak] at hy;split at hy
  ·cases hy;exact ⟨oA _ _,rfl,fun h=>by cases h⟩
  ·cases hy
 ·intro r os' hp;obtain ⟨ws',rfl,rfl,hw⟩:=h r os' hp;rw[ub,ajI];exact hw
theorem kH(ws:List Int)(n:Nat)(f:FuncId)(caps:List I)(hcl:I.bW caps=true)(aC:List Int):∀ x∈.view 1000000 [] 1 0 n::(aC.map enc++[.func f caps]),x.only (al (cA 1000000 ws))=true∧x.b8=true:=by
 intro x hx;simp only[zw4,zy1,zx4,List.not_mem_nil,or_false] at hx;rcases hx with rfl | ⟨y,_,rfl⟩ | rfl
 ·exact ⟨dy.2 rfl,rfl⟩
 ·exact ⟨bt _ _,dO _⟩
 ·exact ⟨mJ _ _ (by simpa[I.bn] using hcl),rfl⟩
structure PV where
 p:List Int
 u:List Int
 v:List Int
 q:List Int
theorem Py(p u v q:List Int)(a m b n:Nat)(f:FuncId)(caps:List I)(hcl:I.bW caps=true)(ha:p.length=a)(hm:a+u.length=m)(hb:m+v.length=b)(hu:0<u.length)(hv:0<v.length)(hn:b≤n)(hN:n≤1000) :
  cD Tryz.prog 213 [.view 1000000 [] 1 0 n,enc (a:Int),enc (m:Int),enc (b:Int),.func f caps] (cA 1000000 (p++u++v++q)) (yF (p++v++u++q)):=by
 refine cD.bA Tryz.func213 Sa T3 V7 (t7 rfl) (t7 rfl) nM (fun hwf W0 D0 E1 =>?_);simp only[Bx,Mt,bp,zz4,Nat.reduceAdd];clear hwf;have w1:=iM (x:=m) (y:=a) (by omega) (by omega);have w2:=iM (x:=b) (y:=m) (by omega) (by omega);refine .ao (by decide +kernel) fun K hK =>?_;simp only[Hl,ab,simprocAttr]
 try simp only[w1,simprocAttr]
 refine .done (hK _ ?_);clear hK K;refine .ao (by decide +kernel) fun K hK =>?_;simp only[Hm,ab,simprocAttr]
 try simp only[w2,simprocAttr]
 refine .done (hK _ ?_);clear hK K;refine J.seq (J.block (J.loop (fun s:PV=>au [(0,.view 1000000 [] 1 0 n),(2,.int .i64 m),(4,.func f caps),(10,.int .i64 s.u.length),(11,.int .i64 s.v.length)] (cA 1000000 (s.p++s.u++s.v++s.q))) (fun s=>0<s.u.length∧0<s.v.length∧s.p.length+s.u.length=m∧m+s.v.length≤b∧s.p++s.v++s.u++s.q=p++v++u++q) (fun s=>s.u.length+s.v.length) ⟨p,u,v,q⟩ ⟨hu,hv,by simp only;omega,by simp only;omega,rfl⟩ ?_ ?_))
 ·have e1:m-a=u.length:=by omega
  have e2:b-m=v.length:=by omega
  simp only[e1,e2];refine aF.c8 ?_ (fun n=>rfl);simp[aX,aY]
 rintro ⟨p1,u1,v1,q1⟩ ⟨g1,g2,g3,g4,g5⟩;simp only at g1 g2 g3 g4 g5 ⊢;refine J.seq (J.seq ?_);refine .bu (by decide +kernel) fun K hK =>?_;simp only[Hn,ab,simprocAttr];refine .done (hK _ ?_);clear hK K;try simp only[ar]
 refine J.bH ?_;simp only[aq,ab,simprocAttr];refine ⟨fun h =>?_,fun h =>?_⟩
 ·have hne:u1.length≠v1.length:=fun e=>by rw[e] at h;simp at h
  refine J.skip ?_;try simp only[ar,simprocAttr]
  refine J.block (J.seq ?_);refine .bu (by decide +kernel) fun K hK =>?_;simp only[Ho,ab,simprocAttr];refine .done (hK _ ?_);clear hK K;try simp only[ar]
  refine J.bH ?_;simp only[aq,ab,simprocAttr];refine ⟨fun h =>?_,fun h =>?_⟩
  ·have hgt:v1.length<u1.length:=by simp at h;omega
   have w3:=iM (x:=m) (y:=u1.length) (by omega) (by omega);have w4:=iM (x:=u1.length) (y:=v1.length) (by omega) (by omega);have hs:u1=u1.take v1.length++u1.drop v1.length:=(zx2 _ _).symm;have ht:(u1.take v1.length).length=v1.length:=by rw[zx3];omega
   have hd:(u1.drop v1.length).length=u1.length-v1.length:=by rw[zx0]
   have hc:=uM p1 (u1.take v1.length) (u1.drop v1.length) v1 q1 (m-u1.length) m n v1.length (.func f caps) (by omega) (by omega) (by omega) (by omega) (by omega) hN;rw[zz3 p1,←hs] at hc;refine .ao (by decide +kernel) fun K hK =>?_;simp only[Hp,ab,simprocAttr]
   try simp only[w3,simprocAttr]
   refine bj.kY hc (kH _ n f caps hcl [_,_,_]) ?_;rintro r os' ⟨rfl,rfl⟩;refine ⟨_,rfl,rfl,?_⟩
   try simp only[ab,simprocAttr]
   refine .done (hK _ ?_);clear hK K;refine .bu (by decide +kernel) fun K hK =>?_;simp only[Hq,ab,simprocAttr]
   try simp only[w4,simprocAttr]
   refine .done (hK _ ?_);clear hK K;try simp only[ar,bL]
   refine ⟨⟨p1++v1,u1.drop v1.length,u1.take v1.length,q1⟩,⟨by simp only;omega,by simp only;omega,by simp only[zz5];omega,by simp only;omega,?_⟩,by simp only;omega,?_⟩
   ·simp only;rw[←g5]
    conv=>rhs;rw[hs]
    simp only[zz3]
   ·simp only[hd,ht];refine aF.c8 ?_ (fun n=>rfl);simp[aX,aY]
  ·have hlt:u1.length<v1.length:=by simp at h;omega
   have w3:=iM (x:=m) (y:=u1.length) (by omega) (by omega);have w4:=iM (x:=v1.length) (y:=u1.length) (by omega) (by omega);have w5:=kB m v1.length (by omega);have w6:=iM (x:=m+v1.length) (y:=u1.length) (by omega) (by omega);have hs:v1=v1.take (v1.length-u1.length)++v1.drop (v1.length-u1.length):=(zx2 _ _).symm;have ht:(v1.take (v1.length-u1.length)).length=v1.length-u1.length:=by rw[zx3];omega
   have hd:(v1.drop (v1.length-u1.length)).length=u1.length:=by rw[zx0];omega
   have hc:=uM p1 u1 (v1.take (v1.length-u1.length)) (v1.drop (v1.length-u1.length)) q1 (m-u1.length) (m+v1.length-u1.length) n u1.length (.func f caps) (by omega) (by omega) (by omega) (by omega) (by omega) hN;rw[zz3 (p1++u1),←hs] at hc;refine .ao (by decide +kernel) fun K hK =>?_;simp only[Hr,ab,simprocAttr]
   try simp only[w3,w5,w6,simprocAttr]
   refine bj.kY hc (kH _ n f caps hcl [_,_,_]) ?_;rintro r os' ⟨rfl,rfl⟩;refine ⟨_,rfl,rfl,?_⟩
   try simp only[ab,simprocAttr]
   refine .done (hK _ ?_);clear hK K;refine .bu (by decide +kernel) fun K hK =>?_;simp only[Hs,ab,simprocAttr]
   try simp only[w4,simprocAttr]
   refine .done (hK _ ?_);clear hK K;try simp only[ar,bL]
   refine ⟨⟨p1,v1.drop (v1.length-u1.length),v1.take (v1.length-u1.length),u1++q1⟩,⟨by simp only;omega,by simp only;omega,by simp only;omega,by simp only;omega,?_⟩,by simp only;omega,?_⟩
   ·simp only;rw[←g5]
    conv=>rhs;rw[hs]
    simp only[zz3]
   ·simp only[hd,ht];rw[←zz3 _ u1 q1];refine aF.c8 ?_ (fun n=>rfl);simp[aX,aY]
 ·have he:u1.length=v1.length:=by simp at h;omega
  refine J.exit ?_;try simp only[ar,bL,simprocAttr]
  have w3:=iM (x:=m) (y:=u1.length) (by omega) (by omega);have hc:=uM p1 u1 [] v1 q1 (m-u1.length) m n u1.length (.func f caps) (by omega) (by omega) (by simp;omega) rfl (by omega) hN;simp only[zx8] at hc;refine .bu (by decide +kernel) fun K hK =>?_;simp only[Ht,ab,simprocAttr]
  try simp only[w3,simprocAttr]
  refine bj.kY hc (kH _ n f caps hcl [_,_,_]) ?_;rintro r os' ⟨rfl,rfl⟩;refine ⟨_,rfl,rfl,?_⟩
  try simp only[ab,simprocAttr]
  refine .done (hK _ ?_);clear hK K;rw[kW];exact nJ rfl g5 ⟨rfl,rfl⟩
theorem ur{el:List av}{s:List Int}(h:du el s){i j:Nat}(hij:i<j)(hj:j<s.length):dP el (s.getD i 0) (s.getD j 0):=by
 rw[zz1,zz1,zz8 (by omega),zz8 hj];exact List.pairwise_iff_getElem.1 h i j (by omega) hj hij
theorem qi{el:List av}{s:List Int}(h:du el s){i j:Nat}(hij:i≤j)(hj:j<s.length){x:Int}(hx:dP el (s.getD j 0) x):dP el (s.getD i 0) x:=by
 rcases Nat.lt_or_ge i j with h1 | h1
 ·exact xD (ur h h1 hj) hx
 ·have:i=j:=by omega
  rw[this];exact hx
theorem qh{el:List av}{s:List Int}(h:du el s){i j:Nat}(hij:i≤j)(hj:j<s.length){x:Int}(hx:dP el x (s.getD i 0)):dP el x (s.getD j 0):=by
 rcases Nat.lt_or_ge i j with h1 | h1
 ·exact xD hx (ur h h1 hj)
 ·have:i=j:=by omega
  rw[←this];exact hx
theorem tn{s:List Int}{k:Nat}{x:Int}(h:x∈s.take k):∃ i,i<k∧i<s.length∧s.getD i 0=x:=by
 obtain ⟨i,hi,rfl⟩:=List.getElem_of_mem h;rw[zx3] at hi;exact ⟨i,by omega,by omega,by rw[zz1,zz8 (by omega),List.getElem_take];rfl⟩
theorem pS{s:List Int}{k:Nat}{x:Int}(h:x∈s.drop k):∃ i,k≤i∧i<s.length∧s.getD i 0=x:=by
 obtain ⟨i,hi,rfl⟩:=List.getElem_of_mem h;rw[zx0] at hi;exact ⟨k+i,by omega,by omega,by rw[zz1,zz8 (by omega),List.getElem_drop];rfl⟩
def rX(el:List av)(l r:List Int)(k i:Nat):Prop:=∀ x∈l.take i++r.take (k-i),∀ y∈l.drop i++r.drop (k-i),dP el x y
theorem WN{el:List av}{l r:List Int}{k i lo hi:Nat}(hl:du el l)(hr:du el r)(h1:lo≤i)(h2:i≤hi)(hlo:lo=0∨lo+r.length=k)(hhi:hi=l.length∨hi=k)(hil:hi≤l.length)(hik:hi≤k)(hlr:k≤lo+r.length)
  (g1:∀ j,lo≤j→j<i→dP el (l.getD j 0) (r.getD (k-1-j) 0)) (g2:∀ j,i≤j→j<hi→dP el (r.getD (k-1-j) 0) (l.getD j 0)):rX el l r k i:=by
 intro x hx y hy;rcases zy1.1 hx with hx | hx
 ·obtain ⟨a,ha1,ha2,rfl⟩:=tn hx;rcases zy1.1 hy with hy | hy
  ·obtain ⟨b,hb1,hb2,rfl⟩:=pS hy;exact ur hl (by omega) hb2
  ·obtain ⟨b,hb1,hb2,rfl⟩:=pS hy;by_cases hli:lo<i
   ·have:=g1 (i-1) (by omega) (by omega);have e:k-1-(i-1)=k-i:=by omega
    rw[e] at this;refine qi hl (j:=i-1) (by omega) (by omega) ?_;exact qh hr (i:=k-i) (by omega) hb2 this
   ·omega
 ·obtain ⟨a,ha1,ha2,rfl⟩:=tn hx;rcases zy1.1 hy with hy | hy
  ·obtain ⟨b,hb1,hb2,rfl⟩:=pS hy;by_cases hih:i<hi
   ·have:=g2 i (zz7 _) hih;refine qi hr (j:=k-1-i) (by omega) (by omega) ?_;exact qh hl (i:=i) (by omega) hb2 this
   ·omega
  ·obtain ⟨b,hb1,hb2,rfl⟩:=pS hy;exact ur hr (by omega) hb2
theorem aj1{el:List av}{l r s1 s2:List Int}{k i:Nat}(hc:rX el l r k i)(h1:s1.Perm (l.take i++r.take (k-i)))(h2:s2.Perm (l.drop i++r.drop (k-i)))(k1:du el s1)(k2:du el s2):(s1++s2).Perm (l++r)∧du el (s1++s2):=by
 refine ⟨(h1.append h2).trans ?_,List.pairwise_append.2 ⟨k1,k2,fun x hx y hy=>hc x (h1.mem_iff.1 hx) y (h2.mem_iff.1 hy)⟩⟩;have e:l.take i++r.take (k-i)++(l.drop i++r.drop (k-i))=l.take i++(r.take (k-i)++l.drop i)++r.drop (k-i):=by simp only[zz3]
 rw[e];refine (((List.perm_append_comm (l₁:=r.take (k-i)) (l₂:=l.drop i)).append_left _).append_right _).trans ?_;have e2:l.take i++(l.drop i++r.take (k-i))++r.drop (k-i)=(l.take i++l.drop i)++(r.take (k-i)++r.drop (k-i)):=by simp only[zz3]
 rw[e2,zx2,zx2]
theorem NX{el:List av}{s:List Int}(h:du el s)(k:Nat):du el (s.take k):=h.sublist (List.take_sublist _ _)
theorem NW{el:List av}{s:List Int}(h:du el s)(k:Nat):du el (s.drop k):=h.sublist (List.drop_sublist _ _)
theorem wW{p l r q:List Int}{a i:Nat}(ha:p.length=a)(hi:i<l.length):(p++l++r++q).getD (a+i) 0=l.getD i 0:=by
 subst ha;rw[zz1,zz1,zz3,zz3,zx7 (by omega),Nat.add_sub_cancel_left,zy7 hi]
theorem wX{p l r q:List Int}{m i:Nat}(hm:p.length+l.length=m)(hi:i<r.length):(p++l++r++q).getD (m+i) 0=r.getD i 0:=by
 subst hm;rw[zz1,zz1,zz3 (p++l),zx7 (by rw[zz5];omega),zz5,Nat.add_sub_cancel_left,zy7 hi]
theorem oC(x:Nat):Int.fdiv (x:Int) (2^min (Int.toNat 1) IntKind.u64.bits)=((x / 2:Nat):Int):=by
 have:min (Int.toNat 1) IntKind.u64.bits=1:=rfl;rw[this]
 show Int.fdiv (x:Int) 2=_
 rw[Int.fdiv_eq_ediv_of_nonneg _ (by decide)];rfl
theorem nC{x:Nat}(h:x<9223372036854775807):IntKind.u64.wrap (x:Int)=(x:Int):=by
 simp only[IntKind.wrap,IntKind.bits,IntKind.signed];simp;omega
theorem oB:((0:Int)≤1)=True:=by simp
theorem J.akB{c:cS}{Q:Exit→ae→Prop}{A:ae}{x:aP}{σ:Type}(T:σ→ae)(C:σ→Prop)(h1:J c x (ar (fun B=>∃ s,C s∧Abs.aF B (T s)) fun _ _=>False) A)(h2:∀ s B,C s→Abs.aF B (T s)→Q .normal B):J c x Q A :=
 h1.mono fun e B hq=>by
  cases e <;>simp only[ar] at hq <;>first
   |(obtain ⟨s,k1,k2⟩:=hq;exact h2 s B k1 k2)
   |exact hq.elim
theorem akn{p r q:List Int}{x:Int}{a j:Nat}(ha:p.length=a)(hj:j<r.length):kA (eh p r q x j) (a+j) (a+j+1)=eh p r q x (j+1):=by
 have e1:eh p r q x (j+1)=(p++r.take j)++r[j]::x::(r.drop (j+1)++q):=by
  simp only[eh];rw[zy3 hj];simp only[zz3,zy0,zy6]
 have e2:eh p r q x j=(p++r.take j)++x::r[j]::(r.drop (j+1)++q):=by
  simp only[eh];rw[zv7 hj];simp only[zz3,zy0]
 rw[e1,e2];exact ako (by rw[zz5,zx3];omega) rfl
theorem agt(p r q:List Int)(x:Int):eh p r q x 0=p++[x]++r++q:=by simp[eh]
theorem agw(p r q:List Int)(x:Int):eh p r q x r.length=p++r++[x]++q:=by simp[eh]
theorem Ps(el:List av)(hd:mj el)(hel:el.length≤60)(p l r q:List Int)(a m b n:Nat)(hl0:0<l.length)(hr0:0<r.length)(ha:p.length=a)(hm:a+l.length=m)(hb:m+r.length=b)(hn:b≤n)(hnl:n≤(p++l++r++q).length)(hn1:n≤1000)(hsl:du el l)(hsr:du el r)(hlr:∀ x∈l,∀ y∈r,x<y)(hin:∀ x∈l++r,jw el x)(hl1:l.length=1) :
  cD Tryz.prog 204 [.view 1000000 [] 1 0 n,enc (a:Int),enc (m:Int),enc (b:Int),.func 138 [.ref (enc el)]] (cA 1000000 (p++l++r++q)) (mY el p (l++r) q):=by
 have hlen:(p++l++r++q).length=p.length+l.length+r.length+q.length:=by simp only[zz5]
 have nj:=fun i (hi:i<l.length)=>wW (p:=p) (l:=l) (r:=r) (q:=q) (i:=i) ha hi;have gr:=fun i (hi:i<r.length)=>wX (p:=p) (l:=l) (r:=r) (q:=q) (m:=m) (i:=i) (by omega) hi;have ml:=fun i (hi:i<l.length)=>(show l.getD i 0∈l by rw[zz1,zz8 hi];exact zy9 _)
 have mr:=fun i (hi:i<r.length)=>(show r.getD i 0∈r by rw[zz1,zz8 hi];exact zy9 _)
 refine cD.bA Tryz.func204 vc vf vq (t7 rfl) (t7 rfl) nM (fun hwf W0 D0 E1 =>?_);simp only[su,tR,bp,zz4,Nat.reduceAdd];clear hwf;have ff:=iM (x:=m) (y:=a) (by omega) (by omega);refine J.seq (J.seq ?_);obtain ⟨x,rfl⟩:=List.length_eq_one_iff.1 hl1;obtain ⟨ws,hws⟩:∃ ws,ws=p++[x]++r++q:=⟨_,rfl⟩
 rw[←hws] at hnl hlen gr nj ⊢;have gx:ws.getD a 0=x:=by have:=nj 0 hl0;simpa using this
 have hxr:=hlr x (by simp);have hxS:=hin x (by simp);have hrS:=fun y (hy:y∈r)=>hin y (by simp[hy]);have h1:((m-a:Nat):Int)=1:=by omega
 refine .bu (by decide +kernel) fun K hK =>?_;simp only[sR,ab,Nat.reduceEqDiff,reduceIte]
 try simp only[ff,h1,Int.reduceBEq]
 refine .done (hK _ ?_);clear hK K;try simp only[ar]
 refine J.bH ?_
 try simp only[aq,ab,Nat.reduceEqDiff,reduceIte]
 refine ⟨fun _ =>?_,fun h =>?_⟩
 rotate_left
 ·simp at h
 refine .ao (by decide +kernel) fun K hK =>?_;simp only[GU,ab,Nat.reduceEqDiff,reduceIte];refine .done (hK _ ?_);clear hK K;refine .ao (by decide +kernel) fun K hK =>?_;simp only[GY,ab,Nat.reduceEqDiff,reduceIte];refine .done (hK _ ?_);clear hK K;refine J.seq (J.block (J.loop (fun s:Nat×Nat=>au [(0,.view 1000000 [] 1 0 n),(1,.int .i64 a),(2,.int .i64 m),(3,.int .i64 b),(4,.func 138 [.ref (enc el)]),(10,.int .i64 ((m+s.1:Nat):Int)),(11,.int .i64 ((m+s.2:Nat):Int))] (cA 1000000 ws))
  (fun s=>s.1≤s.2∧s.2≤r.length∧(∀ j,j<s.1→dP el (r.getD j 0) x)∧∀ j,s.2≤j→j<r.length→dP el x (r.getD j 0)) (fun s=>s.2-s.1) (0,r.length) ⟨zw7 _,zz7 _,fun j hj=>by omega,fun j h1 h2=>by simp only at h1;omega⟩ ?_ ?_))
 ·have e1:m+0=m:=rfl;simp only[e1,hb];refine aF.c8 ?_ (fun n=>rfl);simp[aX,aY]
 rintro ⟨i,j⟩ ⟨g1,g2,g3,g4⟩;simp only at g1 g2 g3 g4 ⊢;by_cases hij:i<j
 ·have hc:decide (((m+i:Nat):Int)<((m+j:Nat):Int))=true:=by simp;omega
  have w1:=kB (m+i) (m+j) (by omega);have w2:=nC (x:=m+i+(m+j)) (by omega);obtain ⟨c,hcd⟩:∃ c,c=(i+j) / 2:=⟨_,rfl⟩
  have hci:i≤c∧c<j:=by omega
  have w3:(m+i+(m+j)) / 2=m+c:=by omega
  have w4:=nC (x:=m+c) (by omega);have w5:=uC (n:=m+c) (by omega);have w6:=fw (i:=m+c) (by omega);have v1:=jx (n:=n) (i:=m+c) (by omega);have v2:=jx (n:=n) (i:=a) (by omega);have l1:=gP (xs:=ws) (i:=m+c) (by omega);have l2:=gP (xs:=ws) (i:=a) (by omega);rw[gr c (by omega)] at l1;rw[gx] at l2;have hrc:=mr c (by omega);have hcmp:=rZ el hd hel (r.getD c 0) x (hrS _ hrc) hxS;have hlt:=tk (l:=el) (hxr _ hrc);simp only[cA];cases hdc:decide (gm el (r.getD c 0)-gm el x<0) with
  |true =>
   have hd1:dP el (r.getD c 0) x:=hlt.2 (by have:=of_decide_eq_true hdc;omega);have R:=v6 @hc (v6 @w1 (v6 @w2 (v6 @w3 (v6 @w4 (v6 @w5 (v6 @w6 (v6 @oC (v6 @oB (v6 @v1 (v6 @v2 (v6 @l1 (v6 @l2 (v6 @hdc (v6 @eQ (v6 @eb (v6 @aZ @ab))))))))))))))))
   repeat' ((first |(with_reducible refine .guard (fun hb =>?_) (fun hb =>?_) <;>try simp only[hb])|refine J.aT (by decide +kernel) rfl fun K hK =>?_|refine .flat _ (hcmp) rfl ?_|(refine .aH [0,1,2,3,4,10,11,12,13,14,15,16,17,18,19,20,21,22,23,24,28,33,50,58,80,85,103,110,140,151,171,185,199,213] hK ?_;clear hK K)|(with_reducible refine .done (hK _ ?_);clear hK K)|refine J.of rfl ?_|(with_reducible refine aq.aQ (fun h =>?_) (fun h =>?_) <;>try simp only[h])) <;>try simp only[aU,R,zy0,Nat.reduceEqDiff,reduceIte,Nat.reduceBEq])
   all_goals clear R
   refine ⟨(c+1,j),⟨by simp only;omega,g2,fun k hk =>?_,g4⟩,by simp only;omega,?_⟩
   ·simp only at hk;exact qi hsr (j:=c) (by omega) (by omega) hd1
   ·refine aF.c8 ?_ (fun n=>rfl);simp[aX,aY];omega
  |false =>
   have hd1:dP el x (r.getD c 0):=tj (hxr _ hrc) (by have:=of_decide_eq_false hdc;omega);have R:=v6 @hc (v6 @w1 (v6 @w2 (v6 @w3 (v6 @w4 (v6 @w5 (v6 @w6 (v6 @oC (v6 @oB (v6 @v1 (v6 @v2 (v6 @l1 (v6 @l2 (v6 @hdc (v6 @eQ (v6 @eb (v6 @aZ @ab))))))))))))))))
   repeat' ((first |(with_reducible refine .guard (fun hb =>?_) (fun hb =>?_) <;>try simp only[hb])|refine J.aT (by decide +kernel) rfl fun K hK =>?_|refine .flat _ (hcmp) rfl ?_|(refine .aH [0,1,2,3,4,10,11,12,13,14,15,16,17,18,19,20,21,22,23,24,28,33,50,58,80,85,103,110,140,151,171,185,199,213] hK ?_;clear hK K)|(with_reducible refine .done (hK _ ?_);clear hK K)|refine J.of rfl ?_|(with_reducible refine aq.aQ (fun h =>?_) (fun h =>?_) <;>try simp only[h])) <;>try simp only[aU,R,zy0,Nat.reduceEqDiff,reduceIte,Nat.reduceBEq])
   all_goals clear R
   refine ⟨(i,c),⟨by simp only;omega,by simp only;omega,g3,fun k hk hk2 =>?_⟩,by simp only;omega,?_⟩
   ·simp only at hk;exact qh hsr (i:=c) (by omega) hk2 hd1
   ·refine aF.c8 ?_ (fun n=>rfl);simp[aX,aY]
 ·have hc:decide (((m+i:Nat):Int)<((m+j:Nat):Int))=false:=by simp;omega
  have he:j=i:=by omega
  subst he;refine J.seq (J.seq ?_);refine .bu (by decide +kernel) fun K hK =>?_;simp only[G3,ab,Nat.reduceEqDiff,reduceIte]
  try simp only[hc]
  refine .done (hK _ ?_);clear hK K;try simp only[ar]
  refine J.bH ?_;simp only[aq,ab,Nat.reduceEqDiff,reduceIte];refine ⟨fun h =>?_,fun h =>?_⟩
  ·cases h
  refine J.exit ?_;try simp only[ar,bL,reduceIte]
  refine J.seq (J.seq ?_);refine .bu (by decide +kernel) fun K hK =>?_;simp only[G7,ab,Nat.reduceEqDiff,reduceIte];refine .done (hK _ ?_);clear hK K;try simp only[ar]
  have hi0:=agt p r q x;rw[hws,←hi0];refine J.block (J.loop (fun k:Nat=>au [(0,.view 1000000 [] 1 0 n),(10,.int .i64 ((m+j:Nat):Int)),(13,.int .i64 ((a+k:Nat):Int))] (cA 1000000 (eh p r q x k))) (fun k=>k≤j) (fun k=>j-k) 0 (zw7 _) ?_ (fun k hk =>?_))
  ·refine aF.c8 ?_ (fun n=>rfl);simp[aX,aY]
  have ww:IntKind.i64.wrap (((m+j:Nat):Int)-1)=((a+j:Nat):Int):=by rw[cE _ (by omega) (by omega)];simp at hm;omega
  have hil:(eh p r q x k).length=p.length+r.length+1+q.length:=xk (by omega);by_cases hkj:k<j
  ·have hc2:decide (((a+k:Nat):Int)<((a+j:Nat):Int))=true:=by simp;omega
   have hstep:=akn (p:=p) (r:=r) (q:=q) (x:=x) (j:=k) ha (by omega);generalize eh p r q x k=ws at hil hstep ⊢;obtain ⟨i1,hi1e⟩:∃ i1,i1=a+k:=⟨_,rfl⟩
   obtain ⟨j1,hj1e⟩:∃ j1,j1=a+k+1:=⟨_,rfl⟩
   rw[←hj1e,←hi1e] at hstep;have wk:IntKind.i64.wrap ((i1:Int)+1)=(j1:Int):=by rw[cE _ (by omega) (by omega)];omega
   rw[←hi1e] at hc2 ⊢;have hi1:i1<n:=by simp at hm;omega
   have hj1:j1<n:=by simp at hm;omega
   simp only[cA];have v1:=jx (n:=n) (i:=i1) hi1;have v2:=jx (n:=n) (i:=j1) hj1;have l1:=gP (xs:=ws) (i:=i1) (by omega);have l2:=gP (xs:=ws) (i:=j1) (by omega);have s1:=fun (A:ae) v u rest=>nQ (A:=A) (n:=1000000) (xs:=ws) (i:=i1) (by omega) v u rest;obtain ⟨ws2,hws2⟩:∃ ws2,ws2=ws.set i1 (ws.getD j1 0):=⟨_,rfl⟩
   have hw2l:ws2.length=ws.length:=by rw[hws2];simp
   have s2:=fun (A:ae) v u rest=>nQ (A:=A) (n:=1000000) (xs:=ws2) (i:=j1) (by omega) v u rest;have l3:=gP (xs:=ws2) (i:=j1) (by omega);have R:=v6 @ww (v6 @hc2 (v6 @wk (v6 @v1 (v6 @v2 (v6 @l1 (v6 @l2 (v6 @l3 (v6 @s1 (v6 @s2 (v6 @eQ (v6 @aZ @ab)))))))))))
   repeat' ((first |(with_reducible refine .guard (fun hb =>?_) (fun hb =>?_) <;>try simp only[hb])|refine J.aT (by decide +kernel) rfl fun K hK =>?_|(refine .aH [0,1,2,3,4,10,11,12,13,14,15,16,17,18,19,20,21,22,23,24,28,33,50,58,80,85,103,110,140,151,171,185,199,213] hK ?_;clear hK K)|(with_reducible refine .done (hK _ ?_);clear hK K)|refine J.of rfl ?_|(with_reducible refine aq.aQ (fun h =>?_) (fun h =>?_) <;>try simp only[h])) <;>try simp only[aU,R,←hws2,Nat.reduceEqDiff,reduceIte,Nat.reduceBEq])
   all_goals clear R
   refine ⟨k+1,by omega,by omega,?_⟩;rw[←hstep];simp only[kA,←hws2];have e:a+(k+1)=j1:=by omega
   rw[e];refine aF.c8 ?_ (fun n =>?_)
   ·simp[aX,aY]
   ·simp only[ak];split <;>rfl
  ·have hc2:decide (((a+k:Nat):Int)<((a+j:Nat):Int))=false:=by simp;omega
   have hk2:k=j:=by omega
   subst hk2;have R:=v6 @ww (v6 @hc2 (v6 @aZ (v6 @fI @ab)))
   repeat' ((first |(with_reducible refine .guard (fun hb =>?_) (fun hb =>?_) <;>try simp only[hb])|refine J.aT (by decide +kernel) rfl fun K hK =>?_|(refine .aH [0,1,2,3,4,10,11,12,13,14,15,16,17,18,19,20,21,22,23,24,28,33,50,58,80,85,103,110,140,151,171,185,199,213] hK ?_;clear hK K)|(with_reducible refine .done (hK _ ?_);clear hK K)|refine J.of rfl ?_|(with_reducible refine aq.aQ (fun h =>?_) (fun h =>?_) <;>try simp only[h])) <;>try simp only[aU,R,Nat.reduceEqDiff,reduceIte,Nat.reduceBEq])
   all_goals clear R
   refine nJ rfl rfl ⟨rfl,r.take k++x::r.drop k,?_,?_,?_⟩
   ·refine List.perm_middle.trans ?_;rw[zx2];exact .refl _
   ·refine yU hsr (fun y hy =>?_) (fun y hy =>?_)
    ·obtain ⟨i,h1,h2,rfl⟩:=tn hy;exact g3 i h1
    ·obtain ⟨i,h1,h2,rfl⟩:=pS hy;exact g4 i h1 h2
   ·rfl
theorem Pt(el:List av)(hd:mj el)(hel:el.length≤60)(p l r q:List Int)(a m b n:Nat)(hl0:0<l.length)(hr0:0<r.length)(ha:p.length=a)(hm:a+l.length=m)(hb:m+r.length=b)(hn:b≤n)(hnl:n≤(p++l++r++q).length)(hn1:n≤1000)(hsl:du el l)(hsr:du el r)(hlr:∀ x∈l,∀ y∈r,x<y)(hin:∀ x∈l++r,jw el x)(hl1:¬ l.length=1)(hr1:r.length=1) :
  cD Tryz.prog 204 [.view 1000000 [] 1 0 n,enc (a:Int),enc (m:Int),enc (b:Int),.func 138 [.ref (enc el)]] (cA 1000000 (p++l++r++q)) (mY el p (l++r) q):=by
 have hlen:(p++l++r++q).length=p.length+l.length+r.length+q.length:=by simp only[zz5]
 have nj:=fun i (hi:i<l.length)=>wW (p:=p) (l:=l) (r:=r) (q:=q) (i:=i) ha hi;have gr:=fun i (hi:i<r.length)=>wX (p:=p) (l:=l) (r:=r) (q:=q) (m:=m) (i:=i) (by omega) hi;have ml:=fun i (hi:i<l.length)=>(show l.getD i 0∈l by rw[zz1,zz8 hi];exact zy9 _)
 have mr:=fun i (hi:i<r.length)=>(show r.getD i 0∈r by rw[zz1,zz8 hi];exact zy9 _)
 refine cD.bA Tryz.func204 vc vf vq (t7 rfl) (t7 rfl) nM (fun hwf W0 D0 E1 =>?_);simp only[su,tR,bp,zz4,Nat.reduceAdd];clear hwf;have ff:=iM (x:=m) (y:=a) (by omega) (by omega);refine J.seq (J.seq ?_);have h1:(((m-a:Nat):Int)==1)=false:=by simp;omega
 obtain ⟨ws,hws⟩:∃ ws,ws=p++l++r++q:=⟨_,rfl⟩
 rw[←hws] at hnl hlen gr nj ⊢;have w0b:=iM (x:=b) (y:=m) (by omega) (by omega);refine .bu (by decide +kernel) fun K hK =>?_;simp only[sR,ab,Nat.reduceEqDiff,reduceIte]
 try simp only[ff,h1]
 refine .done (hK _ ?_);clear hK K;try simp only[ar]
 refine J.bH ?_
 try simp only[aq,ab,Nat.reduceEqDiff,reduceIte]
 refine ⟨fun h =>?_,fun _ =>?_⟩
 ·simp at h
 refine J.skip ?_;try simp only[ar]
 refine J.seq (J.seq ?_);obtain ⟨x,rfl⟩:=List.length_eq_one_iff.1 hr1;have gx:ws.getD m 0=x:=by have:=gr 0 hr0;simpa using this
 have hlx:∀ y∈l,y<x:=fun y hy=>hlr y hy x (by simp);have hxS:=hin x (by simp);have hlS:=fun y (hy:y∈l)=>hin y (by simp[hy]);have h2:((b-m:Nat):Int)=1:=by omega
 refine .bu (by decide +kernel) fun K hK =>?_;simp only[wF,ab,Nat.reduceEqDiff,reduceIte]
 try simp only[w0b,h2,Int.reduceBEq]
 refine .done (hK _ ?_);clear hK K;try simp only[ar]
 refine J.bH ?_
 try simp only[aq,ab,Nat.reduceEqDiff,reduceIte]
 refine ⟨fun _ =>?_,fun h =>?_⟩
 rotate_left
 ·simp at h
 refine .ao (by decide +kernel) fun K hK =>?_;simp only[GV,ab,Nat.reduceEqDiff,reduceIte];refine .done (hK _ ?_);clear hK K;refine .ao (by decide +kernel) fun K hK =>?_;simp only[GW,ab,Nat.reduceEqDiff,reduceIte];refine .done (hK _ ?_);clear hK K;refine J.seq (J.block (J.loop (fun s:Nat×Nat=>au [(0,.view 1000000 [] 1 0 n),(1,.int .i64 a),(2,.int .i64 m),(3,.int .i64 b),(4,.func 138 [.ref (enc el)]),(14,.int .i64 ((a+s.1:Nat):Int)),(15,.int .i64 ((a+s.2:Nat):Int))] (cA 1000000 ws))
  (fun s=>s.1≤s.2∧s.2≤l.length∧(∀ j,j<s.1→dP el (l.getD j 0) x)∧∀ j,s.2≤j→j<l.length→dP el x (l.getD j 0)) (fun s=>s.2-s.1) (0,l.length) ⟨zw7 _,zz7 _,fun j hj=>by omega,fun j h1 h2=>by simp only at h1;omega⟩ ?_ ?_))
 ·have e1:a+0=a:=rfl;simp only[e1,hm];refine aF.c8 ?_ (fun n=>rfl);simp[aX,aY]
 rintro ⟨i,j⟩ ⟨g1,g2,g3,g4⟩;simp only at g1 g2 g3 g4 ⊢;by_cases hij:i<j
 ·have hc:decide (((a+i:Nat):Int)<((a+j:Nat):Int))=true:=by simp;omega
  have w1:=kB (a+i) (a+j) (by omega);have w2:=nC (x:=a+i+(a+j)) (by omega);obtain ⟨c,hcd⟩:∃ c,c=(i+j) / 2:=⟨_,rfl⟩
  have hci:i≤c∧c<j:=by omega
  have w3:(a+i+(a+j)) / 2=a+c:=by omega
  have w4:=nC (x:=a+c) (by omega);have w5:=uC (n:=a+c) (by omega);have w6:=fw (i:=a+c) (by omega);have v1:=jx (n:=n) (i:=a+c) (by omega);have v2:=jx (n:=n) (i:=m) (by omega);have l1:=gP (xs:=ws) (i:=a+c) (by omega);have l2:=gP (xs:=ws) (i:=m) (by omega);rw[nj c (by omega)] at l1;rw[gx] at l2;have hrc:=ml c (by omega);have hcmp:=rZ el hd hel x (l.getD c 0) hxS (hlS _ hrc);have hlt:=tk (l:=el) (hlx _ hrc);simp only[cA];cases hdc:decide (gm el x-gm el (l.getD c 0)<0) with
  |true =>
   have hd1:dP el x (l.getD c 0):=hlt.2 (by have:=of_decide_eq_true hdc;omega);have R:=v6 @hc (v6 @w1 (v6 @w2 (v6 @w3 (v6 @w4 (v6 @w5 (v6 @w6 (v6 @oC (v6 @oB (v6 @v1 (v6 @v2 (v6 @l1 (v6 @l2 (v6 @hdc (v6 @eQ (v6 @eb (v6 @aZ @ab))))))))))))))))
   repeat' ((first |(with_reducible refine .guard (fun hb =>?_) (fun hb =>?_) <;>try simp only[hb])|refine J.aT (by decide +kernel) rfl fun K hK =>?_|refine .flat _ (hcmp) rfl ?_|(refine .aH [0,1,2,3,4,10,11,12,13,14,15,16,17,18,19,20,21,22,23,24,28,33,50,58,80,85,103,110,140,151,171,185,199,213] hK ?_;clear hK K)|(with_reducible refine .done (hK _ ?_);clear hK K)|refine J.of rfl ?_|(with_reducible refine aq.aQ (fun h =>?_) (fun h =>?_) <;>try simp only[h])) <;>try simp only[aU,R,zy0,Nat.reduceEqDiff,reduceIte,Nat.reduceBEq])
   all_goals clear R
   refine ⟨(i,c),⟨by simp only;omega,by simp only;omega,g3,fun k hk hk2 =>?_⟩,by simp only;omega,?_⟩
   ·simp only at hk;exact qh hsl (i:=c) (by omega) hk2 hd1
   ·refine aF.c8 ?_ (fun n=>rfl);simp[aX,aY]
  |false =>
   have hd1:dP el (l.getD c 0) x:=tj (hlx _ hrc) (by have:=of_decide_eq_false hdc;omega);have R:=v6 @hc (v6 @w1 (v6 @w2 (v6 @w3 (v6 @w4 (v6 @w5 (v6 @w6 (v6 @oC (v6 @oB (v6 @v1 (v6 @v2 (v6 @l1 (v6 @l2 (v6 @hdc (v6 @eQ (v6 @eb (v6 @aZ @ab))))))))))))))))
   repeat' ((first |(with_reducible refine .guard (fun hb =>?_) (fun hb =>?_) <;>try simp only[hb])|refine J.aT (by decide +kernel) rfl fun K hK =>?_|refine .flat _ (hcmp) rfl ?_|(refine .aH [0,1,2,3,4,10,11,12,13,14,15,16,17,18,19,20,21,22,23,24,28,33,50,58,80,85,103,110,140,151,171,185,199,213] hK ?_;clear hK K)|(with_reducible refine .done (hK _ ?_);clear hK K)|refine J.of rfl ?_|(with_reducible refine aq.aQ (fun h =>?_) (fun h =>?_) <;>try simp only[h])) <;>try simp only[aU,R,zy0,Nat.reduceEqDiff,reduceIte,Nat.reduceBEq])
   all_goals clear R
   refine ⟨(c+1,j),⟨by simp only;omega,g2,fun k hk =>?_,g4⟩,by simp only;omega,?_⟩
   ·simp only at hk;exact qi hsl (j:=c) (by omega) (by omega) hd1
   ·refine aF.c8 ?_ (fun n=>rfl);simp[aX,aY];omega
 ·have hc:decide (((a+i:Nat):Int)<((a+j:Nat):Int))=false:=by simp;omega
  have he:j=i:=by omega
  subst he;refine J.seq (J.seq ?_);refine .bu (by decide +kernel) fun K hK =>?_;simp only[GX,ab,Nat.reduceEqDiff,reduceIte]
  try simp only[hc]
  refine .done (hK _ ?_);clear hK K;try simp only[ar]
  refine J.bH ?_;simp only[aq,ab,Nat.reduceEqDiff,reduceIte];refine ⟨fun h =>?_,fun h =>?_⟩
  ·cases h
  refine J.exit ?_;try simp only[ar,bL,reduceIte]
  refine J.seq (J.seq ?_);refine .bu (by decide +kernel) fun K hK =>?_;simp only[GZ,ab,Nat.reduceEqDiff,reduceIte];refine .done (hK _ ?_);clear hK K;try simp only[ar]
  have hi0:=agw p l q x;rw[hws,←hi0];refine J.block (J.loop (fun k:Nat=>au [(0,.view 1000000 [] 1 0 n),(14,.int .i64 ((a+j:Nat):Int)),(17,.int .i64 ((a+k:Nat):Int))] (cA 1000000 (eh p l q x k))) (fun k=>j≤k∧k≤l.length) (fun k=>k-j) l.length ⟨g2,zz7 _⟩ ?_ (fun k hk =>?_))
  ·rw[hm];refine aF.c8 ?_ (fun n=>rfl);simp[aX,aY]
  have hil:(eh p l q x k).length=p.length+l.length+1+q.length:=xk (by omega);by_cases hkj:j<k
  ·have hc2:decide (((a+j:Nat):Int)<((a+k:Nat):Int))=true:=by simp;omega
   obtain ⟨k',rfl⟩:∃ k',k=k'+1:=⟨k-1,by omega⟩
   have hstep:=JB (p:=p) (t:=l) (rest:=q) (x:=x) (c:=k') ha (by omega);generalize eh p l q x (k'+1)=ws at hil hstep ⊢;obtain ⟨i1,hi1e⟩:∃ i1,i1=a+(k'+1):=⟨_,rfl⟩
   obtain ⟨j1,hj1e⟩:∃ j1,j1=a+k':=⟨_,rfl⟩
   have hij:a+k'+1=i1:=by omega
   rw[hij,←hj1e] at hstep;have wk:IntKind.i64.wrap ((i1:Int)-1)=(j1:Int):=by rw[cE _ (by omega) (by omega)];omega
   rw[←hi1e] at hc2 ⊢;have hi1:i1<n:=by omega
   have hj1:j1<n:=by omega
   simp only[cA];have v1:=jx (n:=n) (i:=i1) hi1;have v2:=jx (n:=n) (i:=j1) hj1;have l1:=gP (xs:=ws) (i:=i1) (by omega);have l2:=gP (xs:=ws) (i:=j1) (by omega);have s1:=fun (A:ae) v u rest=>nQ (A:=A) (n:=1000000) (xs:=ws) (i:=i1) (by omega) v u rest;obtain ⟨ws2,hws2⟩:∃ ws2,ws2=ws.set i1 (ws.getD j1 0):=⟨_,rfl⟩
   have hw2l:ws2.length=ws.length:=by rw[hws2];simp
   have s2:=fun (A:ae) v u rest=>nQ (A:=A) (n:=1000000) (xs:=ws2) (i:=j1) (by omega) v u rest;have l3:=gP (xs:=ws2) (i:=j1) (by omega);have R:=v6 @hc2 (v6 @wk (v6 @v1 (v6 @v2 (v6 @l1 (v6 @l2 (v6 @l3 (v6 @s1 (v6 @s2 (v6 @eQ (v6 @aZ @ab))))))))))
   repeat' ((first |(with_reducible refine .guard (fun hb =>?_) (fun hb =>?_) <;>try simp only[hb])|refine J.aT (by decide +kernel) rfl fun K hK =>?_|(refine .aH [0,1,2,3,4,10,11,12,13,14,15,16,17,18,19,20,21,22,23,24,28,33,50,58,80,85,103,110,140,151,171,185,199,213] hK ?_;clear hK K)|(with_reducible refine .done (hK _ ?_);clear hK K)|refine J.of rfl ?_|(with_reducible refine aq.aQ (fun h =>?_) (fun h =>?_) <;>try simp only[h])) <;>try simp only[aU,R,←hws2,Nat.reduceEqDiff,reduceIte,Nat.reduceBEq])
   all_goals clear R
   refine ⟨k',by omega,by omega,?_⟩;rw[←hstep];simp only[kA,←hws2,←hj1e];refine aF.c8 ?_ (fun n =>?_)
   ·simp[aX,aY]
   ·simp only[ak];split <;>rfl
  ·have hc2:decide (((a+j:Nat):Int)<((a+k:Nat):Int))=false:=by simp;omega
   have hk2:k=j:=by omega
   subst hk2;have R:=v6 @hc2 (v6 @aZ (v6 @fI @ab))
   repeat' ((first |(with_reducible refine .guard (fun hb =>?_) (fun hb =>?_) <;>try simp only[hb])|refine J.aT (by decide +kernel) rfl fun K hK =>?_|(refine .aH [0,1,2,3,4,10,11,12,13,14,15,16,17,18,19,20,21,22,23,24,28,33,50,58,80,85,103,110,140,151,171,185,199,213] hK ?_;clear hK K)|(with_reducible refine .done (hK _ ?_);clear hK K)|refine J.of rfl ?_|(with_reducible refine aq.aQ (fun h =>?_) (fun h =>?_) <;>try simp only[h])) <;>try simp only[aU,R,Nat.reduceEqDiff,reduceIte,Nat.reduceBEq])
   all_goals clear R
   refine nJ rfl rfl ⟨rfl,l.take k++x::l.drop k,?_,?_,?_⟩
   ·refine List.perm_middle.trans ?_;rw[zx2];exact List.perm_append_comm (l₁:=[x])
   ·refine yU hsl (fun y hy =>?_) (fun y hy =>?_)
    ·obtain ⟨i,h1,h2,rfl⟩:=tn hy;exact g3 i h1
    ·obtain ⟨i,h1,h2,rfl⟩:=pS hy;exact g4 i h1 h2
   ·rfl
theorem Pu(el:List av)(hd:mj el)(hel:el.length≤60)(N:Nat)(ih:∀ (p l r q:List Int) (a m b n:Nat),l.length+r.length≤N→0<l.length→0<r.length→p.length=a→a+l.length=m→m+r.length=b→b≤n→n≤(p++l++r++q).length→n≤1000→du el l→du el r→(∀ x∈l,∀ y∈r,x<y)→(∀ x∈l++r,jw el x) →
  cD Tryz.prog 204 [.view 1000000 [] 1 0 n,enc (a:Int),enc (m:Int),enc (b:Int),.func 138 [.ref (enc el)]] (cA 1000000 (p++l++r++q)) (mY el p (l++r) q)) (p l r q:List Int) (a m b n:Nat) (hl0:0<l.length) (hr0:0<r.length) (ha:p.length=a) (hm:a+l.length=m) (hb:m+r.length=b) (hn:b≤n) (hnl:n≤(p++l++r++q).length) (hn1:n≤1000) (hsl:du el l) (hsr:du el r) (hlr:∀ x∈l,∀ y∈r,x<y) (hin:∀ x∈l++r,jw el x) (hN:l.length+r.length≤N+1) (hl1:¬ l.length=1) (hr1:¬ r.length=1) :
  cD Tryz.prog 204 [.view 1000000 [] 1 0 n,enc (a:Int),enc (m:Int),enc (b:Int),.func 138 [.ref (enc el)]] (cA 1000000 (p++l++r++q)) (mY el p (l++r) q):=by
 have hlen:(p++l++r++q).length=p.length+l.length+r.length+q.length:=by simp only[zz5]
 have nj:=fun i (hi:i<l.length)=>wW (p:=p) (l:=l) (r:=r) (q:=q) (i:=i) ha hi;have gr:=fun i (hi:i<r.length)=>wX (p:=p) (l:=l) (r:=r) (q:=q) (m:=m) (i:=i) (by omega) hi;have ml:=fun i (hi:i<l.length)=>(show l.getD i 0∈l by rw[zz1,zz8 hi];exact zy9 _)
 have mr:=fun i (hi:i<r.length)=>(show r.getD i 0∈r by rw[zz1,zz8 hi];exact zy9 _)
 refine cD.bA Tryz.func204 vc vf vq (t7 rfl) (t7 rfl) nM (fun hwf W0 D0 E1 =>?_);simp only[su,tR,bp,zz4,Nat.reduceAdd];clear hwf;have ff:=iM (x:=m) (y:=a) (by omega) (by omega);refine J.seq (J.seq ?_);have h1:(((m-a:Nat):Int)==1)=false:=by simp;omega
 obtain ⟨ws,hws⟩:∃ ws,ws=p++l++r++q:=⟨_,rfl⟩
 rw[←hws] at hnl hlen gr nj ⊢;have w0b:=iM (x:=b) (y:=m) (by omega) (by omega);refine .bu (by decide +kernel) fun K hK =>?_;simp only[sR,ab,Nat.reduceEqDiff,reduceIte]
 try simp only[ff,h1]
 refine .done (hK _ ?_);clear hK K;try simp only[ar]
 refine J.bH ?_
 try simp only[aq,ab,Nat.reduceEqDiff,reduceIte]
 refine ⟨fun h =>?_,fun _ =>?_⟩
 ·simp at h
 refine J.skip ?_;try simp only[ar]
 refine J.seq (J.seq ?_);have h2:(((b-m:Nat):Int)==1)=false:=by simp;omega
 refine .bu (by decide +kernel) fun K hK =>?_;simp only[wF,ab,Nat.reduceEqDiff,reduceIte]
 try simp only[w0b,h2]
 refine .done (hK _ ?_);clear hK K;try simp only[ar]
 refine J.bH ?_
 try simp only[aq,ab,Nat.reduceEqDiff,reduceIte]
 refine ⟨fun h =>?_,fun _ =>?_⟩
 ·simp at h
 refine J.skip ?_;try simp only[ar]
 obtain ⟨k,hk⟩:∃ k,k=(l.length+r.length) / 2:=⟨_,rfl⟩
 have w1:=kB a b (by omega);have w2:=nC (x:=a+b) (by omega);have w3:(a+b) / 2=a+k:=by omega
 have w4:=nC (x:=a+k) (by omega);have w5:=uC (n:=a+k) (by omega);have w6:=kB (a+k) m (by omega);refine .ao (by decide +kernel) fun K hK =>?_;simp only[G0,ab,Nat.reduceEqDiff,reduceIte]
 try simp only[w1,w2,w3,w5,oC,oB,ab,Nat.reduceEqDiff,reduceIte]
 refine .done (hK _ ?_);clear hK K;refine .ao (by decide +kernel) fun K hK =>?_;simp only[G1,ab,Nat.reduceEqDiff,reduceIte]
 try simp only[w6]
 refine .done (hK _ ?_);clear hK K;refine .ao (by decide +kernel) fun K hK =>?_;simp only[G2,ab];refine .done (hK _ ?_);clear hK K;obtain ⟨lo,hi,q1,q2,q3,q4,q5,q6,q7⟩:∃ lo hi,(if a+k<m then lo+r.length=k∧hi=k else lo=0∧hi=l.length)∧lo≤hi∧hi≤l.length∧hi≤k∧k≤lo+r.length∧(lo=0∨lo+r.length=k)∧(hi=l.length∨hi=k):=by
  by_cases h:a+k<m
  ·exact ⟨k-r.length,k,by rw[if_pos h];omega,by omega,by omega,by omega,by omega,by omega,by omega⟩
  ·exact ⟨0,l.length,by rw[if_neg h];omega,by omega,by omega,by omega,by omega,by omega,by omega⟩
 refine J.seq (J.y9 (au [(0,.view 1000000 [] 1 0 n),(1,.int .i64 a),(2,.int .i64 m),(3,.int .i64 b),(4,.func 138 [.ref (enc el)]),(18,.int .i64 ((a+k:Nat):Int)),(19,.int .i64 ((a+k+m:Nat):Int)),(20,.int .i64 ((a+lo:Nat):Int)),(21,.int .i64 ((a+hi:Nat):Int))] (cA 1000000 ws)) ?_ fun B hB=>J.sub hB ?_)
 ·by_cases h:a+k<m
  ·rw[if_pos h] at q1;have hc:decide (((a+k:Nat):Int)<(m:Int))=true:=by simp;omega
   have w7:=iM (x:=a+k+m) (y:=b) (by omega) (by omega);have e1:a+k+m-b=a+lo:=by omega
   have R:=v6 @hc (v6 @w7 (v6 @e1 (v6 @aZ @ab)))
   repeat' ((first |(with_reducible refine .guard (fun hb =>?_) (fun hb =>?_) <;>try simp only[hb])|refine J.aT (by decide +kernel) rfl fun K hK =>?_|(refine .aH [0,1,2,3,4,10,11,12,13,14,15,16,17,18,19,20,21,22,23,24,28,33,50,58,80,85,103,110,140,151,171,185,199,213] hK ?_;clear hK K)|(with_reducible refine .done (hK _ ?_);clear hK K)|refine J.of rfl ?_|(with_reducible refine aq.aQ (fun h =>?_) (fun h =>?_) <;>try simp only[h])) <;>try simp only[aU,R,Nat.reduceEqDiff,reduceIte,Nat.reduceBEq])
   all_goals clear R
   rw[q1.2];refine aF.c8 ?_ (fun n=>rfl);simp[aX,aY]
  ·rw[if_neg h] at q1;have hc:decide (((a+k:Nat):Int)<(m:Int))=false:=by simp;omega
   have R:=v6 @hc (v6 @aZ @ab)
   repeat' ((first |(with_reducible refine .guard (fun hb =>?_) (fun hb =>?_) <;>try simp only[hb])|refine J.aT (by decide +kernel) rfl fun K hK =>?_|(refine .aH [0,1,2,3,4,10,11,12,13,14,15,16,17,18,19,20,21,22,23,24,28,33,50,58,80,85,103,110,140,151,171,185,199,213] hK ?_;clear hK K)|(with_reducible refine .done (hK _ ?_);clear hK K)|refine J.of rfl ?_|(with_reducible refine aq.aQ (fun h =>?_) (fun h =>?_) <;>try simp only[h])) <;>try simp only[aU,R,Nat.reduceEqDiff,reduceIte,Nat.reduceBEq])
   all_goals clear R
   rw[q1.2,q1.1,hm];refine aF.c8 ?_ (fun n=>rfl);simp[aX,aY]
 clear q1 w1 w2 w3 w4 w5 w6 hl1 hr1 ff w0b;have hcrF:∀ i,lo≤i→i≤hi→(∀ j,lo≤j→j<i→dP el (l.getD j 0) (r.getD (k-1-j) 0))→(∀ j,i≤j→j<hi→dP el (r.getD (k-1-j) 0) (l.getD j 0))→rX el l r k i:=fun i a1 a2 a3 a4=>WN hsl hsr a1 a2 q6 q7 q3 q4 q5 a3 a4;have hk2:2*k≤l.length+r.length:=by omega
 have hk3:1≤k:=by omega
 clear q6 q7 hk;have w8:IntKind.i64.wrap (((a+k+m:Nat):Int)-1)=((a+k+m-1:Nat):Int):=by rw[cE _ (by omega) (by omega)];omega
 refine .ao (by decide +kernel) fun K hK =>?_;simp only[G4,ab,Nat.reduceEqDiff,reduceIte]
 try simp only[w8]
 refine .done (hK _ ?_);clear hK K;refine J.seq (J.block (J.loop (fun s:Nat×Nat=>au [(0,.view 1000000 [] 1 0 n),(1,.int .i64 a),(2,.int .i64 m),(3,.int .i64 b),(4,.func 138 [.ref (enc el)]),(18,.int .i64 ((a+k:Nat):Int)),(19,.int .i64 ((a+k+m:Nat):Int)),(22,.int .i64 ((a+k+m-1:Nat):Int)),(20,.int .i64 ((a+s.1:Nat):Int)),(21,.int .i64 ((a+s.2:Nat):Int))] (cA 1000000 ws))
  (fun s=>lo≤s.1∧s.1≤s.2∧s.2≤hi∧(∀ j,lo≤j→j<s.1→dP el (l.getD j 0) (r.getD (k-1-j) 0))∧∀ j,s.2≤j→j<hi→dP el (r.getD (k-1-j) 0) (l.getD j 0)) (fun s=>s.2-s.1) (lo,hi) ⟨zz7 _,q2,zz7 _,fun j h1 h2=>by simp only at h2;omega,fun j h1 h2=>by simp only at h1;omega⟩ ?_ ?_))
 ·refine aF.c8 ?_ (fun n=>rfl);simp[aX,aY]
 rintro ⟨i,j⟩ ⟨fx,g1,g2,g3,g4⟩;simp only at fx g1 g2 g3 g4 ⊢;by_cases hij:i<j
 ·have hc:decide (((a+i:Nat):Int)<((a+j:Nat):Int))=true:=by simp;omega
  have w1:=kB (a+i) (a+j) (by omega);have w2:=nC (x:=a+i+(a+j)) (by omega);obtain ⟨c,hcd⟩:∃ c,c=(i+j) / 2:=⟨_,rfl⟩
  have hci:i≤c∧c<j:=by omega
  have w3:(a+i+(a+j)) / 2=a+c:=by omega
  have w4:=nC (x:=a+c) (by omega);have w5:=uC (n:=a+c) (by omega);have w6:=fw (i:=a+c) (by omega);have w9:=iM (x:=a+k+m-1) (y:=a+c) (by omega) (by omega);have e1:a+k+m-1-(a+c)=m+(k-1-c):=by omega
  have v1:=jx (n:=n) (i:=a+c) (by omega);have v2:=jx (n:=n) (i:=m+(k-1-c)) (by omega);have l1:=gP (xs:=ws) (i:=a+c) (by omega);have l2:=gP (xs:=ws) (i:=m+(k-1-c)) (by omega);rw[nj c (by omega)] at l1;rw[gr (k-1-c) (by omega)] at l2;have hlc:=ml c (by omega);have hrc:=mr (k-1-c) (by omega);have hcmp:=rZ el hd hel (r.getD (k-1-c) 0) (l.getD c 0) (hin _ (by simp only[zy1];exact .inr hrc)) (hin _ (by simp only[zy1];exact .inl hlc));have hlt:=tk (l:=el) (hlr _ hlc _ hrc);simp only[cA];cases hdc:decide (gm el (r.getD (k-1-c) 0)-gm el (l.getD c 0)<0) with
  |true =>
   have hd1:dP el (r.getD (k-1-c) 0) (l.getD c 0):=hlt.2 (by have:=of_decide_eq_true hdc;omega);have R:=v6 @hc (v6 @w1 (v6 @w2 (v6 @w3 (v6 @w4 (v6 @w5 (v6 @w6 (v6 @w9 (v6 @e1 (v6 @oC (v6 @oB (v6 @v1 (v6 @v2 (v6 @l1 (v6 @l2 (v6 @hdc (v6 @eQ (v6 @eb (v6 @aZ @ab))))))))))))))))))
   repeat' ((first |(with_reducible refine .guard (fun hb =>?_) (fun hb =>?_) <;>try simp only[hb])|refine J.aT (by decide +kernel) rfl fun K hK =>?_|refine .flat _ (hcmp) rfl ?_|(refine .aH [0,1,2,3,4,10,11,12,13,14,15,16,17,18,19,20,21,22,23,24,28,33,50,58,80,85,103,110,140,151,171,185,199,213] hK ?_;clear hK K)|(with_reducible refine .done (hK _ ?_);clear hK K)|refine J.of rfl ?_|(with_reducible refine aq.aQ (fun h =>?_) (fun h =>?_) <;>try simp only[h])) <;>try simp only[aU,R,zy0,Nat.reduceEqDiff,reduceIte,Nat.reduceBEq])
   all_goals clear R
   refine ⟨(i,c),⟨fx,by simp only;omega,by simp only;omega,g3,fun t ht ht2 =>?_⟩,by simp only;omega,?_⟩
   ·simp only at ht;exact qi hsr (j:=k-1-c) (by omega) (by omega) (qh hsl (i:=c) (by omega) (by omega) hd1)
   ·refine aF.c8 ?_ (fun n=>rfl);simp[aX,aY]
  |false =>
   have hd1:dP el (l.getD c 0) (r.getD (k-1-c) 0):=tj (hlr _ hlc _ hrc) (by have:=of_decide_eq_false hdc;omega);have R:=v6 @hc (v6 @w1 (v6 @w2 (v6 @w3 (v6 @w4 (v6 @w5 (v6 @w6 (v6 @w9 (v6 @e1 (v6 @oC (v6 @oB (v6 @v1 (v6 @v2 (v6 @l1 (v6 @l2 (v6 @hdc (v6 @eQ (v6 @eb (v6 @aZ @ab))))))))))))))))))
   repeat' ((first |(with_reducible refine .guard (fun hb =>?_) (fun hb =>?_) <;>try simp only[hb])|refine J.aT (by decide +kernel) rfl fun K hK =>?_|refine .flat _ (hcmp) rfl ?_|(refine .aH [0,1,2,3,4,10,11,12,13,14,15,16,17,18,19,20,21,22,23,24,28,33,50,58,80,85,103,110,140,151,171,185,199,213] hK ?_;clear hK K)|(with_reducible refine .done (hK _ ?_);clear hK K)|refine J.of rfl ?_|(with_reducible refine aq.aQ (fun h =>?_) (fun h =>?_) <;>try simp only[h])) <;>try simp only[aU,R,zy0,Nat.reduceEqDiff,reduceIte,Nat.reduceBEq])
   all_goals clear R
   refine ⟨(c+1,j),⟨by simp only;omega,by simp only;omega,g2,fun t ht ht2 =>?_,g4⟩,by simp only;omega,?_⟩
   ·simp only at ht2;exact qi hsl (j:=c) (by omega) (by omega) (qh hsr (i:=k-1-c) (by omega) (by omega) hd1)
   ·refine aF.c8 ?_ (fun n=>rfl);simp[aX,aY];omega
 have hc:decide (((a+i:Nat):Int)<((a+j:Nat):Int))=false:=by simp;omega
 have he:j=i:=by omega
 subst he;have hcr:rX el l r k j:=hcrF _ fx g2 g3 g4;refine J.seq (J.seq ?_);refine .bu (by decide +kernel) fun K hK =>?_;simp only[G5,ab,Nat.reduceEqDiff,reduceIte]
 try simp only[hc]
 refine .done (hK _ ?_);clear hK K;try simp only[ar]
 refine J.bH ?_;simp only[aq,ab,Nat.reduceEqDiff,reduceIte];refine ⟨fun h =>?_,fun h =>?_⟩
 ·cases h
 refine J.exit ?_;try simp only[ar,bL,reduceIte]
 have w10:=iM (x:=a+k+m) (y:=a+j) (by omega) (by omega);have e2:a+k+m-(a+j)=m+(k-j):=by omega
 refine .ao (by decide +kernel) fun K hK =>?_;simp only[G6,ab,Nat.reduceEqDiff,reduceIte]
 try simp only[w10,e2]
 refine .done (hK _ ?_);clear hK K
 -- the four parts
 have hl12:l.take j++l.drop j=l:=zx2 _ _;have hr12:r.take (k-j)++r.drop (k-j)=r:=zx2 _ _;obtain ⟨l1,hl1e⟩:∃ l1,l1=l.take j:=⟨_,rfl⟩
 obtain ⟨l2,hl2e⟩:∃ l2,l2=l.drop j:=⟨_,rfl⟩
 obtain ⟨r1,hr1e⟩:∃ r1,r1=r.take (k-j):=⟨_,rfl⟩
 obtain ⟨dL,hr2e⟩:∃ dL,dL=r.drop (k-j):=⟨_,rfl⟩
 have ll1:l1.length=j:=by rw[hl1e,zx3];omega
 have ll2:l2.length=l.length-j:=by rw[hl2e,zx0]
 have lr1:r1.length=k-j:=by rw[hr1e,zx3];omega
 have lr2:dL.length=r.length-(k-j):=by rw[hr2e,zx0]
 have sl1:du el l1:=hl1e▸NX hsl _;have sl2:du el l2:=hl2e▸NW hsl _;have sr1:du el r1:=hr1e▸NX hsr _;have sr2:du el dL:=hr2e▸NW hsr _;have ml1:∀ x∈l1,x∈l:=fun x hx=>List.mem_of_mem_take (hl1e▸hx);have ml2:∀ x∈l2,x∈l:=fun x hx=>List.mem_of_mem_drop (hl2e▸hx);have mr1:∀ x∈r1,x∈r:=fun x hx=>List.mem_of_mem_take (hr1e▸hx);have mr2:∀ x∈dL,x∈r:=fun x hx=>List.mem_of_mem_drop (hr2e▸hx);rw[←hl1e,←hl2e] at hl12;rw[←hr1e,←hr2e] at hr12;have hws4:ws=(p++l1)++l2++r1++(dL++q):=by rw[hws,←hl12,←hr12];simp only[zz3]
 have e3:((a+j:Nat):Int)<m↔j<l.length:=by omega
 -- the parts change places
 refine J.seq (J.y9 (au [(0,.view 1000000 [] 1 0 n),(1,.int .i64 a),(3,.int .i64 b),(4,.func 138 [.ref (enc el)]),(18,.int .i64 ((a+k:Nat):Int)),(20,.int .i64 ((a+j:Nat):Int)),(24,.int .i64 ((m+(k-j):Nat):Int))] (cA 1000000 (p++l1++r1++(l2++dL++q)))) ?_ fun B hB=>J.sub hB ?_)
 ·by_cases h1:j<l.length
  ·have hc1:decide (((a+j:Nat):Int)<(m:Int))=true:=by simp;omega
   by_cases h2:j<k
   ·have hc2:decide ((m:Int)<((m+(k-j):Nat):Int))=true:=by simp;omega
    have hrot:=Py (p++l1) l2 r1 (dL++q) (a+j) m (m+(k-j)) n 138 [.ref (enc el)] (by simp[I.bW,I.bn,eb]) (by rw[zz5];omega) (by omega) (by omega) (by omega) (by omega) (by omega) hn1;rw[←hws4] at hrot;have R:=v6 @hc1 (v6 @hc2 (v6 @aZ @ab))
    repeat' ((first |(with_reducible refine .guard (fun hb =>?_) (fun hb =>?_) <;>try simp only[hb])|refine J.aT (by decide +kernel) rfl fun K hK =>?_|(refine .aH [0,1,2,3,4,10,11,12,13,14,15,16,17,18,19,20,21,22,23,24,28,33,50,58,80,85,103,110,140,151,171,185,199,213] hK ?_;clear hK K)|(with_reducible refine .done (hK _ ?_);clear hK K)|refine J.of rfl ?_|(with_reducible refine aq.aQ (fun h =>?_) (fun h =>?_) <;>try simp only[h])) <;>try simp only[aU,R,Nat.reduceEqDiff,reduceIte,Nat.reduceBEq])
    all_goals clear R
    refine bj.kY hrot (kH _ n 138 [.ref (enc el)] (by simp[I.bW,I.bn,eb]) [_,_,_]) ?_;rintro fe os' ⟨rfl,rfl⟩;refine ⟨_,rfl,rfl,?_⟩
    try simp only[ab]
    refine .done (hK _ ?_);clear hK K;have e5:p++l1++r1++l2++(dL++q)=p++l1++r1++(l2++dL++q):=by simp only[zz3]
    rw[e5];refine aF.c8 ?_ (fun n=>rfl);simp[aX,aY]
   ·have hc2:decide ((m:Int)<((m+(k-j):Nat):Int))=false:=by simp;omega
    have hn0:r1=[]:=zv2.1 (by omega);have e5:ws=p++l1++r1++(l2++dL++q):=by rw[hws4,hn0];simp only[zz3,zx8]
    rw[e5];have R:=v6 @hc1 (v6 @hc2 (v6 @aZ @ab))
    repeat' ((first |(with_reducible refine .guard (fun hb =>?_) (fun hb =>?_) <;>try simp only[hb])|refine J.aT (by decide +kernel) rfl fun K hK =>?_|(refine .aH [0,1,2,3,4,10,11,12,13,14,15,16,17,18,19,20,21,22,23,24,28,33,50,58,80,85,103,110,140,151,171,185,199,213] hK ?_;clear hK K)|(with_reducible refine .done (hK _ ?_);clear hK K)|refine J.of rfl ?_|(with_reducible refine aq.aQ (fun h =>?_) (fun h =>?_) <;>try simp only[h])) <;>try simp only[aU,R,Nat.reduceEqDiff,reduceIte,Nat.reduceBEq])
    all_goals clear R
    refine aF.c8 ?_ (fun n=>rfl);simp[aX,aY]
  ·have hc1:decide (((a+j:Nat):Int)<(m:Int))=false:=by simp;omega
   have hn0:l2=[]:=zv2.1 (by omega);have e5:ws=p++l1++r1++(l2++dL++q):=by rw[hws4,hn0];simp only[zz3,zx8,zy6]
   rw[e5];have R:=v6 @hc1 (v6 @aZ @ab)
   repeat' ((first |(with_reducible refine .guard (fun hb =>?_) (fun hb =>?_) <;>try simp only[hb])|refine J.aT (by decide +kernel) rfl fun K hK =>?_|(refine .aH [0,1,2,3,4,10,11,12,13,14,15,16,17,18,19,20,21,22,23,24,28,33,50,58,80,85,103,110,140,151,171,185,199,213] hK ?_;clear hK K)|(with_reducible refine .done (hK _ ?_);clear hK K)|refine J.of rfl ?_|(with_reducible refine aq.aQ (fun h =>?_) (fun h =>?_) <;>try simp only[h])) <;>try simp only[aU,R,Nat.reduceEqDiff,reduceIte,Nat.reduceBEq])
   all_goals clear R
   refine aF.c8 ?_ (fun n=>rfl);simp[aX,aY]
 -- the lower half
 refine J.seq (J.akB (fun s1:List Int=>au [(0,.view 1000000 [] 1 0 n),(3,.int .i64 b),(4,.func 138 [.ref (enc el)]),(18,.int .i64 ((a+k:Nat):Int)),(24,.int .i64 ((m+(k-j):Nat):Int))] (cA 1000000 (p++s1++l2++dL++q))) (fun s1=>s1.Perm (l1++r1)∧du el s1) ?_ fun s1 B hC hB=>J.sub hB ?_)
 ·by_cases h1:0<j
  ·have hc1:decide ((a:Int)<((a+j:Nat):Int))=true:=by simp;omega
   by_cases h2:j<k
   ·have hc2:decide (((a+j:Nat):Int)<((a+k:Nat):Int))=true:=by simp;omega
    have hrec:=ih p l1 r1 (l2++dL++q) a (a+j) (a+k) n (by omega) (by omega) (by omega) ha (by omega) (by omega) (by omega) (by simp only[zz5];omega) hn1 sl1 sr1 (fun x hx y hy=>hlr x (ml1 x hx) y (mr1 y hy)) (fun x hx=>hin x (by
     rcases zy1.1 hx with h | h
     ·exact zy1.2 (.inl (ml1 x h))
     ·exact zy1.2 (.inr (mr1 x h))))
    have R:=v6 @hc1 (v6 @hc2 (v6 @aZ @ab))
    repeat' ((first |(with_reducible refine .guard (fun hb =>?_) (fun hb =>?_) <;>try simp only[hb])|refine J.aT (by decide +kernel) rfl fun K hK =>?_|(refine .aH [0,1,2,3,4,10,11,12,13,14,15,16,17,18,19,20,21,22,23,24,28,33,50,58,80,85,103,110,140,151,171,185,199,213] hK ?_;clear hK K)|(with_reducible refine .done (hK _ ?_);clear hK K)|refine J.of rfl ?_|(with_reducible refine aq.aQ (fun h =>?_) (fun h =>?_) <;>try simp only[h])) <;>try simp only[aU,R,Nat.reduceEqDiff,reduceIte,Nat.reduceBEq])
    all_goals clear R
    refine bj.kY hrec (kH _ n 138 [.ref (enc el)] (by simp[I.bW,I.bn,eb]) [_,_,_]) ?_;rintro fe os' ⟨rfl,s1,k1,k2,rfl⟩;refine ⟨_,rfl,rfl,?_⟩
    try simp only[ab]
    refine .done (hK _ ?_);clear hK K;refine ⟨s1,⟨k1,k2⟩,?_⟩;have e5:p++s1++(l2++dL++q)=p++s1++l2++dL++q:=by simp only[zz3]
    rw[e5];refine aF.c8 ?_ (fun n=>rfl);simp[aX,aY]
   ·have hc2:decide (((a+j:Nat):Int)<((a+k:Nat):Int))=false:=by simp;omega
    have hn0:r1=[]:=zv2.1 (by omega);have R:=v6 @hc1 (v6 @hc2 (v6 @aZ @ab))
    repeat' ((first |(with_reducible refine .guard (fun hb =>?_) (fun hb =>?_) <;>try simp only[hb])|refine J.aT (by decide +kernel) rfl fun K hK =>?_|(refine .aH [0,1,2,3,4,10,11,12,13,14,15,16,17,18,19,20,21,22,23,24,28,33,50,58,80,85,103,110,140,151,171,185,199,213] hK ?_;clear hK K)|(with_reducible refine .done (hK _ ?_);clear hK K)|refine J.of rfl ?_|(with_reducible refine aq.aQ (fun h =>?_) (fun h =>?_) <;>try simp only[h])) <;>try simp only[aU,R,Nat.reduceEqDiff,reduceIte,Nat.reduceBEq])
    all_goals clear R
    refine ⟨l1++r1,⟨.refl _,by rw[hn0,zx8];exact sl1⟩,?_⟩;have e5:p++l1++r1++(l2++dL++q)=p++(l1++r1)++l2++dL++q:=by simp only[zz3]
    rw[e5];refine aF.c8 ?_ (fun n=>rfl);simp[aX,aY]
  ·have hc1:decide ((a:Int)<((a+j:Nat):Int))=false:=by simp;omega
   have hn0:l1=[]:=zv2.1 (by omega);have R:=v6 @hc1 (v6 @aZ @ab)
   repeat' ((first |(with_reducible refine .guard (fun hb =>?_) (fun hb =>?_) <;>try simp only[hb])|refine J.aT (by decide +kernel) rfl fun K hK =>?_|(refine .aH [0,1,2,3,4,10,11,12,13,14,15,16,17,18,19,20,21,22,23,24,28,33,50,58,80,85,103,110,140,151,171,185,199,213] hK ?_;clear hK K)|(with_reducible refine .done (hK _ ?_);clear hK K)|refine J.of rfl ?_|(with_reducible refine aq.aQ (fun h =>?_) (fun h =>?_) <;>try simp only[h])) <;>try simp only[aU,R,Nat.reduceEqDiff,reduceIte,Nat.reduceBEq])
   all_goals clear R
   refine ⟨l1++r1,⟨.refl _,by rw[hn0,zy6];exact sr1⟩,?_⟩;have e5:p++l1++r1++(l2++dL++q)=p++(l1++r1)++l2++dL++q:=by simp only[zz3]
   rw[e5];refine aF.c8 ?_ (fun n=>rfl);simp[aX,aY]
 -- the upper half
 obtain ⟨k1,k2⟩:=hC;have ls1:s1.length=k:=by rw[k1.length_eq,zz5];omega
 have done:∀ s2,s2.Perm (l2++dL)→du el s2→∀ ts ws',ws'=p++s1++s2++q→kF [] (mY el p (l++r) q) (au ts (cA 1000000 ws')):=fun s2 k3 k4 ts ws' he=>by
  obtain ⟨j1,j2⟩:=aj1 hcr (hl1e▸hr1e▸k1) (hl2e▸hr2e▸k3) k2 k4;exact nJ rfl (he.trans (by simp only[zz3])) ⟨rfl,s1++s2,j1,j2,rfl⟩
 by_cases h1:j<l.length
 ·have hc1:decide (((a+k:Nat):Int)<((m+(k-j):Nat):Int))=true:=by simp;omega
  by_cases h2:k-j<r.length
  ·have hc2:decide (((m+(k-j):Nat):Int)<(b:Int))=true:=by simp;omega
   have hrec:=ih (p++s1) l2 dL q (a+k) (m+(k-j)) b n (by omega) (by omega) (by omega) (by rw[zz5];omega) (by omega) (by omega) hn (by simp only[zz5];omega) hn1 sl2 sr2 (fun x hx y hy=>hlr x (ml2 x hx) y (mr2 y hy)) (fun x hx=>hin x (by
    rcases zy1.1 hx with h | h
    ·exact zy1.2 (.inl (ml2 x h))
    ·exact zy1.2 (.inr (mr2 x h))))
   have R:=v6 @hc1 (v6 @hc2 (v6 @aZ @ab))
   repeat' ((first |(with_reducible refine .guard (fun hb =>?_) (fun hb =>?_) <;>try simp only[hb])|refine J.aT (by decide +kernel) rfl fun K hK =>?_|(refine .aH [0,1,2,3,4,10,11,12,13,14,15,16,17,18,19,20,21,22,23,24,28,33,50,58,80,85,103,110,140,151,171,185,199,213] hK ?_;clear hK K)|(with_reducible refine .done (hK _ ?_);clear hK K)|refine J.of rfl ?_|(with_reducible refine aq.aQ (fun h =>?_) (fun h =>?_) <;>try simp only[h])) <;>try simp only[aU,R,Nat.reduceEqDiff,reduceIte,Nat.reduceBEq])
   all_goals clear R
   refine bj.kY hrec (kH _ n 138 [.ref (enc el)] (by simp[I.bW,I.bn,eb]) [_,_,_]) ?_;rintro fe os' ⟨rfl,s2,k3,k4,rfl⟩;refine ⟨_,rfl,rfl,?_⟩
   try simp only[ab]
   refine .done (hK _ ?_);clear hK K;rw[kW];exact done s2 k3 k4 _ _ rfl
  ·have hc2:decide (((m+(k-j):Nat):Int)<(b:Int))=false:=by simp;omega
   have hn0:dL=[]:=zv2.1 (by omega);have R:=v6 @hc1 (v6 @hc2 (v6 @aZ @ab))
   repeat' ((first |(with_reducible refine .guard (fun hb =>?_) (fun hb =>?_) <;>try simp only[hb])|refine J.aT (by decide +kernel) rfl fun K hK =>?_|(refine .aH [0,1,2,3,4,10,11,12,13,14,15,16,17,18,19,20,21,22,23,24,28,33,50,58,80,85,103,110,140,151,171,185,199,213] hK ?_;clear hK K)|(with_reducible refine .done (hK _ ?_);clear hK K)|refine J.of rfl ?_|(with_reducible refine aq.aQ (fun h =>?_) (fun h =>?_) <;>try simp only[h])) <;>try simp only[aU,R,Nat.reduceEqDiff,reduceIte,Nat.reduceBEq])
   all_goals clear R
   rw[kW];exact done (l2++dL) (.refl _) (by rw[hn0,zx8];exact sl2) _ (p++s1++l2++dL++q) (by simp only[zz3])
 ·have hc1:decide (((a+k:Nat):Int)<((m+(k-j):Nat):Int))=false:=by simp;omega
  have hn0:l2=[]:=zv2.1 (by omega);have R:=v6 @hc1 (v6 @aZ @ab)
  repeat' ((first |(with_reducible refine .guard (fun hb =>?_) (fun hb =>?_) <;>try simp only[hb])|refine J.aT (by decide +kernel) rfl fun K hK =>?_|(refine .aH [0,1,2,3,4,10,11,12,13,14,15,16,17,18,19,20,21,22,23,24,28,33,50,58,80,85,103,110,140,151,171,185,199,213] hK ?_;clear hK K)|(with_reducible refine .done (hK _ ?_);clear hK K)|refine J.of rfl ?_|(with_reducible refine aq.aQ (fun h =>?_) (fun h =>?_) <;>try simp only[h])) <;>try simp only[aU,R,Nat.reduceEqDiff,reduceIte,Nat.reduceBEq])
  all_goals clear R
  rw[kW];exact done (l2++dL) (.refl _) (by rw[hn0,zy6];exact sr2) _ (p++s1++l2++dL++q) (by simp only[zz3])
theorem zy(el:List av)(hd:mj el)(hel:el.length≤60):∀ (N:Nat) (p l r q:List Int) (a m b n:Nat),l.length+r.length≤N→0<l.length→0<r.length→p.length=a→a+l.length=m→m+r.length=b→b≤n→n≤(p++l++r++q).length→n≤1000→du el l→du el r→(∀ x∈l,∀ y∈r,x<y)→(∀ x∈l++r,jw el x) →
  cD Tryz.prog 204 [.view 1000000 [] 1 0 n,enc (a:Int),enc (m:Int),enc (b:Int),.func 138 [.ref (enc el)]] (cA 1000000 (p++l++r++q)) (mY el p (l++r) q):=by
 intro N
 induction N with
 |zero=>intro p l r q a m b n h1 h2;omega
 |succ N ih =>
  intro p l r q a m b n hN hl0 hr0 ha hm hb hn hnl hn1 hsl hsr hlr hin;by_cases hl1:l.length=1
  ·exact Ps el hd hel p l r q a m b n hl0 hr0 ha hm hb hn hnl hn1 hsl hsr hlr hin hl1
  by_cases hr1:r.length=1
  ·exact Pt el hd hel p l r q a m b n hl0 hr0 ha hm hb hn hnl hn1 hsl hsr hlr hin hl1 hr1
  ·exact Pu el hd hel N ih p l r q a m b n hl0 hr0 ha hm hb hn hnl hn1 hsl hsr hlr hin hN hl1 hr1
def dF(ws:List Int)(bs t:Nat):List Int:=(ws.drop (t*bs)).take bs
theorem Cs(ws:List Int)(bs u:Nat):dF ws (2*bs) u=dF ws bs (2*u)++dF ws bs (2*u+1):=by
 simp only[dF];rw[show 2*bs=bs+bs by omega,List.take_add,List.drop_drop];have e1:u*(bs+bs)=2*u*bs:=by rw[Nat.mul_add,show 2*u=u+u by omega,zu0]
 have e2:2*u*bs+bs=(2*u+1)*bs:=by rw[zu0];omega
 rw[e1,e2]
def ma(el:List av)(bs:Nat)(o d:List Int):Prop:=o.length=d.length∧∀ t,(dF d bs t).Perm (dF o bs t)∧du el (dF d bs t)
theorem zQ(el:List av)(bs:Nat):ma el bs [] []:=⟨rfl,fun t=>by simp[dF,du]⟩
theorem Cr{o b:List Int}{bs t t':Nat}(ho:o.length=t*bs)(hb:b.length≤bs):dF (o++b) bs t'=if t'<t then dF o bs t' else if t'=t then b else []:=by
 simp only[dF];by_cases h1:t'<t
 ·rw[if_pos h1];have h2:(t'+1)*bs≤t*bs:=Nat.mul_le_mul_right _ h1;rw[zu0,Nat.one_mul] at h2;rw[List.drop_append_of_le_length (by omega),zw6 (by rw[zx0];omega)]
 ·rw[if_neg h1];by_cases h2:t'=t
  ·subst h2;rw[if_pos rfl,←ho,List.drop_left,zv5 hb]
  ·rw[if_neg h2];have h3:(t+1)*bs≤t'*bs:=Nat.mul_le_mul_right _ (by omega);rw[zu0,Nat.one_mul] at h3;rw[zv0 (by rw[zz5];omega)];exact List.take_nil
theorem sa{el:List av}{bs t:Nat}{o d b b':List Int}(h:ma el bs o d)(ho:o.length=t*bs)(hp:b'.Perm b)(hs:du el b')(hl:b.length≤bs):ma el bs (o++b) (d++b'):=by
 refine ⟨by rw[zz5,zz5,h.1,hp.length_eq],fun t' =>?_⟩;rw[Cr (by rw[←h.1];exact ho) (by rw[hp.length_eq];exact hl),Cr ho hl];split
 ·exact h.2 t'
 ·split
  ·exact ⟨hp,hs⟩
  ·exact ⟨.refl _,List.Pairwise.nil⟩
theorem PX{el:List av}{bs:Nat}{o d:List Int}(h:ma el bs o d)(hn:o.length≤bs):d.Perm o∧du el d:=by
 have:=h.2 0;simp only[dF,Nat.zero_mul,List.drop_zero] at this;rw[zv5 (by rw[←h.1];exact hn),zv5 hn] at this;exact this
theorem UK{xs:List Int}(hx:xs.Pairwise (· < ·))(bs u:Nat):∀ x∈dF xs bs (2*u),∀ y∈dF xs bs (2*u+1),x<y:=by
 have h:(dF xs (2*bs) u).Pairwise (· < ·):=(hx.sublist (List.drop_sublist _ _)).sublist (List.take_sublist _ _);rw[Cs,List.pairwise_append] at h;exact h.2.2
theorem vj{xs:List Int}{bs t:Nat}{x:Int}(h:x∈dF xs bs t):x∈xs:=List.mem_of_mem_drop (List.mem_of_mem_take h)
theorem Oi(xs:List Int)(bs t:Nat):xs.take ((t+1)*bs)=xs.take (t*bs)++dF xs bs t:=by
 rw[zu0,Nat.one_mul,List.take_add];rfl
theorem qH(xs:List Int)(bs t:Nat):xs.drop (t*bs)=dF xs bs t++xs.drop ((t+1)*bs):=by
 simp only[dF];rw[zu0,Nat.one_mul,←List.drop_drop,zx2]
theorem qG{xs:List Int}{bs t:Nat}(h:(t+1)*bs≤xs.length):(dF xs bs t).length=bs:=by
 rw[zu0,Nat.one_mul] at h;simp only[dF,zx3,zx0];omega
theorem akI{x:Nat}(h:x<1000000):IntKind.i64.wrap (2*(x:Int))=((2*x:Nat):Int):=by rw[cE _ (by omega) (by omega)];omega
theorem akJ{x:Nat}(h:x<1000000):IntKind.i64.wrap ((x:Int)*2)=((2*x:Nat):Int):=by rw[cE _ (by omega) (by omega)];omega
theorem JQ{i n:Nat}(h:i≤n):decide ((i:Int)≤(n:Int))=true:=by simp;omega
theorem Kq{i n:Nat}(h:¬ i≤n):decide ((i:Int)≤(n:Int))=false:=by simp;omega
structure PZ where
 bs:Nat
 d:List Int
theorem Pb(el:List av)(hd:mj el)(hel:el.length≤60)(xs q:List Int)(hx:xs.Pairwise (· < ·))(hS:∀ x∈xs,jw el x)(hn:xs.length≤60) :
  cD Tryz.prog 171 [.view 1000000 [] 1 0 xs.length,enc (xs.length:Int),.func 138 [.ref (enc el)]] (cA 1000000 (xs++q)) (mY el [] xs q):=by
 refine cD.bA Tryz.func171 Cf Cn Cz (t7 rfl) (t7 rfl) nM (fun hwf W0 D0 E1 =>?_);simp only[u4,yp,bp,zz4,Nat.reduceAdd];clear hwf;have hcl:I.bW [.ref (enc el)]=true:=by simp[I.bW,I.bn,eb]
 refine .ao (by decide +kernel) fun K hK =>?_;simp only[wq,ab,simprocAttr];refine .done (hK _ ?_);clear hK K;refine .ao (by decide +kernel) fun K hK =>?_;simp only[wu,ab,simprocAttr];refine .done (hK _ ?_);clear hK K
 -- blocks of twenty
 refine J.seq (J.block (J.loop (fun s:Nat×List Int=>au [(0,.view 1000000 [] 1 0 xs.length),(1,.int .i64 xs.length),(2,.func 138 [.ref (enc el)]),(6,.int .i64 20),(7,.int .i64 ((s.1*20:Nat):Int)),(8,.int .i64 (((s.1+1)*20:Nat):Int))] (cA 1000000 (s.2++xs.drop (s.1*20)++q)))
  (fun s=>s.1*20≤xs.length∧ma el 20 (xs.take (s.1*20)) s.2) (fun s=>xs.length-s.1*20) (0,[]) ⟨zw7 _,zQ el 20⟩ ?_ ?_))
 ·refine aF.c8 ?_ (fun n=>rfl);simp[aX,aY]
 rintro ⟨t,d⟩ ⟨g1,g2⟩;simp only at g1 g2 ⊢;have ht:(xs.take (t*20)).length=t*20:=by rw[zx3];omega
 have hdl:d.length=t*20:=by rw[←g2.1,ht]
 by_cases hb:(t+1)*20≤xs.length
 ·have hc:=JQ hb;have w1:IntKind.i64.wrap ((((t+1)*20:Nat):Int)+20)=(((t+1+1)*20:Nat):Int):=by rw[cE _ (by omega) (by omega)];omega
  have hcl2:=qG hb;have hins:=zx el hd hel d (dF xs 20 t) (xs.drop ((t+1)*20)++q) (t*20) ((t+1)*20) xs.length hdl (by omega) hb (by simp only[zz5,zx0];omega) (by omega) ((hx.sublist (List.drop_sublist _ _)).sublist (List.take_sublist _ _)) (fun x hx=>hS x (vj hx));have e1:d++dF xs 20 t++(xs.drop ((t+1)*20)++q)=d++xs.drop (t*20)++q:=by rw[qH xs 20 t];simp only[zz3]
  rw[e1] at hins;have R:=v6 @hc (v6 @aZ @ab)
  repeat' ((first |(with_reducible refine .guard (fun hb =>?_) (fun hb =>?_) <;>try simp only[hb])|refine J.aT (by decide +kernel) rfl fun K hK =>?_|(refine .aH [0,1,2,6,7,8,9,13,30,35,54] hK ?_;clear hK K)|(with_reducible refine .done (hK _ ?_);clear hK K)|refine J.of rfl ?_|(with_reducible refine aq.aQ (fun h =>?_) (fun h =>?_) <;>try simp only[h])) <;>try simp only[aU,R,simprocAttr])
  all_goals clear R
  refine bj.kY hins (kH _ xs.length 138 [.ref (enc el)] hcl [_,_]) ?_;rintro fe os' ⟨rfl,s',k1,k2,rfl⟩;refine ⟨_,rfl,rfl,?_⟩
  try simp only[ab,simprocAttr]
  refine .done (hK _ ?_);clear hK K;have R:=v6 @w1 (v6 @aZ @ab)
  repeat' ((first |(with_reducible refine .guard (fun hb =>?_) (fun hb =>?_) <;>try simp only[hb])|refine J.aT (by decide +kernel) rfl fun K hK =>?_|(refine .aH [0,1,2,6,7,8,9,13,30,35,54] hK ?_;clear hK K)|(with_reducible refine .done (hK _ ?_);clear hK K)|refine J.of rfl ?_|(with_reducible refine aq.aQ (fun h =>?_) (fun h =>?_) <;>try simp only[h])) <;>try simp only[aU,R,simprocAttr])
  all_goals clear R
  refine ⟨(t+1,d++s'),⟨hb,?_⟩,by simp only;omega,?_⟩
  ·simp only;rw[Oi];exact sa g2 ht k1 k2 (by omega)
  ·simp only[←zz3];refine aF.c8 ?_ (fun n=>rfl);simp[aX,aY]
 have hc:=Kq hb;refine J.seq (J.seq ?_);refine .bu (by decide +kernel) fun K hK =>?_;simp only[F4,ab,simprocAttr]
 try simp only[hc,simprocAttr]
 refine .done (hK _ ?_);clear hK K;try simp only[ar]
 refine J.bH ?_;simp only[aq,ab,simprocAttr];refine ⟨fun h =>?_,fun h =>?_⟩
 ·cases h
 refine J.exit ?_;try simp only[ar,bL,simprocAttr]
 -- what is left
 have hins:=zx el hd hel d (xs.drop (t*20)) q (t*20) xs.length xs.length hdl (by rw[zx0];omega) (zz7 _) (by simp only[zz5,zx0];omega) (by omega) (hx.sublist (List.drop_sublist _ _)) (fun x hx=>hS x (List.mem_of_mem_drop hx));refine .ao (by decide +kernel) fun K hK =>?_;simp only[F5,ab,simprocAttr];refine bj.kY hins (kH _ xs.length 138 [.ref (enc el)] hcl [_,_]) ?_;rintro fe os' ⟨rfl,s',k1,k2,rfl⟩;refine ⟨_,rfl,rfl,?_⟩
 try simp only[ab,simprocAttr]
 refine .done (hK _ ?_);clear hK K;have hSB:ma el 20 xs (d++s'):=by
  have:=sa g2 ht k1 k2 (by rw[zx0];omega)
  rwa [zx2] at this
 clear k1 k2 hins g2 ht hdl hb hc g1;generalize d++s'=d0 at hSB ⊢
 -- blocks are merged
 refine J.block (J.loop (fun s:PZ=>au [(0,.view 1000000 [] 1 0 xs.length),(1,.int .i64 xs.length),(2,.func 138 [.ref (enc el)]),(6,.int .i64 s.bs)] (cA 1000000 (s.d++q))) (fun s=>20≤s.bs∧s.bs≤120∧ma el s.bs xs s.d) (fun s=>200-s.bs) ⟨20,d0⟩ ⟨zz7 _,(by show 20≤120;omega),hSB⟩ ?_ ?_)
 ·refine aF.c8 ?_ (fun n=>rfl);simp[aX,aY]
 rintro ⟨bs,d1⟩ ⟨g1,g2,g3⟩;simp only at g1 g2 g3 ⊢;have hdl:=g3.1;by_cases hb:bs<xs.length
 case neg =>
  have hc:=iW hb;refine J.seq (J.seq ?_);refine .bu (by decide +kernel) fun K hK =>?_;simp only[wv,ab,simprocAttr]
  try simp only[hc,simprocAttr]
  refine .done (hK _ ?_);clear hK K;try simp only[ar]
  refine J.bH ?_;simp only[aq,ab,simprocAttr];refine ⟨fun h =>?_,fun h =>?_⟩
  ·cases h
  refine J.exit ?_;try simp only[ar,bL,simprocAttr]
  rw[kW];obtain ⟨k1,k2⟩:=PX g3 (by omega);exact nJ rfl rfl ⟨rfl,d1,k1,k2,rfl⟩
 have hc:=ic hb;have w1:=akI (x:=bs) (by omega);refine J.seq (J.seq ?_);refine .bu (by decide +kernel) fun K hK =>?_;simp only[wv,ab,simprocAttr]
 try simp only[hc,simprocAttr]
 refine .done (hK _ ?_);clear hK K;try simp only[ar]
 refine J.bH ?_;simp only[aq,ab,simprocAttr];refine ⟨fun h =>?_,fun h =>?_⟩
 rotate_left
 ·cases h
 refine J.skip ?_;try simp only[ar,simprocAttr]
 refine J.block (J.seq ?_);refine .bu (by decide +kernel) fun K hK =>?_;simp only[F6,ab,simprocAttr]
 try simp only[w1,simprocAttr]
 refine .done (hK _ ?_);clear hK K;try simp only[ar]
 refine J.seq (J.block (J.loop (fun s:Nat×List Int=>au [(0,.view 1000000 [] 1 0 xs.length),(1,.int .i64 xs.length),(2,.func 138 [.ref (enc el)]),(6,.int .i64 bs),(7,.int .i64 ((s.1*(2*bs):Nat):Int)),(8,.int .i64 (((s.1+1)*(2*bs):Nat):Int))] (cA 1000000 (s.2++d1.drop (s.1*(2*bs))++q)))
  (fun s=>s.1*(2*bs)≤xs.length∧ma el (2*bs) (xs.take (s.1*(2*bs))) s.2) (fun s=>xs.length-s.1*(2*bs)) (0,[]) ⟨by simp,by simp only[Nat.zero_mul,List.take_zero];exact zQ el _⟩ ?_ ?_))
 ·simp only[Nat.zero_mul,zz4,Nat.one_mul,List.drop_zero,zy6];refine aF.c8 ?_ (fun n=>rfl);simp[aX,aY]
 rintro ⟨u,e⟩ ⟨q1,q2⟩;simp only at q1 q2 ⊢;obtain ⟨A,hA⟩:∃ A,A=u*(2*bs):=⟨_,rfl⟩
 have hA1:(u+1)*(2*bs)=A+2*bs:=by rw[hA,zu0];omega
 have hA2:2*u*bs=A:=by rw[hA,Nat.mul_comm 2 u,Nat.mul_assoc]
 have hA3:(2*u+1)*bs=A+bs:=by rw[zu0,hA2];omega
 have hA4:(2*u+1+1)*bs=A+2*bs:=by rw[zu0,hA3];omega
 have ht:(xs.take A).length=A:=by rw[zx3,hA];omega
 have hel2:e.length=A:=by rw[←q2.1,←hA,ht]
 obtain ⟨kl1,kl2⟩:=g3.2 (2*u);obtain ⟨kr1,kr2⟩:=g3.2 (2*u+1);have hlt2:=UK hx bs u;have hd2:d1.drop A=dF d1 bs (2*u)++d1.drop (A+bs):=by
  have:=qH d1 bs (2*u)
  rwa [hA2,hA3] at this
 have hd3:d1.drop (A+bs)=dF d1 bs (2*u+1)++d1.drop (A+2*bs):=by
  have:=qH d1 bs (2*u+1)
  rwa [hA3,hA4] at this
 have hlr:∀ x∈dF d1 bs (2*u),∀ y∈dF d1 bs (2*u+1),x<y:=fun x h1 y h2=>hlt2 x (kl1.mem_iff.1 h1) y (kr1.mem_iff.1 h2);have hin:∀ x∈dF d1 bs (2*u)++dF d1 bs (2*u+1),jw el x:=fun x h1=>by
  rcases zy1.1 h1 with h1 | h1
  ·exact hS x (vj (kl1.mem_iff.1 h1))
  ·exact hS x (vj (kr1.mem_iff.1 h1))
 rw[hA1];rw[←hA] at q1 q2 ⊢;by_cases hb2:A+2*bs≤xs.length
 ·have hc2:=JQ hb2;have w2:=kB A bs (by omega);have w3:IntKind.i64.wrap (((A+2*bs:Nat):Int)+((2*bs:Nat):Int))=((A+2*bs+2*bs:Nat):Int):=kB _ _ (by omega);have ll:(dF d1 bs (2*u)).length=bs:=qG (by rw[hA3];omega);have lr:(dF d1 bs (2*u+1)).length=bs:=qG (by rw[hA4];omega);have hm:=zy el hd hel _ e (dF d1 bs (2*u)) (dF d1 bs (2*u+1)) (d1.drop (A+2*bs)++q) A (A+bs) (A+2*bs) xs.length (zz7 _) (by omega) (by omega) hel2 (by omega) (by omega) hb2 (by simp only[zz5,zx0];omega) (by omega) kl2 kr2 hlr hin;have e1:e++dF d1 bs (2*u)++dF d1 bs (2*u+1)++(d1.drop (A+2*bs)++q)=e++d1.drop A++q:=by rw[hd2,hd3];simp only[zz3]
  rw[e1] at hm;have R:=v6 @hc2 (v6 @w2 (v6 @aZ @ab))
  repeat' ((first |(with_reducible refine .guard (fun hb =>?_) (fun hb =>?_) <;>try simp only[hb])|refine J.aT (by decide +kernel) rfl fun K hK =>?_|(refine .aH [0,1,2,6,7,8,9,13,30,35,54] hK ?_;clear hK K)|(with_reducible refine .done (hK _ ?_);clear hK K)|refine J.of rfl ?_|(with_reducible refine aq.aQ (fun h =>?_) (fun h =>?_) <;>try simp only[h])) <;>try simp only[aU,R,simprocAttr])
  all_goals clear R
  refine bj.kY hm (kH _ xs.length 138 [.ref (enc el)] hcl [_,_,_]) ?_;rintro fe os' ⟨rfl,s',k1,k2,rfl⟩;refine ⟨_,rfl,rfl,?_⟩
  try simp only[ab,simprocAttr]
  refine .done (hK _ ?_);clear hK K;try simp only[ar]
  have R:=v6 @w1 (v6 @w3 (v6 @aZ @ab))
  repeat' ((first |(with_reducible refine .guard (fun hb =>?_) (fun hb =>?_) <;>try simp only[hb])|refine J.aT (by decide +kernel) rfl fun K hK =>?_|(refine .aH [0,1,2,6,7,8,9,13,30,35,54] hK ?_;clear hK K)|(with_reducible refine .done (hK _ ?_);clear hK K)|refine J.of rfl ?_|(with_reducible refine aq.aQ (fun h =>?_) (fun h =>?_) <;>try simp only[h])) <;>try simp only[aU,R,simprocAttr])
  all_goals clear R
  refine ⟨(u+1,e++s'),⟨by simp only;omega,?_⟩,by simp only;omega,?_⟩
  ·simp only;rw[Oi,←hA];refine sa q2 (ht.trans hA) (k1.trans ?_) k2 (by rw[qG (by omega)];omega);rw[Cs];exact kl1.append kr1
  ·have e2:(u+1+1)*(2*bs)=A+2*bs+2*bs:=by rw[zu0,hA1];omega
   simp only[hA1,e2,←zz3];refine aF.c8 ?_ (fun n=>rfl);simp[aX,aY]
 have hc2:=Kq hb2;refine J.seq (J.seq ?_);refine .bu (by decide +kernel) fun K hK =>?_;simp only[F7,ab,simprocAttr]
 try simp only[hc2,simprocAttr]
 refine .done (hK _ ?_);clear hK K;try simp only[ar]
 refine J.bH ?_;simp only[aq,ab,simprocAttr];refine ⟨fun h =>?_,fun h =>?_⟩
 ·cases h
 refine J.exit ?_;try simp only[ar,bL,simprocAttr]
 have w2:=kB A bs (by omega);have w4:=akJ (x:=bs) (by omega);have a7:∀ s',s'.Perm (xs.drop A)→du el s'→ma el (2*bs) xs (e++s'):=fun s' k1 k2=>by
  have:=sa q2 (ht.trans hA) k1 k2 (by rw[zx0];omega)
  rwa [zx2] at this
 have hx1:xs.drop A=dF xs bs (2*u)++xs.drop (A+bs):=by
  have:=qH xs bs (2*u)
  rwa [hA2,hA3] at this
 have hx2:xs.drop (A+bs)=dF xs bs (2*u+1)++xs.drop (A+2*bs):=by
  have:=qH xs bs (2*u+1)
  rwa [hA3,hA4] at this
 by_cases hb3:A+bs<xs.length
 ·have hc3:=ic hb3;have ll:(dF d1 bs (2*u)).length=bs:=qG (by rw[hA3];omega);have hdn:d1.drop (A+2*bs)=[]:=zv0 (by omega);have hxn:xs.drop (A+2*bs)=[]:=zv0 (by omega);have lr:(dF d1 bs (2*u+1)).length=xs.length-(A+bs):=by
   have:=congrArg List.length hd3;rw[hdn,zx8,zx0] at this;omega
  have hm:=zy el hd hel _ e (dF d1 bs (2*u)) (dF d1 bs (2*u+1)) q A (A+bs) xs.length xs.length (zz7 _) (by omega) (by omega) hel2 (by omega) (by omega) (zz7 _) (by simp only[zz5];omega) (by omega) kl2 kr2 hlr hin;have e1:e++dF d1 bs (2*u)++dF d1 bs (2*u+1)++q=e++d1.drop A++q:=by rw[hd2,hd3,hdn];simp only[zz3,zx8]
  rw[e1] at hm;have R:=v6 @hc3 (v6 @w2 (v6 @aZ @ab))
  repeat' ((first |(with_reducible refine .guard (fun hb =>?_) (fun hb =>?_) <;>try simp only[hb])|refine J.aT (by decide +kernel) rfl fun K hK =>?_|(refine .aH [0,1,2,6,7,8,9,13,30,35,54] hK ?_;clear hK K)|(with_reducible refine .done (hK _ ?_);clear hK K)|refine J.of rfl ?_|(with_reducible refine aq.aQ (fun h =>?_) (fun h =>?_) <;>try simp only[h])) <;>try simp only[aU,R,simprocAttr])
  all_goals clear R
  refine bj.kY hm (kH _ xs.length 138 [.ref (enc el)] hcl [_,_,_]) ?_;rintro fe os' ⟨rfl,s',k1,k2,rfl⟩;refine ⟨_,rfl,rfl,?_⟩
  try simp only[ab,simprocAttr]
  refine .done (hK _ ?_);clear hK K;try simp only[ar]
  have R:=v6 @w4 (v6 @aZ @ab)
  repeat' ((first |(with_reducible refine .guard (fun hb =>?_) (fun hb =>?_) <;>try simp only[hb])|refine J.aT (by decide +kernel) rfl fun K hK =>?_|(refine .aH [0,1,2,6,7,8,9,13,30,35,54] hK ?_;clear hK K)|(with_reducible refine .done (hK _ ?_);clear hK K)|refine J.of rfl ?_|(with_reducible refine aq.aQ (fun h =>?_) (fun h =>?_) <;>try simp only[h])) <;>try simp only[aU,R,simprocAttr])
  all_goals clear R
  refine ⟨⟨2*bs,e++s'⟩,⟨by simp only;omega,by simp only;omega,a7 s' (k1.trans ?_) k2⟩,by simp only;omega,?_⟩
  ·rw[hx1,hx2,hxn,zx8];exact kl1.append kr1
  ·refine aF.c8 ?_ (fun n=>rfl);simp[aX,aY]
 ·have hc3:=iW hb3;have hdn:d1.drop (A+bs)=[]:=zv0 (by omega);have hxn:xs.drop (A+bs)=[]:=zv0 (by omega);rw[hdn,zx8] at hd2;rw[hxn,zx8] at hx1;have R:=v6 @hc3 (v6 @w2 (v6 @w4 (v6 @aZ @ab)))
  repeat' ((first |(with_reducible refine .guard (fun hb =>?_) (fun hb =>?_) <;>try simp only[hb])|refine J.aT (by decide +kernel) rfl fun K hK =>?_|(refine .aH [0,1,2,6,7,8,9,13,30,35,54] hK ?_;clear hK K)|(with_reducible refine .done (hK _ ?_);clear hK K)|refine J.of rfl ?_|(with_reducible refine aq.aQ (fun h =>?_) (fun h =>?_) <;>try simp only[h])) <;>try simp only[aU,R,simprocAttr])
  all_goals clear R
  refine ⟨⟨2*bs,e++d1.drop A⟩,⟨by simp only;omega,by simp only;omega,a7 _ (by rw[hd2,hx1];exact kl1) (by rw[hd2];exact kl2)⟩,by simp only;omega,?_⟩;refine aF.c8 ?_ (fun n=>rfl);simp[aX,aY]
theorem OU(el:List av)(hd:mj el)(hel:el.length≤60)(xs q:List Int)(hx:xs.Pairwise (· < ·))(hS:∀ x∈xs,jw el x)(hn:xs.length≤60) :
  cD Tryz.prog 137 [.view 1000000 [] 1 0 xs.length,.func 138 [.ref (enc el)]] (cA 1000000 (xs++q)) (mY el [] xs q):=by
 refine cD.bA Tryz.func137 Ce Cm Cy (t7 rfl) (t7 rfl) nM (fun hwf W0 D0 E1 =>?_);simp only[u3,yn,bp,zz4];clear hwf;refine .bu (by decide +kernel) fun K hK =>?_;simp only[EH,ab,simprocAttr]
 try simp only[eQ,ab,simprocAttr]
 refine bj.kY (Pb el hd hel xs q hx hS hn) (kH _ xs.length 138 [.ref (enc el)] (by simp[I.bW,I.bn,eb]) [_]) ?_;rintro fe os' ⟨rfl,s',k1,k2,rfl⟩;refine ⟨_,rfl,rfl,?_⟩
 try simp only[ab,simprocAttr]
 refine .done (hK _ ?_);clear hK K;rw[kW];exact nJ rfl rfl ⟨rfl,s',k1,k2,rfl⟩
def jn(l:List av)(day:Int)(xs:List Int):List (Nat×ai):=[(1000008,.box (.own 1000080 xs.length)),(1000080,.cV 3 xs),(1000003,.box (enc l)),(1000004,.box (enc day))]
theorem akb(l:List av)(day:Int)(xs ys:List Int):fp (jn l day xs) (jn l day ys):=by
 refine ⟨fun n=>by simp only[jn,al,ak];(repeat' split) <;>rfl,fun n x h =>?_,fun n h =>?_⟩
 ·simp only[jn,ak] at h
  repeat' split at h
  all_goals first | (cases h;done) | (simp only[u8] at h;subst h;exact ⟨by simp[jn,al,ak,ai.only,bt,I.only],rfl⟩)
 ·simp only[jn,al,ak] at h
  repeat' split at h
  all_goals first | omega | (simp at h;done)
def qY(l:List av)(day:Int)(i:Nat):Bool:=decide ((af l i).kind≠0)&&decide ((af l i).day≤day)
def lF(l:List av)(day known:Int)(k:Nat):List Nat:=((eJ l known).take k).filter (qY l day)
theorem X8{l:List av}{day known:Int}{k:Nat}(hk:k<(eJ l known).length):lF l day known (k+1)=lF l day known k++(if qY l day ((eJ l known).getD k 0) then [(eJ l known).getD k 0] else []):=by
 have e:(eJ l known).getD k 0=(eJ l known)[k]:=by rw[zz1,zz8 hk];rfl
 simp only[lF];rw[zy3 hk,List.filter_append,e];simp only[zw1,zv9]
theorem X6(l:List av)(day known:Int):lF l day known (eJ l known).length=jt l day known:=by
 simp only[lF,List.take_length];rfl
theorem X7(l:List av)(day known:Int)(k:Nat):(lF l day known k).length≤l.length:=by
 have h1:=zv4 (qY l day) ((eJ l known).take k);have h2:((eJ l known).take k).length≤(eJ l known).length:=by rw[zx3];omega
 have h3:(eJ l known).length≤l.length:=by
  have:=zv4 (fun i=>(ik l known).getD i false) (List.range l.length)
  rwa [List.length_range] at this
 exact zv8 h1 (zv8 h2 h3)
theorem N3:(∀ (A:ae) n b m k m' k' rest,dC A none n [] b (.own m k) rest (some (.own m' k'))=ay rest (A.aL n (.box (.own m k)))) :=
 fun _ _ _ m k m' k' _=>by rw[eg (s:=none) (v:=.own m k) (old:=.own m' k') rfl rfl rfl,fv]
theorem Oe:(∀ n k,fL n k (.own n k)=.view n [] 1 0 k)∧(∀ n k m p,fL n k (.ptr m p)=.ptr m p)∧(∀ n k z,fL n k (.nils z)=.nils z)∧(∀ {α:Type} [Enc α] n k (x:α),fL n k (enc x)=enc x)∧(∀ n k i (x:Int),fL n k (.int i x)=.int i x)∧(∀ n k f xs,fL n k (.func f xs)=.func f xs)∧(∀ n k ks vs,fL n k (.cI ks vs)=.cI ks vs)∧(∀ n k b,fL n k (.bool b)=.bool b) ∧
  (∀ n,fK n (.own n 0)=.nils 1)∧(∀ n m p,fK n (.ptr m p)=.ptr m p)∧(∀ n z,fK n (.nils z)=.nils z)∧(∀ {α:Type} [Enc α] n (x:α),fK n (enc x)=enc x)∧(∀ n i (x:Int),fK n (.int i x)=.int i x)∧(∀ n f xs,fK n (.func f xs)=.func f xs)∧(∀ n ks vs,fK n (.cI ks vs)=.cI ks vs)∧(∀ n b,fK n (.bool b)=.bool b) ∧
  (∀ f v,iL f (.box v)=.box (f v))∧(∀ f T xs,iL f (.cV T xs)=.cV T xs)∧(∀ f ks vs,iL f (.cv ks vs)=.cv ks vs) :=
 ⟨fun _ _=>by simp[fL],fun _ _ _ _=>rfl,fun _ _ _=>rfl,fun _ _ x=>rQ (bt _ x),fun _ _ _ _=>rfl,fun _ _ _ _=>rfl,fun _ _ _ _=>rfl,fun _ _ _=>rfl,fun _=>by simp[fK],fun _ _ _=>rfl,fun _ _=>rfl,fun _ x=>y0 (bt _ x),fun _ _ _=>rfl,fun _ _ _=>rfl,fun _ _ _=>rfl,fun _ _=>rfl,fun _ _=>rfl,fun _ _ _=>rfl,fun _ _ _=>rfl⟩
theorem r6(l:List av)(day known:Int)(hok:dU l=true):aD Tryz.prog 88 [enc l,enc day,enc known] (rA l day known):=by
 have hl:=ru hok;have hd:mj l:=fun i hi=>ais (x9 hok hi);refine aD.bA Tryz.func88 SH Uz WD (t7 rfl) (fun hwf W0 D0 E1 =>?_);simp only[B4,M0,bp,zz4,Nat.reduceAdd];clear hwf;refine .ao (by decide +kernel) fun K hK =>?_;simp only[IT,ab,simprocAttr];refine .done (hK _ ?_);clear hK K;refine .ao (by decide +kernel) fun K hK =>?_;simp only[IU,ab,simprocAttr];refine .done (hK _ ?_);clear hK K;refine J.seq (J.seq ?_);refine .bu (by decide +kernel) fun K hK =>?_;simp only[IZ,ab,simprocAttr]
 try simp only[dW,aZ,ab,simprocAttr]
 refine .lead _ (OH l known hl) ?_
 try simp only[ab,simprocAttr]
 refine .done (hK _ ?_);clear hK K;try simp only[ar]
 refine J.sub (aF.Qa 8 80 3 1 [] _ rfl rfl rfl (B:=au [(3,.ptr 3 []),(4,.ptr 4 []),(8,.ptr 8 []),(9,.nils 1),(17,.func 146 [.ref (enc l),.ref (enc (ik l known))])] [(8,.box (.own 80 0)),(80,.cV 3 []),(3,.box (enc l)),(4,.box (enc day))]) ?_) ?_
 ·simp only[fv];refine aF.bM ?_ ?_ ?_ ?_ <;>simp[aX,bK,bJ,a8,al,aY,cu,I.only,I.bU,ai.only,bt,gT]
 refine J.block (J.j0 (osb0:=jn l day []) (tsR:=[(3,.ptr 1000003 []),(4,.ptr 1000004 []),(8,.ptr 1000008 [])]) (ρ:=[(1999999,999999),(1000003,3),(1000004,4),(1000008,8),(1000080,80)])
  (fun k os=>os=jn l day (cN (lF l day known k)))
  (fun _ _=>False)
  rfl (t7 rfl) (by simp only[ab,simprocAttr]) (by simp[I.bW,I.bn,eb]) vb (zm l (ik l known) hl (N7 l known)) (fun _=>rfl) rfl rfl rfl (fun o=>⟨?_,?_⟩) ?_ ?_ ?_ ?_ ?_ ?_ ?_)
 ·intro n x hx;simp only[dn,jn,ak] at hx
  repeat' split at hx
  all_goals first | (cases hx;done) | (subst_vars;simp only[u8] at hx;subst hx;simp[dn,jn,al,bx,ak,ai.aK,I.aK,kg,ai.only,I.only,bt,ai.eG,gT])
 ·intro a b ha hb;simp only[dn,jn,al,ak] at ha hb
  repeat' split at ha
  all_goals first | (simp at ha;done) | skip
  all_goals (repeat' split at hb)
  all_goals first | (simp at hb;done) | (subst_vars;simp[bx])
 ·simp[l5,aY,I.aK,bx,I.only,jn,al,ak]
 ·rintro k os rfl;exact akb ..
 ·rintro e os h;exact h.elim
 ·simp[jn,lF,cN]
 ·rintro k osb hk rfl W1 D1 E1 JM o1 o2;have hk':k<(eJ l known).length:=hk;have hdl:=X7 l day known k;have hsu:=X8 (day:=day) hk';generalize lF l day known k=dk at hsu hdl ⊢;obtain ⟨i,hi⟩:∃ i,i=(eJ l known).getD k 0:=⟨_,rfl⟩
  have hil:i<l.length:=by
   rw[hi,zz1,zz8 hk'];exact N8 (zy9 hk')
  have hit:((il (fun i=>(ik l known).getD i false) l.length).getD k 0)=i:=hi.symm;rw[←hi] at hsu;have he:=ny hil;simp only[hit,qc,dn,jn];have R:=v6 @aZ @ab
  repeat' ((first |(with_reducible refine .guard (fun hb =>?_) (fun hb =>?_) <;>try simp only[hb])|refine J.aT (by decide +kernel) rfl fun K hK =>?_|(refine .aH [0,1,2,3,4,6,7,8,9,10,11,12,14,17,18,33,45,46,47,48,64] hK ?_;clear hK K)|(with_reducible refine .done (hK _ ?_);clear hK K)|refine J.of rfl ?_|(with_reducible refine aq.aQ (fun h =>?_) (fun h =>?_) <;>try simp only[h])) <;>try simp only[aU,R,simprocAttr])
  all_goals clear R
  refine ⟨by simp[],?_⟩;have hap:=fun (A:ae) d rest=>uV (A:=A) (d:=d) (e:=3) (bytes:=8) (n:=1000080) (l:=(cN dk).length) (xs:=cN dk) (y:=(i:Int)) (rest:=rest) rfl (by simp[cN,maxLen];omega) (by simp[cN];omega);rcases h1:((af l i).kind != 0) <;>rcases h2:decide ((af l i).day≤day)
  all_goals
   have R:=v6 @h1 (v6 @h2 (v6 @he (v6 @hap (v6 @dW (v6 @N3 (v6 @dT (v6 @bG (v6 @aZ @ab))))))))
   repeat' ((first |(with_reducible refine .guard (fun hb =>?_) (fun hb =>?_) <;>try simp only[hb])|refine J.aT (by decide +kernel) rfl fun K hK =>?_|(refine .aH [0,1,2,3,4,6,7,8,9,10,11,12,14,17,18,33,45,46,47,48,64] hK ?_;clear hK K)|(with_reducible refine .done (hK _ ?_);clear hK K)|refine J.of rfl ?_|(with_reducible refine aq.aQ (fun h =>?_) (fun h =>?_) <;>try simp only[h])) <;>try simp only[aU,R,simprocAttr])
   all_goals clear R
  all_goals
   have hdue:qY l day i=(((af l i).kind != 0)&&decide ((af l i).day≤day)):=by simp only[qY,bne,ne_eq,decide_not];rfl
   rw[h1,h2] at hdue;rw[hdue] at hsu;refine ⟨_,?_,rfl⟩;rw[hsu];intro n x hx;simp only[dn,ak,if_true,zz6,zw3,Bool.and_true,Bool.and_false,if_false,zx8] at hx
   (repeat' split at hx) <;>first
    |(cases hx;done)
    |(subst_vars;simp only[u8] at hx;subst hx;simp[dn,al,au,ak,ai.only,I.only,bt,ai.eG,cN])
 ·rintro os rfl;have eN:lF l day known (il (fun i=>(ik l known).getD i false) l.length).length=jt l day known:=X6 l day known;simp only[eN,jn,dH,zz9,zx1,bx,ai.aK,I.aK,kg,ar,bL,reduceIte,Nat.reduceEqDiff,zy0,zy6];refine J.sub (B:=au [(3,.ptr 3 []),(8,.ptr 8 []),(9,.nils 1)] [(8,.box (.own 80 (lE l day known).length)),(80,.cV 3 (lE l day known)),(3,.box (enc l))]) ?_ ?_
  ·refine aF.bM ?_ ?_ ?_ ?_ <;>simp[*,aX,bK,bJ,a8,al,aY,cu,I.only,ai.only,bt,gT,lE]
  have hlen:(lE l day known).length≤60:=by simp only[lE,cN,zy2];exact zv8 (vy l day known) hl
  have hris:=X5 l day known;have hin:=X4 (l:=l) (day:=day) (known:=known);have heq:=fun s=>aiR (l:=l) (day:=day) (known:=known) (s:=s);generalize lE l day known=xs at hlen hris hin heq ⊢;by_cases hx0:xs=[]
  ·subst hx0;have ho0:p7 l day known=[]:=(heq [] (List.Perm.refl _) List.Pairwise.nil).symm;refine J.sub (aF.Om (n:=80) (T:=3) rfl (B:=au [(3,.ptr 3 []),(8,.ptr 8 []),(9,.nils 1)] [(8,.box (.nils 1)),(3,.box (enc l))]) ?_) ?_
   ·simp only[zz9,zx1,Oe,List.length_nil];refine aF.bM ?_ ?_ ?_ ?_ <;>simp[aX,bK,bJ,a8,al,aY,cu,I.only,ai.only,bt]
   refine .ao (by decide +kernel) fun K hK =>?_;simp only[wL,ab,simprocAttr]
   try simp only[pU,kJ,ab,simprocAttr]
   refine .flat _ (OV l) rfl ?_
   try simp only[ab,simprocAttr]
   refine .done (hK _ ?_);clear hK K;refine .ao (by decide +kernel) fun K hK =>?_;simp only[wM,ab,simprocAttr]
   try simp only[dT,ab,simprocAttr]
   refine .done (hK _ ?_);clear hK K;refine .ao (by decide +kernel) fun K hK =>?_;simp only[wN,ab,simprocAttr];refine .lead _ zl ?_
   try simp only[ab,simprocAttr]
   refine .done (hK _ ?_);clear hK K;refine J.seq (J.seq ?_);refine .bu (by decide +kernel) fun K hK =>?_;simp only[wO,ab,simprocAttr]
   try simp only[dW,eQ,bG,dT,ab,simprocAttr]
   refine .done (hK _ ?_);clear hK K;try simp only[ar]
   have hF:=zJ l day known hok (W0:=W0) (D0:=D0) (E1:=E1);rw[ho0] at hF;refine J.sub (aF.qR [8] 45 (x:=.nils 1) (y:=enc ([]:List Int)) rfl (by rfl) ?_ ?_ ?_ ?_ ?_) hF
   ·simp[db,a8,ai.only,I.only,I.bU,bt]
   ·simp[aX,gF,aY,I.only,I.bU,kK]
   ·simp[bK,db,ak]
   ·simp[bJ,al,ak,I.only,I.bU,bt,kK]
   ·simp[a8,al,ak,ai.only,I.only,I.bU,bt]
  ·refine J.Ol (n:=80) rfl hx0 (by omega) (tJ (by simp[nH,I.only])) ?_ (fun q =>?_)
   ·intro m y hy hm;simp only[ak] at hy
    repeat' split at hy
    all_goals first | (cases hy;done) | (exact absurd (by assumption) hm) | (simp only[u8] at hy;subst hy;first | exact .inl rfl | exact .inr (by simp[ai.only,bt]))
   simp only[zz9,zx1,Oe];refine .ao (by decide +kernel) fun K hK =>?_;simp only[wL,ab,simprocAttr]
   try simp only[dW,pU,kJ,ab,simprocAttr]
   refine .bT true [(1000000,80)] (cA 1000000 (xs++List.replicate q 0)) [.view 1000000 [] 1 0 xs.length,.func 138 [.ref (enc l)]] _ rfl (OU l hd hl xs _ hris hin hlen) ?_ ?_ ?_ ?_
   ·refine ⟨fun m y hy =>?_,fun m m' h h' _=>by rw[dy.1 h,dy.1 h']⟩;simp only[cA,ak] at hy;split at hy
    ·rename_i hm;cases hy;subst hm;exact ⟨by simp only[bx,if_true,ak,ai.aK,I.aK,gM],oA _ _,rfl⟩
    ·cases hy
   ·refine ⟨.inl ⟨by simp[I.aK,bx],dy.2 rfl,rfl⟩,.inr ?_,trivial⟩;simp[a7,bZ,cB,au,db,jW,cA,bx,ak,eb,hT]
   ·rintro fe os' ⟨rfl,s',k1,k2,rfl⟩;refine ⟨fun m y hy =>?_,fun m m' h h' _=>by rw[dy.1 h,dy.1 h'],fun m hm=>by rw[dy.1 hm];exact dy.2 rfl,fun m a b=>by rw[dy.1 a] at b;simp[cA,al,ak] at b,rfl,fun _=>rfl⟩;simp only[cA,ak] at hy;split at hy
    ·cases hy;exact ⟨oA _ _,rfl,fun _=>ag6 _⟩
    ·cases hy
   ·rintro fe os' ⟨rfl,s',k1,k2,rfl⟩;have hs':=heq s' k1 k2;have hsl:xs.length=s'.length:=k1.length_eq.symm
    try simp only[cA,dH,zz9,zx1,ai.aK,I.aK,gM,bx,reduceIte,zy0,zy6,I.cJ,ab,simprocAttr]
    refine .done (hK _ ?_);clear hK K;refine .ao (by decide +kernel) fun K hK =>?_;simp only[wM,ab,simprocAttr]
    try simp only[dT,ab,simprocAttr]
    refine .done (hK _ ?_);clear hK K;refine .ao (by decide +kernel) fun K hK =>?_;simp only[wN,ab,simprocAttr];refine .lead _ zl ?_
    try simp only[ab,simprocAttr]
    refine .done (hK _ ?_);clear hK K;refine J.seq (J.seq ?_);refine .bu (by decide +kernel) fun K hK =>?_;simp only[wO,ab,simprocAttr]
    try simp only[dW,eQ,ab,simprocAttr]
    refine .done (hK _ ?_);clear hK K;try simp only[ar]
    have hF:=zJ l day known hok (W0:=W0) (D0:=D0) (E1:=E1);rw[←hs'] at hF;refine J.sub (aF.qR [80,8] 45 (x:=.view 80 [] 1 0 xs.length) (y:=enc s') rfl ?_ ?_ ?_ ?_ ?_ ?_) hF
    ·have:ak (iC [80,8] [(43,ai.box (I.agg ([I.raw (Value.map none)].set 0 (I.mref 41)))),(41,ai.cv [] []),(80,ai.box (I.agg ((s'++List.replicate q 0).map enc))),(80,ai.box (I.agg ((xs++List.replicate q 0).map enc))),(8,ai.box (I.view 80 [] 1 0 xs.length)),(80,ai.cV 3 xs),(3,ai.box (enc l))]) 80=some (.box (.agg ((s'++List.replicate q 0).map enc))):=by
      rw[ox];simp[ak]
     try simp only[this,ab,simprocAttr]
     exact Dc hsl.symm
    ·simp[db,a8,ai.only,I.only,I.bU,bt]
    ·simp[aX,gF,aY,I.only,I.bU,kK,hsl]
    ·simp[bK,db,ak]
    ·simp[bJ,al,ak,I.only,I.bU,bt,kK]
    ·simp[a8,al,ak,ai.only,I.only,I.bU,bt]
 ·rintro e os h;exact h.elim
theorem ON(n:Int):aD Tryz.prog 126 [enc n] (enc (!bS 0 100000 n)):=by
 refine aD.bA Tryz.func126 Rk S8 Vf (t7 rfl) (fun hwf W0 D0 E1 =>?_);simp only[AB,Lz,bp];have R:=v6 @aZ @ab
 repeat' ((first |(with_reducible refine .guard (fun hb =>?_) (fun hb =>?_) <;>try simp only[hb])|refine J.aT (by decide +kernel) rfl fun K hK =>?_|refine .flat _ (uI _) rfl ?_|(refine .aH [0,2] hK ?_;clear hK K)|(with_reducible refine .done (hK _ ?_);clear hK K)|refine J.of rfl ?_|(with_reducible refine aq.aQ (fun h =>?_) (fun h =>?_) <;>try simp only[h])) <;>try simp only[aU,R,simprocAttr])
 all_goals clear R
abbrev jq:=aR 2 Int
def dG(a b:Int):jq:=⟨[a,b],rfl⟩
def eL(l:List av)(ns:List jq)(ds:List Int):Int:=if dU l then (if ns.all (fun n=>bS 1 (n.g 1) (n.g 0)) then (if ds.any (fun d => !bS 0 100000 d) then 6 else 0) else 1) else 41
theorem N2{A:ae}{n:Nat}{b:I}{x:jq}{u v:Int}{rest:List az} : dC A (some 2) n [] b (enc x) rest (some (.agg [.int .i64 u,.int .i64 v]))=ay rest (A.aL n (.box (enc x))):=by
 have:=eg (A:=A) (n:=n) (p:=[]) (b:=b) (v:=enc x) (old:=.agg [.int .i64 u,.int .i64 v]) (rest:=rest) (s:=some 2) (dO _) (by rw[fQ];rfl) (eO x);rw[this,fv]
theorem xy :
  (∀ (x:jq) y,fG (0:Int) 2 (fF 2 1 (x.l.map enc) y)=y)∧(∀ (x:jq) y,fG (1:Int) 2 (fF 2 1 (x.l.map enc) y)=y)∧(∀ x:jq,(x.l.map (enc (α:=Int)))[0]?=some (I.int .i64 (x.g 0)))∧(∀ x:jq,(x.l.map (enc (α:=Int)))[1]?=some (I.int .i64 (x.g 1))) ∧
  (∀ x:jq,(enc x:I).dA=some (x.l.map enc))∧(∀ x:jq,bY (some 2) (enc x)=true)∧((0:Int).toNat=0)∧((1:Int).toNat=1) :=
 ⟨fun x y=>gb 1 x (by decide) rfl,fun x y=>gb 1 x (by decide) rfl,fun x=>qS x (by decide),fun x=>qS x (by decide),fun _=>rfl,fun x=>by rw[fQ];rfl,rfl,rfl⟩
theorem nS(l:List av)(ns:List jq)(ds:List Int):aD Tryz.prog 67 [enc l,enc ns,enc ds] (enc (eL l ns ds)):=by
 refine aD.bA Tryz.func67 Ss Uk Wo (t7 rfl) (fun hwf W0 D0 E1 =>?_);simp only[BN,MK,bp,zz4,Nat.reduceAdd];have hnl:ns.length≤maxLen:=((lj ns).1 hwf.2.1).1;simp only[maxLen] at hnl;have hF64:=PB l;simp only[eL];rcases hok:dU l
 ·rw[hok,if_neg (by decide)] at hF64;have R:=v6 @hok (v6 @bG (v6 @aZ @ab))
  repeat' ((first |(with_reducible refine .guard (fun hb =>?_) (fun hb =>?_) <;>try simp only[hb])|refine J.aT (by decide +kernel) rfl fun K hK =>?_|refine .flat _ (hF64) rfl ?_|(refine .aH [0,1,2,6,7,9,13,15,16,17,18,26,29] hK ?_;clear hK K)|(with_reducible refine .done (hK _ ?_);clear hK K)|refine J.of rfl ?_|(with_reducible refine aq.aQ (fun h =>?_) (fun h =>?_) <;>try simp only[h])) <;>try simp only[aU,R,simprocAttr])
  all_goals clear R
 rw[hok,if_pos rfl] at hF64;have R:=v6 @hok (v6 @bG (v6 @aZ @ab))
 repeat' ((first |(with_reducible refine .guard (fun hb =>?_) (fun hb =>?_) <;>try simp only[hb])|refine J.aT (by decide +kernel) rfl fun K hK =>?_|refine .flat _ (hF64) rfl ?_|(refine .aH [0,1,2,6,7,9,13,15,16,17,18,26,29] hK ?_;clear hK K)|(with_reducible refine .done (hK _ ?_);clear hK K)|refine J.of rfl ?_|(with_reducible refine aq.aQ (fun h =>?_) (fun h =>?_) <;>try simp only[h])) <;>try simp only[aU,R,simprocAttr])
 all_goals clear R
 refine J.loop (fun i:Nat=>au [(2,enc ds),(15,enc ns),(16,.int .i64 ns.length),(17,.int .i64 i)] []) (fun i=>i≤ns.length∧∀ k,(h:k<ns.length)→k<i→bS 1 ((ns[k]).g 1) ((ns[k]).g 0)=true) (fun i=>ns.length-i) 0 ⟨zw7 _,fun k _ hk=>by omega⟩ ?_ (fun i hi =>?_)
 ·refine aF.bM ?_ ?_ ?_ ?_ <;>simp[aX,bK,bJ,a8,aY,I.only,bt]
 obtain ⟨hi1,hi2⟩:=hi;by_cases hlt:i<ns.length
 ·have hc:=ic hlt;have he:=fun A=>fH (A:=A) 2 hlt rfl;have hw:=fw (i:=i) (by omega);obtain ⟨x,hx⟩:∃ x,x=ns[i]:=⟨_,rfl⟩
  rw[←hx] at he;rcases hp:bS 1 (x.g 1) (x.g 0)
  ·have hall:(ns.all fun n=>bS 1 (n.g 1) (n.g 0))=false:=by
    rw[List.all_eq_false];exact ⟨x,hx▸zy9 hlt,by rw[hp];decide⟩
   have R:=v6 @hc (v6 @he (v6 @hp (v6 @hall (v6 @N2 (v6 @xy (v6 @bG @ab))))))
   repeat' ((first |(with_reducible refine .guard (fun hb =>?_) (fun hb =>?_) <;>try simp only[hb])|refine J.aT (by decide +kernel) rfl fun K hK =>?_|refine .flat _ (l8 _ _ _) rfl ?_|(refine .aH [0,1,2,6,7,9,13,15,16,17,18,26,29] hK ?_;clear hK K)|(with_reducible refine .done (hK _ ?_);clear hK K)|refine J.of rfl ?_|(with_reducible refine aq.aQ (fun h =>?_) (fun h =>?_) <;>try simp only[h])) <;>try simp only[aU,R,simprocAttr])
   all_goals clear R
  ·have R:=v6 @hc (v6 @he (v6 @hp (v6 @hw (v6 @N2 (v6 @xy (v6 @bG @ab))))))
   repeat' ((first |(with_reducible refine .guard (fun hb =>?_) (fun hb =>?_) <;>try simp only[hb])|refine J.aT (by decide +kernel) rfl fun K hK =>?_|refine .flat _ (l8 _ _ _) rfl ?_|(refine .aH [0,1,2,6,7,9,13,15,16,17,18,26,29] hK ?_;clear hK K)|(with_reducible refine .done (hK _ ?_);clear hK K)|refine J.of rfl ?_|(with_reducible refine aq.aQ (fun h =>?_) (fun h =>?_) <;>try simp only[h])) <;>try simp only[aU,R,simprocAttr])
   all_goals clear R
   refine ⟨i+1,⟨by omega,fun k hk hki =>?_⟩,by omega,?_⟩
   ·by_cases e:k=i
    ·subst e;rw[←hx];exact hp
    ·exact hi2 k hk (by omega)
   ·refine aF.bM ?_ ?_ ?_ ?_ <;>simp[aX,bK,bJ,a8,aY,bt,I.only]
 ·have hc:=iW hlt;have hall:(ns.all fun n=>bS 1 (n.g 1) (n.g 0))=true:=by
   rw[zy8];intro x hx;obtain ⟨k,hk,rfl⟩:=List.getElem_of_mem hx;exact hi2 k hk (by omega)
  have hF:=uH ds 126 [] rfl (fun d => !bS 0 100000 d) (fun x _=>ON x);rcases hd:ds.any fun d => !bS 0 100000 d
  all_goals
   rw[hd] at hF;have R:=v6 @hc (v6 @hall (v6 @hd (v6 @bG (v6 @aZ @ab))))
   repeat' ((first |(with_reducible refine .guard (fun hb =>?_) (fun hb =>?_) <;>try simp only[hb])|refine J.aT (by decide +kernel) rfl fun K hK =>?_|refine .flat _ (hF) rfl ?_|(refine .aH [0,1,2,6,7,9,13,15,16,17,18,26,29] hK ?_;clear hK K)|(with_reducible refine .done (hK _ ?_);clear hK K)|refine J.of rfl ?_|(with_reducible refine aq.aQ (fun h =>?_) (fun h =>?_) <;>try simp only[h])) <;>try simp only[aU,R,simprocAttr])
   all_goals clear R
def cC(l:List av)(day known:Int):List aB:=(rB ev l (jE l day known)).1
def akC(l:List av)(day known:Int):List Int:=dJ (cN (rB ev l (jE l day known)).2)
theorem tQ(l:List av)(day known:Int):rA l day known=.tuple [fm (cC l day known),enc (akC l day known)]:=rfl
theorem oo{l:List av}(hok:dU l=true)(day known:Int):((cC l day known).map (·.no)).Nodup∧(cC l day known).length≤60∧∀ b∈cC l day known,b.cm.length≤60:=by
 have h:=yi l (jE l day known) _ (zz7 _);rw[Ld] at h;have h2:(jE l day known).length≤60:=by rw[K8];exact zv8 (vy l day known) (ru hok)
 exact ⟨h.1,by simp only[cC];omega,fun b hb=>by have:=h.2.2.1 b hb;omega⟩
theorem pO(bs:List aB)(no:Int):gq (.i .i64) .nilp (.int .i64 no) (dc bs) (bs.map fun b=>.ref (enc (⟨b⟩:er)))=match cW bs no with
  |some b=>some (.ref (enc (⟨b⟩:er)),true)
  |none=>some (.nilp,false):=by
 have h1:=wT (bs:=bs) (no:=no);have h2:=xz pA .nilp no (bs.map (·.no)) (bs.map fun b=>.ref (enc (⟨b⟩:er)));rw[gT] at h2;unfold dc;rw[h2];cases h:(bs.map (·.no)).findIdx? fun x=>decide (no=x) with
 |none=>rw[h] at h1;simp only at h1;rw[h1]
 |some i =>
  rw[h] at h1;obtain ⟨hi,g1,g2⟩:=h1;rw[g1];simp[hi]
theorem UW(bs:List aB):I.bW (bs.map fun b=>.ref (enc (⟨b⟩:er)))=true:=by
 induction bs with
 |nil=>rfl
 |cons b bs ih=>simp only[zz9,I.bW,I.bn,eb,ih,zw3]
theorem UP(bs:List aB):(I.cI (dc bs) (bs.map fun b=>.ref (enc (⟨b⟩:er)))).bn=true:=by
 simp only[I.bn,UW,Bool.and_true];exact jP _
theorem iA:(∀ bs,(fm bs).bn=true)∧(∀ aA A bs,a7 aA A (fm bs)=some (fm bs))∧(∀ bs,(fm bs).b8=true)∧(∀ bs,bY none (fm bs)=true)∧(∀ p bs,(fm bs).only p=true)∧(∀ x:er,(enc x:I).bn=true)∧(∀ bs,mH (fm bs)=some (fm bs)) ∧
  (∀ A bs,lJ A 0 0 (fm bs)=some (.ref (.cI (dc bs) (bs.map fun b=>.ref (enc (⟨b⟩:er))))))∧(∀ x:er,mH (.ref (enc x))=some (.ref (enc x))) :=
 have h:∀ bs,(I.agg [.cI (dc bs) (bs.map fun b=>.ref (enc (⟨b⟩:er)))]).bn=true:=fun bs=>by simp only[I.bn,I.bW,Bool.and_true];exact UP bs
 ⟨fun bs=>by simp only[fm,I.bn];exact h bs,fun aA A bs=>by simp only[fm,a7,h bs,if_true],fun _=>rfl,fun _=>rfl,fun p bs=>mJ p _ (by simp only[fm,I.bn];exact h bs),fun x=>eb x,fun _=>rfl,
  fun A bs=>by simp[fm,lJ,I.dA,qO,pD,ef,I.sizes],fun _=>rfl⟩
theorem Oo:(∀ k n,(I.int k n).b8=true)∧(∀ b,(I.bool b).b8=true):=⟨fun _ _=>rfl,fun _=>rfl⟩
theorem mi{l:List av}{ns:List jq}{ds:List Int}(h:eL l ns ds=0):dU l=true:=by
 simp only[eL] at h;split at h
 ·assumption
 ·cases h
theorem nE{a:Int}(h:a=0):(a != 0)=false:=by simp[h]
theorem nF{a:Int}(h:¬ a=0):(a != 0)=true:=by simp[h]
theorem qE(a b:Int):iw 1 (some [.int .i64 a,.int .i64 b])=some (enc [a,b]):=m9 (ys:=[a,b]) 1 rfl
theorem o9(l:List av)(known:Int)(hok:dU l=true):aD Tryz.prog 68 [enc l,enc known] (fm (cC l 100000 known)):=by
 refine aD.bA Tryz.func68 St Ul Wp (t7 rfl) (fun hwf W0 D0 E1 =>?_);simp only[BO,ML,bp,zz4];have hF:=r6 l 100000 known hok;rw[tQ] at hF;have R:=v6 @iA (v6 @aZ @ab)
 repeat' ((first |(with_reducible refine .guard (fun hb =>?_) (fun hb =>?_) <;>try simp only[hb])|refine J.aT (by decide +kernel) rfl fun K hK =>?_|refine .lead _ (hF) ?_|(refine .aH [0,1,4,5] hK ?_;clear hK K)|(with_reducible refine .done (hK _ ?_);clear hK K)|refine J.of rfl ?_|(with_reducible refine aq.aQ (fun h =>?_) (fun h =>?_) <;>try simp only[h])) <;>try simp only[aU,R,simprocAttr])
 all_goals clear R
theorem PN(b:aB):aD Tryz.prog 89 [.ref (enc (⟨b⟩:er))] (enc (!decide (0≤b.cL))):=by
 refine aD.bA Tryz.func89 SI UA WE (t7 rfl) (fun hwf W0 D0 E1 =>?_);simp only[B5,M2,bp];have R:=v6 @iA (v6 @aZ @ab)
 repeat' ((first |(with_reducible refine .guard (fun hb =>?_) (fun hb =>?_) <;>try simp only[hb])|refine J.aT (by decide +kernel) rfl fun K hK =>?_|refine .flat _ (jo _) rfl ?_|(refine .aH [0,2] hK ?_;clear hK K)|(with_reducible refine .done (hK _ ?_);clear hK K)|refine J.of rfl ?_|(with_reducible refine aq.aQ (fun h =>?_) (fun h =>?_) <;>try simp only[h])) <;>try simp only[aU,R,simprocAttr])
 all_goals clear R
def nV(l:List av)(day known:Int):List Int×Int:=if eL l [] [day,known]=0 then (dJ (((cC l day known).filter fun b => !decide (0≤b.cL)).map (·.no)),0) else ([],eL l [] [day,known])
theorem zD(l:List av)(day known:Int):aD Tryz.prog 26 [enc l,enc day,enc known] (.tuple [enc (nV l day known).1,enc (nV l day known).2]):=by
 refine aD.bA Tryz.func26 Sg T9 Wd (t7 rfl) (fun hwf W0 D0 E1 =>?_);simp only[BD,Mz,bp,zz4,Nat.reduceAdd];clear hwf;have hC:=nS l [] [day,known];simp only[nV];generalize hc:eL l [] [day,known]=e at hC ⊢;by_cases he:e=0
 ·have hn:=nE he;subst he;have hok:=mi hc;have hF:=r6 l day known hok;rw[tQ] at hF;have hb:=oo hok day known;have hN:=r4 (cC l day known) hb.2.1 89 [] rfl (fun b => !decide (0≤b.cL)) (fun b _=>PN b);have R:=v6 @hn (v6 @qE (v6 @iA (v6 @kJ (v6 @aZ @ab))))
  repeat' ((first |(with_reducible refine .guard (fun hb =>?_) (fun hb =>?_) <;>try simp only[hb])|refine J.aT (by decide +kernel) rfl fun K hK =>?_|refine .flat _ (hC) rfl ?_|refine .lead _ (hF) ?_|refine .lead _ (hN) ?_|(refine .aH [0,1,2,6,7,8,9,17] hK ?_;clear hK K)|(with_reducible refine .done (hK _ ?_);clear hK K)|refine J.of rfl ?_|(with_reducible refine aq.aQ (fun h =>?_) (fun h =>?_) <;>try simp only[h])) <;>try simp only[aU,R,simprocAttr])
  all_goals clear R
  all_goals rfl
 ·have hn:=nF he;have R:=v6 @hn (v6 @he (v6 @qE (v6 @aZ @ab)))
  repeat' ((first |(with_reducible refine .guard (fun hb =>?_) (fun hb =>?_) <;>try simp only[hb])|refine J.aT (by decide +kernel) rfl fun K hK =>?_|refine .flat _ (hC) rfl ?_|(refine .aH [0,1,2,6,7,8,9,17] hK ?_;clear hK K)|(with_reducible refine .done (hK _ ?_);clear hK K)|refine J.of rfl ?_|(with_reducible refine aq.aQ (fun h =>?_) (fun h =>?_) <;>try simp only[h])) <;>try simp only[aU,R,simprocAttr])
  all_goals clear R
  all_goals rfl
def np(l:List av)(no day known:Int):Int×Int:=if eL l [dG no 9999] [day,known]=0 then (match cW (cC l day known) no with
 |none=>(0,42)
 |some b=>if 0≤b.cL then (0,0) else (b.bP,0)) else (0,eL l [dG no 9999] [day,known])
theorem Al(a b:Int):iw 2 (some [.agg [.int .i64 a,.int .i64 b]])=some (enc [dG a b]):=m9 (ys:=[dG a b]) 2 rfl
theorem Am(a b c d:Int):iw 2 (some [.agg [.int .i64 a,.int .i64 b],.agg [.int .i64 c,.int .i64 d]])=some (enc [dG a b,dG c d]):=m9 (ys:=[dG a b,dG c d]) 2 rfl
theorem ep:(type_of% @aZ)∧(type_of% @fM)∧(type_of% @iA)∧(type_of% @kJ)∧(type_of% @dT)∧(type_of% @dW)∧(type_of% @bG)∧(type_of% @qE)∧(type_of% @Al)∧(type_of% @Am)∧(type_of% @Aj)∧(type_of% @Oo)∧(type_of% @ab):=⟨@aZ,@fM,@iA,@kJ,@dT,@dW,@bG,@qE,@Al,@Am,@Aj,@Oo,@ab⟩
theorem zE(l:List av)(no day known:Int):aD Tryz.prog 27 [enc l,enc no,enc day,enc known] (.tuple [enc (np l no day known).1,enc (np l no day known).2]):=by
 refine aD.bA Tryz.func27 Sh Ua We (t7 rfl) (fun hwf W0 D0 E1 =>?_);simp only[BE,MA,bp,zz4,Nat.reduceAdd];clear hwf;have hC:=nS l [dG no 9999] [day,known];simp only[np];generalize hc:eL l [dG no 9999] [day,known]=e at hC ⊢;by_cases he:e=0
 ·have hn:=nE he;subst he;have hok:=mi hc;have hF:=r6 l day known hok;rw[tQ] at hF;have hk:=pO (cC l day known) no;cases hg:cW (cC l day known) no with
  |none =>
   rw[hg] at hk;have R:=v6 @hn (v6 @hk ep)
   repeat' ((first |(with_reducible refine .guard (fun hb =>?_) (fun hb =>?_) <;>try simp only[hb])|refine J.aT (by decide +kernel) rfl fun K hK =>?_|refine .flat _ (hC) rfl ?_|refine .lead _ (hF) ?_|(refine .aH [0,1,2,3,8,9,10,11,13,23,38,41] hK ?_;clear hK K)|(with_reducible refine .done (hK _ ?_);clear hK K)|refine J.of rfl ?_|(with_reducible refine aq.aQ (fun h =>?_) (fun h =>?_) <;>try simp only[h])) <;>try simp only[aU,R,simprocAttr])
   all_goals clear R
  |some b =>
   rw[hg] at hk;rcases hd:decide (0≤b.cL)
   all_goals
    have R:=v6 @hn (v6 @hk (v6 @hd ep))
    repeat' ((first |(with_reducible refine .guard (fun hb =>?_) (fun hb =>?_) <;>try simp only[hb])|refine J.aT (by decide +kernel) rfl fun K hK =>?_|refine .flat _ (hC) rfl ?_|refine .lead _ (hF) ?_|refine .flat _ (jo _) rfl ?_|(refine .aH [0,1,2,3,8,9,10,11,13,23,38,41] hK ?_;clear hK K)|(with_reducible refine .done (hK _ ?_);clear hK K)|refine J.of rfl ?_|(with_reducible refine aq.aQ (fun h =>?_) (fun h =>?_) <;>try simp only[h])) <;>try simp only[aU,R,simprocAttr])
    all_goals clear R
    simp only[decide_eq_true_eq,decide_eq_false_iff_not] at hd;simp[hd]
 ·have hn:=nF he;have R:=v6 @hn (v6 @he ep)
  repeat' ((first |(with_reducible refine .guard (fun hb =>?_) (fun hb =>?_) <;>try simp only[hb])|refine J.aT (by decide +kernel) rfl fun K hK =>?_|refine .flat _ (hC) rfl ?_|(refine .aH [0,1,2,3,8,9,10,11,13,23,38,41] hK ?_;clear hK K)|(with_reducible refine .done (hK _ ?_);clear hK K)|refine J.of rfl ?_|(with_reducible refine aq.aQ (fun h =>?_) (fun h =>?_) <;>try simp only[h])) <;>try simp only[aU,R,simprocAttr])
  all_goals clear R
  all_goals rfl
theorem PO(b:aB)(o s:Int):aD Tryz.prog 91 [.ref (enc (⟨b⟩:er)),.ref (enc o),.ref (enc s)] (enc (!decide (0≤b.cL)&&(b.bP==o&&b.cM==s))):=by
 refine aD.bA Tryz.func91 SK UC WH (t7 rfl) (fun hwf W0 D0 E1 =>?_);simp only[B7,M4,bp,zz4,Nat.reduceAdd];have R:=ep
 repeat' ((first |(with_reducible refine .guard (fun hb =>?_) (fun hb =>?_) <;>try simp only[hb])|refine J.aT (by decide +kernel) rfl fun K hK =>?_|refine .flat _ (jo _) rfl ?_|(refine .aH [0,1,2,4] hK ?_;clear hK K)|(with_reducible refine .done (hK _ ?_);clear hK K)|refine J.of rfl ?_|(with_reducible refine aq.aQ (fun h =>?_) (fun h =>?_) <;>try simp only[h])) <;>try simp only[aU,R,simprocAttr])
 all_goals clear R
 all_goals simp_all
def pw(l:List av)(o s day known:Int):Int×Int:=if eL l [dG o 99,dG s 9] [day,known]=0 then ((((cC l day known).filter fun b => !decide (0≤b.cL)&&(b.bP==o&&b.cM==s)).length:Int),0) else (0,eL l [dG o 99,dG s 9] [day,known])
theorem zF(l:List av)(o s day known:Int):aD Tryz.prog 28 [enc l,enc o,enc s,enc day,enc known] (.tuple [enc (pw l o s day known).1,enc (pw l o s day known).2]):=by
 refine aD.bA Tryz.func28 Si Ub Wf (t7 rfl) (fun hwf W0 D0 E1 =>?_);simp only[BF,MB,bp,zz4,Nat.reduceAdd];clear hwf;have hC:=nS l [dG o 99,dG s 9] [day,known];simp only[pw];generalize hc:eL l [dG o 99,dG s 9] [day,known]=e at hC ⊢;by_cases he:e=0
 ·have hn:=nE he;subst he;have hok:=mi hc;have hF:=r6 l day known hok;rw[tQ] at hF;have hb:=oo hok day known;have hN:=r4 (cC l day known) hb.2.1 91 [.ref (enc o),.ref (enc s)] rfl (fun b => !decide (0≤b.cL)&&(b.bP==o&&b.cM==s)) (fun b _=>PO b o s);have R:=v6 @hn (v6 @pU ep)
  repeat' ((first |(with_reducible refine .guard (fun hb =>?_) (fun hb =>?_) <;>try simp only[hb])|refine J.aT (by decide +kernel) rfl fun K hK =>?_|refine .flat _ (hC) rfl ?_|refine .lead _ (hF) ?_|(refine .aH [0,1,2,3,4,6,7,10,11,12,13,26] hK ?_;clear hK K)|(with_reducible refine .done (hK _ ?_);clear hK K)|refine J.of rfl ?_|(with_reducible refine aq.aQ (fun h =>?_) (fun h =>?_) <;>try simp only[h])) <;>try simp only[aU,R,simprocAttr])
  all_goals clear R
  refine .ib [6,7] _ rfl hN ?_ ?_ ?_
  ·simp[a7,bZ,cB,au,iC,ak,hT,iA,I.bn];exact ⟨rfl,rfl⟩
  ·simp[a8,db]
  ·have hlen:(dJ (((cC l day known).filter fun b => !decide (0≤b.cL)&&(b.bP==o&&b.cM==s)).map (·.no))).length=((cC l day known).filter fun b => !decide (0≤b.cL)&&(b.bP==o&&b.cM==s)).length:=by simp[dJ]
   try simp only[gF,zz9,zx1,hlen,ep,ab,simprocAttr]
   have R:=v6 @hlen ep
   repeat' ((first |(with_reducible refine .guard (fun hb =>?_) (fun hb =>?_) <;>try simp only[hb])|refine J.aT (by decide +kernel) rfl fun K hK =>?_|(refine .aH [0,1,2,3,4,6,7,10,11,12,13,26] hK ?_;clear hK K)|(with_reducible refine .done (hK _ ?_);clear hK K)|refine J.of rfl ?_|(with_reducible refine aq.aQ (fun h =>?_) (fun h =>?_) <;>try simp only[h])) <;>try simp only[aU,R,simprocAttr])
   all_goals clear R
 ·have hn:=nF he;have R:=v6 @hn (v6 @he ep)
  repeat' ((first |(with_reducible refine .guard (fun hb =>?_) (fun hb =>?_) <;>try simp only[hb])|refine J.aT (by decide +kernel) rfl fun K hK =>?_|refine .flat _ (hC) rfl ?_|(refine .aH [0,1,2,3,4,6,7,10,11,12,13,26] hK ?_;clear hK K)|(with_reducible refine .done (hK _ ?_);clear hK K)|refine J.of rfl ?_|(with_reducible refine aq.aQ (fun h =>?_) (fun h =>?_) <;>try simp only[h])) <;>try simp only[aU,R,simprocAttr])
  all_goals clear R
  all_goals rfl
theorem gK(m:b7):bY (some 7) (enc m)=true:=by rw[fQ];rfl
theorem r3(m:b7)(b:aB):aD Tryz.prog 69 [enc m,.ref (enc (⟨b⟩:er))] (enc (jc m b.cm).1):=by
 refine aD.bA Tryz.func69 Su Um Wq (t7 rfl) (fun hwf W0 D0 E1 =>?_);simp only[BP,MN,bp,zz4];clear hwf;have hC:=OO m b.cm;have R:=v6 @gK ep
 repeat' ((first |(with_reducible refine .guard (fun hb =>?_) (fun hb =>?_) <;>try simp only[hb])|refine J.aT (by decide +kernel) rfl fun K hK =>?_|refine .lead _ (hC) ?_|(refine .aH [0,1,2,4,5] hK ?_;clear hK K)|(with_reducible refine .done (hK _ ?_);clear hK K)|refine J.of rfl ?_|(with_reducible refine aq.aQ (fun h =>?_) (fun h =>?_) <;>try simp only[h])) <;>try simp only[aU,R,simprocAttr])
 all_goals clear R
theorem OQ(l:List Int)(n:Int):aD Tryz.prog 131 [enc l,enc n] (enc (nw (fun x=>n==x) l)):=by
 refine aD.bA Tryz.func131 Ro Tc Vj (t7 rfl) (fun hwf W0 D0 E1 =>?_);simp only[AG,LD,bp,zz4];have hlen:l.length≤maxLen:=((lj l).1 hwf.1).1;simp only[maxLen] at hlen;clear hwf;have R:=v6 @bG @ab
 repeat' ((first |(with_reducible refine .guard (fun hb =>?_) (fun hb =>?_) <;>try simp only[hb])|refine J.aT (by decide +kernel) rfl fun K hK =>?_|(refine .aH [0,1,4,5,7,8,9,16] hK ?_;clear hK K)|(with_reducible refine .done (hK _ ?_);clear hK K)|refine J.of rfl ?_|(with_reducible refine aq.aQ (fun h =>?_) (fun h =>?_) <;>try simp only[h])) <;>try simp only[aU,R,simprocAttr])
 all_goals clear R
 refine J.loop (fun i:Nat=>au [(0,enc l),(1,.int .i64 n),(7,.int .i64 l.length),(8,.int .i64 i)] []) (fun i=>i≤l.length∧∀ x∈l.take i,(n==x)=false) (fun i=>l.length-i) 0 ⟨zw7 _,by simp⟩ ?_ (fun i hi =>?_)
 ·refine aF.bM ?_ ?_ ?_ ?_ <;>simp[aX,bK,bJ,a8,aY,I.only,bt]
 obtain ⟨hi1,hi2⟩:=hi;by_cases hlt:i<l.length
 ·have hc:=ic hlt;have he:=fun A=>fH (A:=A) 1 hlt rfl;have hw:=fw (i:=i) (by omega);rcases hp:(n==l[i])
  ·have R:=v6 @hc (v6 @he (v6 @hp (v6 @hw (v6 @jY (v6 @bG @ab)))))
   repeat' ((first |(with_reducible refine .guard (fun hb =>?_) (fun hb =>?_) <;>try simp only[hb])|refine J.aT (by decide +kernel) rfl fun K hK =>?_|(refine .aH [0,1,4,5,7,8,9,16] hK ?_;clear hK K)|(with_reducible refine .done (hK _ ?_);clear hK K)|refine J.of rfl ?_|(with_reducible refine aq.aQ (fun h =>?_) (fun h =>?_) <;>try simp only[h])) <;>try simp only[aU,R,simprocAttr])
   all_goals clear R
   refine ⟨i+1,⟨by omega,fun x hm =>?_⟩,by omega,?_⟩
   ·rw[zy3 hlt] at hm;rcases zy1.1 hm with hm | hm
    ·exact hi2 x hm
    ·simp at hm;rw[hm];exact hp
   ·refine aF.bM ?_ ?_ ?_ ?_ <;>simp[aX,bK,bJ,a8,aY,I.only,bt]
  ·have R:=v6 @hc (v6 @he (v6 @hp (v6 @jY (v6 @bG @ab))))
   repeat' ((first |(with_reducible refine .guard (fun hb =>?_) (fun hb =>?_) <;>try simp only[hb])|refine J.aT (by decide +kernel) rfl fun K hK =>?_|(refine .aH [0,1,4,5,7,8,9,16] hK ?_;clear hK K)|(with_reducible refine .done (hK _ ?_);clear hK K)|refine J.of rfl ?_|(with_reducible refine aq.aQ (fun h =>?_) (fun h =>?_) <;>try simp only[h])) <;>try simp only[aU,R,simprocAttr])
   all_goals clear R
   simp[nw,vN hlt hi2 hp]
 ·have hc:=iW hlt;have hge:i=l.length:=by omega
  have R:=v6 @hc (v6 @bG @ab)
  repeat' ((first |(with_reducible refine .guard (fun hb =>?_) (fun hb =>?_) <;>try simp only[hb])|refine J.aT (by decide +kernel) rfl fun K hK =>?_|(refine .aH [0,1,4,5,7,8,9,16] hK ?_;clear hK K)|(with_reducible refine .done (hK _ ?_);clear hK K)|refine J.of rfl ?_|(with_reducible refine aq.aQ (fun h =>?_) (fun h =>?_) <;>try simp only[h])) <;>try simp only[aU,R,simprocAttr])
  all_goals clear R
  subst hge;rw[List.take_length] at hi2;simp[nw,vM hi2]
theorem PE(l:List Int)(n:Int):aD Tryz.prog 74 [enc l,enc n] (enc (decide (n∈l))):=by
 refine aD.bA Tryz.func74 Sy Uq Wu (t7 rfl) (fun hwf W0 D0 E1 =>?_);simp only[BT,MR,bp,zz4];clear hwf;have R:=v6 @aZ @ab
 repeat' ((first |(with_reducible refine .guard (fun hb =>?_) (fun hb =>?_) <;>try simp only[hb])|refine J.aT (by decide +kernel) rfl fun K hK =>?_|refine .flat _ (OQ _ _) rfl ?_|(refine .aH [0,1,4] hK ?_;clear hK K)|(with_reducible refine .done (hK _ ?_);clear hK K)|refine J.of rfl ?_|(with_reducible refine aq.aQ (fun h =>?_) (fun h =>?_) <;>try simp only[h])) <;>try simp only[aU,R,simprocAttr])
 all_goals clear R
 rw[Jw]
 congr 1
 rw[Bool.eq_iff_iff];simp[List.any_eq_true]
theorem PD(m:b7)(b:aB):aD Tryz.prog 73 [.ref (enc (⟨b⟩:er)),.ref (enc m)] (enc (decide (0<b.jO) && !decide (b.jO∈(jc m b.cm).1))):=by
 refine aD.bA Tryz.func73 Sx Up Wt (t7 rfl) (fun hwf W0 D0 E1 =>?_);simp only[BS,MQ,bp,zz4];clear hwf;have hC:=r3 m b;have R:=v6 @gK ep
 repeat' ((first |(with_reducible refine .guard (fun hb =>?_) (fun hb =>?_) <;>try simp only[hb])|refine J.aT (by decide +kernel) rfl fun K hK =>?_|refine .lead _ (hC) ?_|refine .flat _ (PE _ _) rfl ?_|(refine .aH [0,1,3] hK ?_;clear hK K)|(with_reducible refine .done (hK _ ?_);clear hK K)|refine J.of rfl ?_|(with_reducible refine aq.aQ (fun h =>?_) (fun h =>?_) <;>try simp only[h])) <;>try simp only[aU,R,simprocAttr])
 all_goals clear R
 all_goals first | (simp_all;done) | (simp_all;intro h;omega)
def lv(m:b7)(l:List av)(no known:Int):List Int×Int:=if ez m then (if eL l [dG no 9999] [known]=0 then (match cW (cC l 100000 known) no with
 |none=>([],42)
 |some b=>((jc m b.cm).1,0)) else ([],eL l [dG no 9999] [known])) else ([],13)
theorem mg(a:Int):iw 1 (some [.int .i64 a])=some (enc [a]):=m9 (ys:=[a]) 1 rfl
theorem uJ(m:b7)(l:List av)(no known:Int):aD Tryz.prog 14 [enc m,enc l,enc no,enc known] (.tuple [enc (lv m l no known).1,enc (lv m l no known).2]):=by
 refine aD.bA Tryz.func14 Rv Tj Vq (t7 rfl) (fun hwf W0 D0 E1 =>?_);simp only[AN,LL,bp,zz4,Nat.reduceAdd];clear hwf;have hM:=uN m;have hC:=nS l [dG no 9999] [known];simp only[lv];rcases hm:ez m
 ·rw[hm,if_neg (by decide)] at hM;have R:=v6 @gK ep
  repeat' ((first |(with_reducible refine .guard (fun hb =>?_) (fun hb =>?_) <;>try simp only[hb])|refine J.aT (by decide +kernel) rfl fun K hK =>?_|refine .flat _ (hM) rfl ?_|(refine .aH [0,1,2,3,4,8,9,10,11,12,16,26,37] hK ?_;clear hK K)|(with_reducible refine .done (hK _ ?_);clear hK K)|refine J.of rfl ?_|(with_reducible refine aq.aQ (fun h =>?_) (fun h =>?_) <;>try simp only[h])) <;>try simp only[aU,R,simprocAttr])
  all_goals clear R
  all_goals rfl
 rw[hm,if_pos rfl] at hM;generalize hc:eL l [dG no 9999] [known]=e at hC ⊢;by_cases he:e=0
 ·have hn:=nE he;subst he;have hok:=mi hc;have hF:=o9 l known hok;have hk:=pO (cC l 100000 known) no;cases hg:cW (cC l 100000 known) no with
  |none =>
   rw[hg] at hk;have R:=v6 @hn (v6 @hk (v6 @gK ep))
   repeat' ((first |(with_reducible refine .guard (fun hb =>?_) (fun hb =>?_) <;>try simp only[hb])|refine J.aT (by decide +kernel) rfl fun K hK =>?_|refine .flat _ (hM) rfl ?_|refine .flat _ (hC) rfl ?_|refine .lead _ (hF) ?_|(refine .aH [0,1,2,3,4,8,9,10,11,12,16,26,37] hK ?_;clear hK K)|(with_reducible refine .done (hK _ ?_);clear hK K)|refine J.of rfl ?_|(with_reducible refine aq.aQ (fun h =>?_) (fun h =>?_) <;>try simp only[h])) <;>try simp only[aU,R,simprocAttr])
   all_goals clear R
   all_goals rfl
  |some b =>
   rw[hg] at hk;have hB:=r3 m b;have R:=v6 @hn (v6 @hk (v6 @gK ep))
   repeat' ((first |(with_reducible refine .guard (fun hb =>?_) (fun hb =>?_) <;>try simp only[hb])|refine J.aT (by decide +kernel) rfl fun K hK =>?_|refine .flat _ (hM) rfl ?_|refine .flat _ (hC) rfl ?_|refine .lead _ (hF) ?_|refine .lead _ (hB) ?_|(refine .aH [0,1,2,3,4,8,9,10,11,12,16,26,37] hK ?_;clear hK K)|(with_reducible refine .done (hK _ ?_);clear hK K)|refine J.of rfl ?_|(with_reducible refine aq.aQ (fun h =>?_) (fun h =>?_) <;>try simp only[h])) <;>try simp only[aU,R,simprocAttr])
   all_goals clear R
 ·have hn:=nF he;have R:=v6 @hn (v6 @he (v6 @gK ep))
  repeat' ((first |(with_reducible refine .guard (fun hb =>?_) (fun hb =>?_) <;>try simp only[hb])|refine J.aT (by decide +kernel) rfl fun K hK =>?_|refine .flat _ (hM) rfl ?_|refine .flat _ (hC) rfl ?_|(refine .aH [0,1,2,3,4,8,9,10,11,12,16,26,37] hK ?_;clear hK K)|(with_reducible refine .done (hK _ ?_);clear hK K)|refine J.of rfl ?_|(with_reducible refine aq.aQ (fun h =>?_) (fun h =>?_) <;>try simp only[h])) <;>try simp only[aU,R,simprocAttr])
  all_goals clear R
  all_goals rfl
def rV(m:b7)(l:List av)(known:Int):List Int×Int:=if ez m then (if eL l [] [known]=0 then
 (dJ (((cC l 100000 known).filter fun b=>decide (0<b.jO) && !decide (b.jO∈(jc m b.cm).1)).map (·.no)),0) else ([],eL l [] [known])) else ([],13)
theorem O2(m:b7)(l:List av)(known:Int):aD Tryz.prog 16 [enc m,enc l,enc known] (.tuple [enc (rV m l known).1,enc (rV m l known).2]):=by
 refine aD.bA Tryz.func16 RF Tv VB (t7 rfl) (fun hwf W0 D0 E1 =>?_);simp only[AY,LX,bp,zz4,Nat.reduceAdd];clear hwf;have hM:=uN m;have hC:=nS l [] [known];simp only[rV];rcases hm:ez m
 ·rw[hm,if_neg (by decide)] at hM;have R:=v6 @gK ep
  repeat' ((first |(with_reducible refine .guard (fun hb =>?_) (fun hb =>?_) <;>try simp only[hb])|refine J.aT (by decide +kernel) rfl fun K hK =>?_|refine .flat _ (hM) rfl ?_|(refine .aH [0,1,2,3,6,7,8,9,13,20] hK ?_;clear hK K)|(with_reducible refine .done (hK _ ?_);clear hK K)|refine J.of rfl ?_|(with_reducible refine aq.aQ (fun h =>?_) (fun h =>?_) <;>try simp only[h])) <;>try simp only[aU,R,simprocAttr])
  all_goals clear R
  all_goals rfl
 rw[hm,if_pos rfl] at hM;generalize hc:eL l [] [known]=e at hC ⊢;by_cases he:e=0
 ·have hn:=nE he;subst he;have hok:=mi hc;have hF:=o9 l known hok;have hb:=oo hok 100000 known;have hN:=r4 (cC l 100000 known) hb.2.1 73 [.ref (enc m)] (by simp[I.eV,I.done,eb]) (fun b=>decide (0<b.jO) && !decide (b.jO∈(jc m b.cm).1)) (fun b _=>PD m b);have R:=v6 @hn (v6 @gK (v6 @pU ep))
  repeat' ((first |(with_reducible refine .guard (fun hb =>?_) (fun hb =>?_) <;>try simp only[hb])|refine J.aT (by decide +kernel) rfl fun K hK =>?_|refine .flat _ (hM) rfl ?_|refine .flat _ (hC) rfl ?_|refine .lead _ (hF) ?_|(refine .aH [0,1,2,3,6,7,8,9,13,20] hK ?_;clear hK K)|(with_reducible refine .done (hK _ ?_);clear hK K)|refine J.of rfl ?_|(with_reducible refine aq.aQ (fun h =>?_) (fun h =>?_) <;>try simp only[h])) <;>try simp only[aU,R,simprocAttr])
  all_goals clear R
  refine .ib [3] _ rfl hN ?_ ?_ ?_
  ·simp[a7,bZ,cB,au,iC,ak,hT,iA,eb]
  ·simp[a8,db]
  ·try simp only[gF,zz9,zx1,ep,ab,simprocAttr]
   have R:=ep
   repeat' ((first |(with_reducible refine .guard (fun hb =>?_) (fun hb =>?_) <;>try simp only[hb])|refine J.aT (by decide +kernel) rfl fun K hK =>?_|(refine .aH [0,1,2,3,6,7,8,9,13,20] hK ?_;clear hK K)|(with_reducible refine .done (hK _ ?_);clear hK K)|refine J.of rfl ?_|(with_reducible refine aq.aQ (fun h =>?_) (fun h =>?_) <;>try simp only[h])) <;>try simp only[aU,R,simprocAttr])
   all_goals clear R
 ·have hn:=nF he;have R:=v6 @hn (v6 @he (v6 @gK ep))
  repeat' ((first |(with_reducible refine .guard (fun hb =>?_) (fun hb =>?_) <;>try simp only[hb])|refine J.aT (by decide +kernel) rfl fun K hK =>?_|refine .flat _ (hM) rfl ?_|refine .flat _ (hC) rfl ?_|(refine .aH [0,1,2,3,6,7,8,9,13,20] hK ?_;clear hK K)|(with_reducible refine .done (hK _ ?_);clear hK K)|refine J.of rfl ?_|(with_reducible refine aq.aQ (fun h =>?_) (fun h =>?_) <;>try simp only[h])) <;>try simp only[aU,R,simprocAttr])
  all_goals clear R
  all_goals rfl
theorem aj6{A:ae}{n:Nat}{w:I}{b:aB}{rest:List az} : dC A (some 9) n [] w (enc b) rest (some (.agg [.int .i64 0,.int .i64 0,.int .i64 0,.int .i64 0,.int .i64 0,.int .i64 0,.int .i64 0,.bool false,.nils 6]))=ay rest (A.aL n (.box (enc b))):=by
 refine (eg (s:=some 9) (dO _) (by rw[fQ];rfl) (eO b)).trans ?_;rw[fv]
end Go.Proofs.YtcldiigclhgafaaGreat
namespace Go.Proofs.YtcldiigclhgafaaGreat
open Go Go.Abs Go.ChangeShapes Go.WideShapes Go.RowKit
open Go.Abs.Enc (enc)
theorem Tryz.own:ownKnob Tryz.prog.godebug=none:=by kernel_rfl
theorem Tryz.JN:laidOutB Tryz.prog=true:=by kernel_rfl
theorem tB:jM Tryz.prog 3 Int:=aiQ (by kernel_rfl) (by kernel_rfl)
theorem Ku:jM Tryz.prog 29 (List Int):=K3 (by kernel_rfl) tB (by kernel_rfl)
theorem ahG:jM Tryz.prog 28 jq:=K2 (JF (by kernel_rfl)) tB (by kernel_rfl) (by decide)
theorem ND{w:World}{D:aM}{E:aW}{x y z:I}{a b c:Value}(hx:∃ cs,bD x a cs∧ah w D E x cs)(hy:∃ cs,bD y b cs∧ah w D E y cs)(hz:∃ cs,bD z c cs∧ah w D E z cs):aG w D E [x,y,z] [a,b,c]:=by
 obtain ⟨c1,h1,h2⟩:=hx;obtain ⟨c2,h3,h4⟩:=hy;obtain ⟨c3,h5,h6⟩:=hz;simp only[aG];exact ⟨a,[b,c],c1,rfl,h1,h2,b,[c],c2,rfl,h3,h4,c,[],c3,rfl,h5,h6,rfl⟩
end Go.Proofs.YtcldiigclhgafaaGreat
namespace Go.Proofs.YtcldiigclhgafaaGreat
open Go Go.Abs
open Go.Abs.Enc (enc)
theorem QY(w:aR 5 Int)(n:Int):dX [enc (a5 0 0 0 0 0),.int .i64 0,.nils 7] [(0,enc w),(1,.int .i64 n)]=some [enc w,.int .i64 n,.nils 7]:=by
 have h1:((enc w:I).b8=true∧(enc w:I).size=(enc (a5 0 0 0 0 0)).size):=⟨dO _,by rw[gp,gp]⟩
 rw[oR (z:=enc (a5 0 0 0 0 0)) rfl h1.1 h1.2,oR (v:=.int .i64 n) (z:=.int .i64 0) rfl rfl rfl];rfl
theorem mf(w:aR 5 Int)(n:Int)(x:I)(h1:x.b8=true)(h2:x.aO=.one)(h3:x.size=1):(I.agg [enc w,.int .i64 n,x]).b8=true∧bY (some 7) (I.agg [enc w,.int .i64 n,x])=true∧(I.agg [enc w,.int .i64 n,x]).aO=.ew [.ew (List.replicate 5 .one),.one,.one]:=by
 refine ⟨rfl,?_,?_⟩
 ·simp[bY,I.isAgg,I.size,I.sizes,gp,h3,kN,kO]
 ·simp[I.aO,I.cX,eO,h2,sF,sG]
theorem x0(w:aR 5 Int)(n:Int)(x:I)(v:I):ef [enc w,.int .i64 n,x] 2 6 v=some v:=lT (t7 rfl) (by simp[I.sizes,I.size,gp,kN,kO])
theorem zC(c:List Int)(hl:c.length≤4611686018427387904):aD Tryz.prog 24 [enc c] (enc (mD c)):=by
 refine aD.bA Tryz.func24 Se T7 Wb (t7 rfl) (fun hwf W0 D0 E1 =>?_);simp only[BB,Mx,bp];refine .ao (by decide +kernel) fun K hK =>?_;simp only[Hv,ab,simprocAttr];refine .done (hK _ ?_);clear hK K;obtain ⟨w,hw⟩:∃ w,w=fN c 5:=⟨_,rfl⟩
 obtain ⟨f,hf⟩:∃ f,f=bN c 5%2:=⟨_,rfl⟩
 refine .ao (by decide +kernel) fun K hK =>?_;simp only[Hw,ab,simprocAttr]
 try simp only[cZ,ab,simprocAttr]
 refine .lead _ (PK c hl) ?_
 try simp only[cZ,ab,simprocAttr]
 refine .flat _ (l9 c 5 hl) rfl ?_
 try simp only[ab,simprocAttr]
 refine .flat _ (gB (bN c 5) 2 (by decide) (by decide)) rfl ?_
 try simp only[CP,QY,←hw,←hf,ab,simprocAttr]
 obtain ⟨q1,q2,q3⟩:=mf w f (.nils 7) rfl rfl rfl;rw[eg q1 q2 (q3.trans (mf (a5 0 0 0 0 0) 0 (.nils 7) rfl rfl rfl).2.2.symm)]
 try simp only[fv,ab,simprocAttr]
 refine .done (hK _ ?_);clear hK K;refine .ao (by decide +kernel) fun K hK =>?_;simp only[Hx,ab,simprocAttr];refine .done (hK _ ?_);clear hK K;refine J.seq (J.seq ?_);refine .bu (by decide +kernel) fun K hK =>?_;simp only[Hy,ab,simprocAttr];refine .done (hK _ ?_);clear hK K;try simp only[ar]
 refine J.block (J.loop (fun i:Nat=>au [(0,enc c),(2,.ptr 2 []),(3,.ptr 3 []),(4,.int .i64 (c6 c i).1),(5,.int .i64 i)] [(1,.bX 63 7 ((c6 c i).2.map enc)),(2,.box (.agg [enc (a5 0 0 0 0 0),.int .i64 0,.nils 7])),(3,.box (.agg [enc w,.int .i64 f,.own 1 (c6 c i).2.length]))]) (fun i=>i≤12) (fun i=>12-i) 0 (by omega) ?_ (fun i hi =>?_))
 ·refine aF.uT 3 1 63 7 7 [2] (.agg [enc w,.int .i64 f,.nils 7]) ?_ rfl ?_ ?_
  ·try simp only[ab,simprocAttr]
  ·try simp only[ab,simprocAttr]
  ·have e1:(I.agg [enc w,.int .i64 f,.nils 7]).dI [2] (.own 1 0)=.agg [enc w,.int .i64 f,.own 1 0]:=rfl;rw[e1];simp only[c6,zx1,List.length_nil];refine aF.bM ?_ ?_ ?_ ?_ <;>simp[aX,bK,bJ,a8,al,aY,cu,I.only,I.bU,ai.only,bt]
 obtain ⟨b1,b2,b3,_,_⟩:=xI c i;have q4:=Kj (c.getD i 0);have fin12:¬ (i<c.length∧i<12∧(c6 c i).2.length<9)→(mD c).given=(c6 c i).2:=by
  intro hn;by_cases e:i=12
  ·subst e;rfl
  ·have:c6 c 12=c6 c i:=J9 (fun hh=>hn ⟨hh.1,by omega,hh.2⟩) 12 hi;simp only[mD,jU,this]
 refine J.seq (J.seq ?_);refine .bu (by decide +kernel) fun K hK =>?_;simp only[Hz,ab,simprocAttr]
 try simp only[bG,ab,simprocAttr]
 generalize hz:decide ((i:Int)<c.length)=bz;cases bz
 ·have hout:=fin12 (fun hh=>by simp at hz;omega)
  try simp only[ab,simprocAttr]
  refine .done (hK _ ?_);clear hK K;try simp only[ar]
  refine J.bH ?_;simp only[aq,ab,simprocAttr];refine ⟨fun h =>?_,fun h =>?_⟩
  ·cases h
  refine J.exit ?_;try simp only[ar,bL,simprocAttr]
  refine .ao (by decide +kernel) fun K hK =>?_;simp only[sS,ab,simprocAttr];obtain ⟨s1,s2,s3⟩:=mf w f (.own 1 (c6 c i).2.length) rfl rfl rfl
  try simp only[s2,ab,simprocAttr]
  rw[eg s1 s2 (s3.trans (mf (a5 0 0 0 0 0) 0 (.nils 7) rfl rfl rfl).2.2.symm)]
  try simp only[fv,ab,simprocAttr]
  refine .done (hK _ ?_);clear hK K;refine J.ret ?_;simp only[ab,simprocAttr]
  try simp only[s2,my (α:=ca) 7 rfl rfl,cZ,ab,simprocAttr]
  have hfin:(⟨w,f,(c6 c i).2⟩:b7)=mD c:=by rw[←hout,hw,hf];rfl
  rw[qI,hfin]
 have hic:i<c.length:=by simpa using hz
 try simp only[ab,simprocAttr]
 generalize hz2:decide ((i:Int)<12)=bz;cases bz
 ·have hout:=fin12 (fun hh=>by simp at hz2;omega)
  try simp only[ab,simprocAttr]
  refine .done (hK _ ?_);clear hK K;refine J.bH ?_;simp only[aq,ab,simprocAttr];refine ⟨fun h =>?_,fun h =>?_⟩
  ·cases h
  refine J.exit ?_;try simp only[ar,bL,simprocAttr]
  refine .ao (by decide +kernel) fun K hK =>?_;simp only[sS,ab,simprocAttr];obtain ⟨s1,s2,s3⟩:=mf w f (.own 1 (c6 c i).2.length) rfl rfl rfl
  try simp only[s2,ab,simprocAttr]
  rw[eg s1 s2 (s3.trans (mf (a5 0 0 0 0 0) 0 (.nils 7) rfl rfl rfl).2.2.symm)]
  try simp only[fv,ab,simprocAttr]
  refine .done (hK _ ?_);clear hK K;refine J.ret ?_;simp only[ab,simprocAttr]
  try simp only[s2,my (α:=ca) 7 rfl rfl,cZ,ab,simprocAttr]
  have hfin:(⟨w,f,(c6 c i).2⟩:b7)=mD c:=by rw[←hout,hw,hf];rfl
  rw[qI,hfin]
 have hi12:i<12:=by simp at hz2;omega
 try simp only[x0,cG,ab,simprocAttr]
 rw[agX _ 1 _ 63 7 (c6 c i).2 (by simp only[ab,simprocAttr]) rfl]
 try simp only[ab,simprocAttr]
 generalize hz3:decide (((c6 c i).2.length:Int)<9)=bz;cases bz
 ·have hout:=fin12 (fun hh=>by simp at hz3;omega)
  try simp only[cG,bG,jY,cZ,ab,simprocAttr]
  refine .done (hK _ ?_);clear hK K;refine J.bH ?_;simp only[aq,ab,simprocAttr];refine ⟨fun h =>?_,fun h =>?_⟩
  ·cases h
  refine J.exit ?_;try simp only[ar,bL,simprocAttr]
  refine .ao (by decide +kernel) fun K hK =>?_;simp only[sS,ab,simprocAttr];obtain ⟨s1,s2,s3⟩:=mf w f (.own 1 (c6 c i).2.length) rfl rfl rfl
  try simp only[s2,ab,simprocAttr]
  rw[eg s1 s2 (s3.trans (mf (a5 0 0 0 0 0) 0 (.nils 7) rfl rfl rfl).2.2.symm)]
  try simp only[fv,ab,simprocAttr]
  refine .done (hK _ ?_);clear hK K;refine J.ret ?_;simp only[ab,simprocAttr]
  try simp only[s2,my (α:=ca) 7 rfl rfl,cZ,ab,simprocAttr]
  have hfin:(⟨w,f,(c6 c i).2⟩:b7)=mD c:=by rw[←hout,hw,hf];rfl
  rw[qI,hfin]
 have hi9:(c6 c i).2.length<9:=by simp at hz3;omega
 try simp only[cG,bG,jY,cZ,ab,simprocAttr]
 refine .done (hK _ ?_);clear hK K;refine J.bH ?_;simp only[aq,ab,simprocAttr];refine ⟨fun h =>?_,fun h =>?_⟩
 case refine_2.true.true.true.refine_2=>cases h
 have hbk:x7 ⟨w,f,(c6 c i).2⟩:=by rw[hw,hf];exact aiz (KL c (by omega))
 have hstep:c6 c (i+1)=rn c i (c6 c i):=by simp only[c6,if_pos (show i<c.length∧(c6 c i).2.length<9 from ⟨hic,hi9⟩)]
 generalize c6 c i=p at *;obtain ⟨o,l⟩:=p;simp only at *;refine J.skip ?_;try simp only[ar,simprocAttr]
 refine J.seq (J.block ?_);refine .ao (by decide +kernel) fun K hK =>?_;simp only[HA,ab,simprocAttr]
 try simp only[xl hic,ab,simprocAttr]
 refine .flat _ (gB (c.getD i 0) 4 (by decide) (by decide)) rfl ?_
 try simp only[ab,simprocAttr]
 rw[cE _ (show -9223372036854775808≤1+c.getD i 0%4 by omega) (by omega),cE _ (by omega) (by omega)];refine .done (hK _ ?_);clear hK K;obtain ⟨o2,ho2⟩:∃ o2,o2=o+(1+c.getD i 0%4):=⟨_,rfl⟩
 rw[←ho2];refine .ao (by decide +kernel) fun K hK =>?_;simp only[HB,ab,simprocAttr]
 try simp only[xl hic,ab,simprocAttr]
 rw[cE ((i:Int)*2503) (by omega) (by omega)];refine .flat _ (gB _ 15625 (by decide) (by decide)) rfl ?_
 try simp only[ab,simprocAttr]
 refine .lead _ (PL _) ?_;have hmark:ke (IntKind.i64.wrap (IntKind.i64.wrap (c.getD i 0*7)+i*2503)%15625) 6=(lQ c i 0).mark:=rfl;rw[hmark];obtain ⟨mk,hmk⟩:∃ mk,mk=(lQ c i 0).mark:=⟨_,rfl⟩
 rw[←hmk]
 try simp only[CQ,QU,X9,akc,ab,simprocAttr]
 refine .done (hK _ ?_);clear hK K;obtain ⟨s1,s2,s3⟩:=mf w f (.own 1 l.length) rfl rfl rfl;have hokm:dV mk=true:=by rw[hmk];exact KN _
 refine .ao (by decide +kernel) fun K hK =>?_;simp only[HC,ab,simprocAttr]
 try simp only[s2,my (α:=ca) 7 rfl rfl,cG,qI,cZ,ab,simprocAttr]
 refine .flat _ (PM ⟨w,f,l⟩ mk hbk hokm) rfl ?_;obtain ⟨near,hnear⟩:∃ near,near=l.any (fun h=>j8 ⟨w,f,l⟩ h.mark mk):=⟨_,rfl⟩
 have hst:c6 c (i+1)=(o2,if near then l else l++[⟨o2,mk⟩]):=by
  rw[hstep,rn,hnear,ho2,hmk,hw,hf];rfl
 have hnear':(l.any fun g=>decide ((eM (iP w g.mark mk) 6:Int)≤IntKind.i64.wrap (2*f)))=near:=by rw[hnear];rfl
 try simp only[hnear',ab,simprocAttr]
 refine .done (hK _ ?_);clear hK K;cases near
 ·rw[if_neg (by simp)] at hst;refine J.bH ?_;simp only[aq,ab,simprocAttr];refine ⟨fun h =>?_,fun h =>?_⟩
  ·refine .bu (by decide +kernel) fun K hK =>?_;simp only[HD,ab,simprocAttr]
   try simp only[x0,qD 7 (⟨o2,mk⟩:ca) rfl,cG,cZ,ab,simprocAttr]
   rw[m7 (α:=ca) 63 7 56 1 rfl rfl (by simp) (by simp[maxLen];omega) (by simp;omega)]
   try simp only[x0,cG,ab,simprocAttr]
   rw[eg (s:=none) (v:=.own 1 (l++[(⟨o2,mk⟩:ca)]).length) (old:=.own 1 l.length) rfl rfl rfl];have hset:(I.agg [enc w,.int .i64 f,.own 1 l.length]).dI [2] (.own 1 (l++[(⟨o2,mk⟩:ca)]).length)=.agg [enc w,.int .i64 f,.own 1 (l++[(⟨o2,mk⟩:ca)]).length]:=rfl
   try simp only[hset,ab,simprocAttr]
   refine .done (hK _ ?_);clear hK K;try simp only[ar,bL]
   refine .bu (by decide +kernel) fun K hK =>?_;simp only[wG,ab,simprocAttr];refine .done (hK _ ?_);clear hK K;try simp only[ar]
   refine ⟨i+1,by omega,by omega,?_⟩;rw[cE _ (by omega) (by omega),hst];refine aF.bM ?_ ?_ ?_ ?_ <;>simp[aX,bK,bJ,a8,al,aY,cu,I.only,I.bU,ai.only,ej,gz,bt]
  ·cases h
 ·rw[if_pos rfl] at hst;refine J.bH ?_;simp only[aq,ab,simprocAttr];refine ⟨fun h =>?_,fun h =>?_⟩
  ·cases h
  refine J.skip ?_;try simp only[ar,bL,simprocAttr]
  refine .bu (by decide +kernel) fun K hK =>?_;simp only[wG,ab,simprocAttr];refine .done (hK _ ?_);clear hK K;try simp only[ar]
  refine ⟨i+1,by omega,by omega,?_⟩;rw[cE _ (by omega) (by omega),hst];refine aF.bM ?_ ?_ ?_ ?_ <;>simp[aX,bK,bJ,a8,al,aY,cu,I.only,I.bU,ai.only,ej,bt]
theorem eK.aiM{aA:Bool}{ρ:List (Nat×Nat)}{k:Nat}{x:ai}{os0:List (Nat×ai)}{r c:I}(h1:∀ p,c.only p=true)(h2:aA=true→c.c5=true)(h3:r.only (al [(k,.box c)])=true)(h4:aA=true→r.c5=true):eK aA ρ [(k,x)] os0 r [(k,.box c)]:=by
 refine ⟨fun m x h =>?_,fun m m' h h' _ =>?_,fun m h =>?_,fun m h h' =>?_,h3,h4⟩
 ·simp only[ak] at h;split at h
  ·simp only[u8] at h;subst h;exact ⟨h1 _,rfl,h2⟩
  ·cases h
 ·rw[dy.1 h,dy.1 h']
 ·rw[dy.1 h];exact dy.2 rfl
 ·rw[dy.1 h] at h';have:al [(k,x)] k=true:=dy.2 rfl;rw[this] at h';cases h'
theorem xK(p:Nat→Bool)(l:List av):(I.agg (l.map enc)).only p=true:=by simp only[I.only];exact ej p l
theorem PG(l:List av)(i:Nat)(hi:i<l.length)(hlen:l.length≤60):aD Tryz.prog 78 [enc l,enc (i:Int)] (enc (e7 l i)):=by
 have hne:l≠[]:=fun e=>by rw[e] at hi;simp at hi
 have hdl:=CH hi;refine aD.bA Tryz.func78 Sz Ur Wv (t7 rfl) (fun hwf W0 D0 E1 =>?_);simp only[BU,MS,bp,zz4];clear hwf;refine .ao (by decide +kernel) fun K hK =>?_;simp only[Il,ab,simprocAttr];refine .done (hK _ ?_);clear hK K;refine .ao (by decide +kernel) fun K hK =>?_;simp only[Im,ab,simprocAttr];refine .bT false [(7,6)] [] [enc l] (Cv l) rfl (OT l (by omega)) fZ.nil ⟨.inl ⟨(kg _ _).symm,bt _ _,dO _⟩,trivial⟩ ?_ ?_
 ·rintro x os' (⟨_,h | h,rfl⟩ | ⟨_,k,rfl,rfl⟩)
  ·subst h;exact eK.nil (fun _=>rfl) (fun h=>by cases h)
  ·subst h;exact eK.nil (fun _=>rfl) (fun h=>by cases h)
  ·exact eK.tx (fun p=>xK p _) (fun h=>by cases h) rfl (fun h=>by cases h) rfl (by decide)
 ·rintro x os' (⟨hn,_,_⟩ | ⟨hn,k,rfl,rfl⟩)
  ·exact absurd hn hne
  try simp only[kX,jF,gM,zy0,zy6,ab,simprocAttr]
  rw[cE _ (by omega) (by omega)];have hp1:(i:Int)+1=((i+1:Nat):Int):=by omega
  simp only[hp1];refine .bT false [(1000000,6)] (kX 1000000 l k) [.view 1000000 [] 17 0 l.length,enc (i:Int),enc ((i+1:Nat):Int)] (CF l i) rfl (OS l i k hi (by omega)) ⟨?_,?_⟩ ⟨.inl ⟨?_,?_,rfl⟩,.inl ⟨rfl,rfl,rfl⟩,.inl ⟨rfl,rfl,rfl⟩,trivial⟩ ?_ ?_
  ·intro n x h;simp only[kX,ak] at h;split at h
   ·rename_i hn';subst hn';simp only[u8] at h;subst h;exact ⟨by simp only[jF,gM,ab,simprocAttr],xK _ _,rfl⟩
   ·cases h
  ·intro a b ha hb _;rw[dy.1 ha,dy.1 hb]
  ·try simp only[jF,simprocAttr]
  ·exact dy.2 rfl
  ·rintro x os' ⟨q,rfl,rfl⟩;exact eK.aiM (fun p=>xK p _) (fun h=>by cases h) rfl (fun h=>by cases h)
  ·rintro x os' ⟨q,rfl,rfl⟩;rw[←hdl];generalize hL:e7 l i=aC at hdl ⊢
   try simp only[kX,jF,gM,zy0,zy6,ab,simprocAttr]
   refine .done (hK _ ?_);clear hK K;refine J.ret ?_;simp only[ab,simprocAttr]
   try simp only[sK (α:=av) (sz:=17) rfl,ab,simprocAttr]
   rw[hL];simp
theorem OR(a b:List Int):aD Tryz.prog 134 [enc a,enc b] (enc (decide (a=b))):=by
 refine aD.bA Tryz.func134 Rq Te Vl (t7 rfl) (fun hwf W0 D0 E1 =>?_);simp only[AI,LG,bp,zz4];have hlen:a.length≤maxLen:=((lj a).1 hwf.1).1;simp only[maxLen] at hlen;clear hwf;by_cases hl:a.length=b.length
 case neg =>
  have hn:((a.length:Int) != (b.length:Int))=true:=by simp;omega
  have R:=v6 @hn (v6 @bG (v6 @aZ @ab))
  repeat' ((first |(with_reducible refine .guard (fun hb =>?_) (fun hb =>?_) <;>try simp only[hb])|refine J.aT (by decide +kernel) rfl fun K hK =>?_|(refine .aH [0,1,4,5,10,12,13,14,24] hK ?_;clear hK K)|(with_reducible refine .done (hK _ ?_);clear hK K)|refine J.of rfl ?_|(with_reducible refine aq.aQ (fun h =>?_) (fun h =>?_) <;>try simp only[h])) <;>try simp only[aU,R,simprocAttr])
  all_goals clear R
  have:¬ a=b:=fun e=>hl (by rw[e]);simp[this]
 have hn:((a.length:Int) != (b.length:Int))=false:=by simp;omega
 have R:=v6 @hn (v6 @bG (v6 @aZ @ab))
 repeat' ((first |(with_reducible refine .guard (fun hb =>?_) (fun hb =>?_) <;>try simp only[hb])|refine J.aT (by decide +kernel) rfl fun K hK =>?_|(refine .aH [0,1,4,5,10,12,13,14,24] hK ?_;clear hK K)|(with_reducible refine .done (hK _ ?_);clear hK K)|refine J.of rfl ?_|(with_reducible refine aq.aQ (fun h =>?_) (fun h =>?_) <;>try simp only[h])) <;>try simp only[aU,R,simprocAttr])
 all_goals clear R
 refine J.loop (fun i:Nat=>au [(0,enc a),(1,enc b),(12,.int .i64 a.length),(13,.int .i64 i)] []) (fun i=>i≤a.length∧∀ k,k<i→a[k]?=b[k]?) (fun i=>a.length-i) 0 ⟨zw7 _,fun k h=>by omega⟩ ?_ (fun i hi =>?_)
 ·refine aF.bM ?_ ?_ ?_ ?_ <;>simp[aX,bK,bJ,a8,aY,I.only,bt]
 obtain ⟨hi1,hi2⟩:=hi;by_cases hlt:i<a.length
 ·have hc:=ic hlt;have he:=fun A=>fH (A:=A) 1 hlt rfl;have hlt2:i<b.length:=by omega
  have he2:=fun A=>fH (A:=A) 1 hlt2 rfl;have hw:=fw (i:=i) (by omega);rcases hp:(a[i] != b[i])
  ·have R:=v6 @hc (v6 @he (v6 @he2 (v6 @hp (v6 @hw (v6 @jY (v6 @bG @ab))))))
   repeat' ((first |(with_reducible refine .guard (fun hb =>?_) (fun hb =>?_) <;>try simp only[hb])|refine J.aT (by decide +kernel) rfl fun K hK =>?_|(refine .aH [0,1,4,5,10,12,13,14,24] hK ?_;clear hK K)|(with_reducible refine .done (hK _ ?_);clear hK K)|refine J.of rfl ?_|(with_reducible refine aq.aQ (fun h =>?_) (fun h =>?_) <;>try simp only[h])) <;>try simp only[aU,R,simprocAttr])
   all_goals clear R
   refine ⟨i+1,⟨by omega,fun k hk =>?_⟩,by omega,?_⟩
   ·by_cases e:k=i
    ·subst e;have:a[k]=b[k]:=by simpa using hp
     simp[hlt,hlt2,this]
    ·exact hi2 k (by omega)
   ·refine aF.bM ?_ ?_ ?_ ?_ <;>simp[aX,bK,bJ,a8,aY,I.only,bt]
  ·have R:=v6 @hc (v6 @he (v6 @he2 (v6 @hp (v6 @jY (v6 @bG @ab)))))
   repeat' ((first |(with_reducible refine .guard (fun hb =>?_) (fun hb =>?_) <;>try simp only[hb])|refine J.aT (by decide +kernel) rfl fun K hK =>?_|(refine .aH [0,1,4,5,10,12,13,14,24] hK ?_;clear hK K)|(with_reducible refine .done (hK _ ?_);clear hK K)|refine J.of rfl ?_|(with_reducible refine aq.aQ (fun h =>?_) (fun h =>?_) <;>try simp only[h])) <;>try simp only[aU,R,simprocAttr])
   all_goals clear R
   have:¬ a=b:=fun e=>by subst e;simp at hp
   simp[this]
 ·have hc:=iW hlt;have R:=v6 @hc (v6 @bG @ab)
  repeat' ((first |(with_reducible refine .guard (fun hb =>?_) (fun hb =>?_) <;>try simp only[hb])|refine J.aT (by decide +kernel) rfl fun K hK =>?_|(refine .aH [0,1,4,5,10,12,13,14,24] hK ?_;clear hK K)|(with_reducible refine .done (hK _ ?_);clear hK K)|refine J.of rfl ?_|(with_reducible refine aq.aQ (fun h =>?_) (fun h =>?_) <;>try simp only[h])) <;>try simp only[aU,R,simprocAttr])
  all_goals clear R
  have:a=b:=List.ext_getElem? fun k=>by
   by_cases hk:k<i
   ·exact hi2 k hk
   ·rw[List.getElem?_eq_none (by omega),List.getElem?_eq_none (by omega)]
  simp[this]
def sj(b:aB):aR 8 Int:=⟨[b.no,b.cM,b.cz,b.bP,b.jO,b.born,b.cL,if b.found then 1 else 0],rfl⟩
theorem QT(a b c d e f g h:Int):(dX [.int .i64 0,.int .i64 0,.int .i64 0,.int .i64 0,.int .i64 0,.int .i64 0,.int .i64 0,.int .i64 0] [(0,.int .i64 a),(1,.int .i64 b),(2,.int .i64 c),(3,.int .i64 d),(4,.int .i64 e),(5,.int .i64 f),(6,.int .i64 g),(7,.int .i64 h)])=some [.int .i64 a,.int .i64 b,.int .i64 c,.int .i64 d,.int .i64 e,.int .i64 f,.int .i64 g,.int .i64 h]:=by simp[dX,I.b8,I.size]
theorem aj4{A:ae}{n:Nat}{w:I}{a b c d e f g h a' b' c' d' e' f' g' h':Int}{rest:List az} : dC A (some 8) n [] w (.agg [.int .i64 a,.int .i64 b,.int .i64 c,.int .i64 d,.int .i64 e,.int .i64 f,.int .i64 g,.int .i64 h]) rest (some (.agg [.int .i64 a',.int .i64 b',.int .i64 c',.int .i64 d',.int .i64 e',.int .i64 f',.int .i64 g',.int .i64 h'])) =
  ay rest (A.aL n (.box (.agg [.int .i64 a,.int .i64 b,.int .i64 c,.int .i64 d,.int .i64 e,.int .i64 f,.int .i64 g,.int .i64 h]))):=by
 refine (eg (s:=some 8) (by rfl) (by rfl) (by rfl)).trans ?_;rw[fv]
theorem aiJ{a b c d e f g h:Int} : bY (some 8) (.agg [.int .i64 a,.int .i64 b,.int .i64 c,.int .i64 d,.int .i64 e,.int .i64 f,.int .i64 g,.int .i64 h])=true:=rfl
theorem zk(b:aB):aD Tryz.prog 133 [.ref (enc (⟨b⟩:er))] (enc (sj b)):=by
 refine aD.bA Tryz.func133 Rp Td Vk (t7 rfl) (fun hwf W0 D0 E1 =>?_);simp only[AH,LF,bp];clear hwf;rcases hf:b.found
 all_goals
  have R:=v6 @hf (v6 @QT (v6 @aj4 (v6 @aiJ ep)))
  repeat' ((first |(with_reducible refine .guard (fun hb =>?_) (fun hb =>?_) <;>try simp only[hb])|refine J.aT (by decide +kernel) rfl fun K hK =>?_|(refine .aH [0,2,3,8] hK ?_;clear hK K)|(with_reducible refine .done (hK _ ?_);clear hK K)|refine J.of rfl ?_|(with_reducible refine aq.aQ (fun h =>?_) (fun h =>?_) <;>try simp only[h])) <;>try simp only[aU,R,simprocAttr])
  all_goals clear R
  simp[sj,hf];rfl
def jZ:Option aB→I
 |none=>.nilp
 |some b=>.ref (enc (⟨b⟩:er))
def oQ(m:b7):Option aB→Option aB→Bool
 |some a,some b=>decide ((sj a).l=(sj b).l)&&decide ((jc m a.cm).1=(jc m b.cm).1)
 |none,none=>true
 |_,_=>false
theorem yk:mL false (some true) (some false)=some (.bool false):=rfl
theorem PF(m:b7)(x y:Option aB):aD Tryz.prog 77 [enc m,jZ x,jZ y] (enc (oQ m x y)):=by
 rcases x with _ | a
 ·rcases y with _ | b
  all_goals
   simp only[jZ,oQ];refine aD.bA Tryz.func77 ve vg vr (t7 rfl) (fun hwf W0 D0 E1 =>?_);simp only[sv,tT,bp,zz4,Nat.reduceAdd];clear hwf;have R:=v6 @yk (v6 @sH (v6 @gK ep))
   repeat' ((first |(with_reducible refine .guard (fun hb =>?_) (fun hb =>?_) <;>try simp only[hb])|refine J.aT (by decide +kernel) rfl fun K hK =>?_|(refine .aH [0,1,2,3,6,7,13] hK ?_;clear hK K)|(with_reducible refine .done (hK _ ?_);clear hK K)|refine J.of rfl ?_|(with_reducible refine aq.aQ (fun h =>?_) (fun h =>?_) <;>try simp only[h])) <;>try simp only[aU,R,simprocAttr])
   all_goals clear R
 rcases y with _ | b
 ·simp only[jZ,oQ];refine aD.bA Tryz.func77 ve vg vr (t7 rfl) (fun hwf W0 D0 E1 =>?_);simp only[sv,tT,bp,zz4,Nat.reduceAdd];clear hwf;have R:=v6 @yk (v6 @sH (v6 @gK ep))
  repeat' ((first |(with_reducible refine .guard (fun hb =>?_) (fun hb =>?_) <;>try simp only[hb])|refine J.aT (by decide +kernel) rfl fun K hK =>?_|(refine .aH [0,1,2,3,6,7,13] hK ?_;clear hK K)|(with_reducible refine .done (hK _ ?_);clear hK K)|refine J.of rfl ?_|(with_reducible refine aq.aQ (fun h =>?_) (fun h =>?_) <;>try simp only[h])) <;>try simp only[aU,R,simprocAttr])
  all_goals clear R
 simp only[jZ,oQ];refine aD.bA Tryz.func77 ve vg vr (t7 rfl) (fun hwf W0 D0 E1 =>?_);simp only[sv,tT,bp,zz4,Nat.reduceAdd];clear hwf;have ha:=r3 m a;have hyB:=r3 m b;have h3:=zk a;have h4:=zk b;have R:=v6 @yk (v6 @sH (v6 @gK ep))
 repeat' ((first |(with_reducible refine .guard (fun hb =>?_) (fun hb =>?_) <;>try simp only[hb])|refine J.aT (by decide +kernel) rfl fun K hK =>?_|refine .flat _ (h3) rfl ?_|refine .flat _ (h4) rfl ?_|refine .lead _ (ha) ?_|refine .lead _ (hyB) ?_|refine .flat _ (OR _ _) rfl ?_|(refine .aH [0,1,2,3,6,7,13] hK ?_;clear hK K)|(with_reducible refine .done (hK _ ?_);clear hK K)|refine J.of rfl ?_|(with_reducible refine aq.aQ (fun h =>?_) (fun h =>?_) <;>try simp only[h])) <;>try simp only[aU,R,zy0,simprocAttr])
 all_goals clear R
 all_goals simp_all
def uf(m:b7)(l:List av)(no known:Int)(i:Nat):Bool := !oQ m (cW (cC l 100000 known) no) (cW (cC (e7 l i) 100000 known) no)
def jG(m:b7)(l:List av)(no known:Int)(n:Nat):List Item:=((List.range n).filter (uf m l no known)).map fun i=>(af l i).bN
theorem ajx(m:b7)(l:List av)(no known:Int)(n:Nat):jG m l no known (n+1)=jG m l no known n++if uf m l no known n then [(af l n).bN] else []:=by
 simp only[jG,List.range_succ,List.filter_append,zx6,zw1,zv9]
 congr 1
 split <;>rfl
theorem ajw(m:b7)(l:List av)(no known:Int)(n:Nat):(jG m l no known n).length≤n:=by
 simp only[jG,zy2];have:=zv4 (uf m l no known) (List.range n);simpa using this
def ug(m:b7)(l:List av)(no known:Int):List Item×Int:=if (lv m l no known).2=0 then (jG m l no known l.length,0) else ([],(lv m l no known).2)
theorem Qv{m:b7}{l:List av}{no known:Int}(h:(lv m l no known).2=0):dU l=true:=by
 simp only[lv] at h
 repeat' split at h
 all_goals first | (exact mi (by assumption)) | (simp_all;done) | exact mi h
theorem KZ(p:Nat→Bool)(x:Option aB):(jZ x).only p=true:=by cases x <;>simp[jZ,I.only,bt]
theorem tH{l:List av} : dU l=true↔l.length≤60∧(∀ x∈l,gi x=true)∧l.Pairwise fun a b=>before a.bN b.bN=true:=by
 constructor
 ·intro h;refine ⟨ru h,fun x hx =>?_,List.pairwise_iff_getElem.2 fun i j hi hj hij =>?_⟩
  ·obtain ⟨i,hi,rfl⟩:=List.getElem_of_mem hx;have:=x9 h hi
   rwa [←lG hi] at this
  ·have:=KG h hij hj
   rwa [←lG hi,←lG hj] at this
 ·rintro ⟨h1,h2,h3⟩;refine KE h1 fun i hi =>?_;simp only[kq,zz2,Bool.or_eq_true,decide_eq_true_eq];refine ⟨by rw[←lG hi];exact h2 _ (zy9 hi),?_⟩;by_cases h0:i=0
  ·exact .inl h0
  ·right
   have:=List.pairwise_iff_getElem.1 h3 (i-1) i (by omega) hi (by omega)
   rwa [lG,lG] at this
theorem aiy{l l':List av}(hs:l'.Sublist l)(h:dU l=true):dU l'=true:=by
 obtain ⟨h1,h2,h3⟩:=tH.1 h;exact tH.2 ⟨zv8 hs.length_le h1,fun x hx=>h2 x (hs.subset hx),h3.sublist hs⟩
theorem XJ(l:List av)(i:Nat):(e7 l i).Sublist l:=by
 have:=(zx2 i l)
 simp only[e7]
 conv=>rhs;rw[←this]
 refine List.Sublist.append_left ?_ _;rw[←List.drop_drop];exact List.drop_sublist _ _
theorem aix{l:List av}(hok:dU l=true)(i:Nat):dU (e7 l i)=true:=aiy (XJ l i) hok
theorem Pk(m:b7)(l:List av)(no known:Int):aD Tryz.prog 18 [enc m,enc l,enc no,enc known] (.tuple [enc (ug m l no known).1,enc (ug m l no known).2]):=by
 refine aD.bA Tryz.func18 RW TN VT (t7 rfl) (fun hwf W0 D0 E1 =>?_);simp only[Bi,Mf,bp,zz4,Nat.reduceAdd];clear hwf;have hC:=uJ m l no known;simp only[ug];have hok0:=Qv (m:=m) (l:=l) (no:=no) (known:=known);generalize lv m l no known=e at hC hok0 ⊢;obtain ⟨e1,e2⟩:=e;simp only at hC hok0 ⊢;by_cases he:e2=0
 case neg =>
  have hn:=nF he;have R:=v6 @hn (v6 @he (v6 @gK ep))
  repeat' ((first |(with_reducible refine .guard (fun hb =>?_) (fun hb =>?_) <;>try simp only[hb])|refine J.aT (by decide +kernel) rfl fun K hK =>?_|refine .lead _ (hC) ?_|(refine .aH [0,1,2,3,4,8,9,11,12,13,14,15,25,35,36,37,38,55] hK ?_;clear hK K)|(with_reducible refine .done (hK _ ?_);clear hK K)|refine J.of rfl ?_|(with_reducible refine aq.aQ (fun h =>?_) (fun h =>?_) <;>try simp only[h])) <;>try simp only[aU,R,simprocAttr])
  all_goals clear R
  all_goals rfl
 have hn:=nE he;have hok:=hok0 he;subst he;have hF:=o9 l known hok;have hk:=pO (cC l 100000 known) no;have hx:gq (.i .i64) .nilp (.int .i64 no) (dc (cC l 100000 known)) ((cC l 100000 known).map fun b=>.ref (enc (⟨b⟩:er)))=some (jZ (cW (cC l 100000 known) no),(cW (cC l 100000 known) no).isSome):=by
  rw[hk];cases cW (cC l 100000 known) no <;>rfl
 have hlen:=ru hok;have R:=v6 @hn (v6 @hx (v6 @gK ep))
 repeat' ((first |(with_reducible refine .guard (fun hb =>?_) (fun hb =>?_) <;>try simp only[hb])|refine J.aT (by decide +kernel) rfl fun K hK =>?_|refine .lead _ (hC) ?_|refine .lead _ (hF) ?_|(refine .aH [0,1,2,3,4,8,9,11,12,13,14,15,25,35,36,37,38,55] hK ?_;clear hK K)|(with_reducible refine .done (hK _ ?_);clear hK K)|refine J.of rfl ?_|(with_reducible refine aq.aQ (fun h =>?_) (fun h =>?_) <;>try simp only[h])) <;>try simp only[aU,R,simprocAttr])
 all_goals clear R
 refine J.loop (fun i:Nat=>au [(1,enc l),(2,.int .i64 no),(3,.int .i64 known),(4,.ptr 4 []),(12,jZ (cW (cC l 100000 known) no)),(13,.own 913 (jG m l no known i).length),(35,enc l),(36,.int .i64 l.length),(37,.int .i64 i)] [(4,.box (enc m)),(913,.bX 65 2 ((jG m l no known i).map enc))]) (fun i=>i≤l.length) (fun i=>l.length-i) 0 (zw7 _) ?_ (fun i hi =>?_)
 ·refine aF.qu 13 913 65 2 2 rfl rfl ?_;simp only[jG,List.range_zero,zv9,zx1,List.length_nil];refine aF.bM ?_ ?_ ?_ ?_ <;>simp[*,aX,bK,bJ,a8,al,aY,cu,I.only,I.bU,ai.only,bt,KZ]
 have hRl:=ajw m l no known i;by_cases hlt:i<l.length
 ·have hc:=ic hlt;have he:=fun A=>ny (A:=A) hlt;have hw:=fw (i:=i) (by omega);have hD:=PG l i hlt hlen;have hokd:=aix hok i;have hF2:=o9 (e7 l i) known hokd;have hk2:=pO (cC (e7 l i) 100000 known) no;have hx2:gq (.i .i64) .nilp (.int .i64 no) (dc (cC (e7 l i) 100000 known)) ((cC (e7 l i) 100000 known).map fun b=>.ref (enc (⟨b⟩:er)))=some (jZ (cW (cC (e7 l i) 100000 known) no),(cW (cC (e7 l i) 100000 known) no).isSome):=by
   rw[hk2];cases cW (cC (e7 l i) 100000 known) no <;>rfl
  have hS:=PF m (cW (cC l 100000 known) no) (cW (cC (e7 l i) 100000 known) no);have hsu:=ajx m l no known i;have hp:uf m l no known i = !oQ m (cW (cC l 100000 known) no) (cW (cC (e7 l i) 100000 known) no):=rfl;rw[hp] at hsu;generalize oQ m (cW (cC l 100000 known) no) (cW (cC (e7 l i) 100000 known) no)=b at hS hsu;have happ:=fun (A:ae) d rest=>m7 (α:=Item) (A:=A) (d:=d) 65 2 16 913 (l:=(jG m l no known i).length) (es:=jG m l no known i) (ys:=[(af l i).bN]) (rest:=rest) rfl rfl (by simp) (by simp[maxLen];omega) (by simp;omega);have hbs:=qD 2 (af l i).bN rfl;have hol:(∀ aA A x,a7 aA A (jZ x)=some (jZ x)):=fun aA A x=>by cases x <;>simp[jZ,a7,eb]
  cases b
  all_goals
   simp only[Bool.not_true,Bool.not_false,if_true,zz6,if_false,zx8] at hsu;have R:=v6 @hc (v6 @he (v6 @hw (v6 @hx2 (v6 @happ (v6 @hbs (v6 @hol (v6 @gK ep)))))))
   repeat' ((first |(with_reducible refine .guard (fun hb =>?_) (fun hb =>?_) <;>try simp only[hb])|refine J.aT (by decide +kernel) rfl fun K hK =>?_|refine .lead _ (hD) ?_|refine .lead _ (hF2) ?_|refine .flat _ (hS) rfl ?_|(refine .aH [0,1,2,3,4,8,9,11,12,13,14,15,25,35,36,37,38,55] hK ?_;clear hK K)|(with_reducible refine .done (hK _ ?_);clear hK K)|refine J.of rfl ?_|(with_reducible refine aq.aQ (fun h =>?_) (fun h =>?_) <;>try simp only[h])) <;>try simp only[aU,R,simprocAttr])
   all_goals clear R
   refine ⟨i+1,by omega,by omega,?_⟩;simp only[hsu];refine aF.bM ?_ ?_ ?_ ?_ <;>simp[*,aX,bK,bJ,a8,al,aY,cu,I.only,I.bU,ai.only,ej,gz,bt,KZ]
 ·have hc:=iW hlt;have hie:i=l.length:=by omega
  subst hie;have hfo:oa (jG m l no known l.length).length (some (.bX 65 2 ((jG m l no known l.length).map enc)))=some (enc (jG m l no known l.length)):=my 2 rfl rfl;have R:=v6 @hc (v6 @hfo (v6 @bG (v6 @aZ @ab)))
  repeat' ((first |(with_reducible refine .guard (fun hb =>?_) (fun hb =>?_) <;>try simp only[hb])|refine J.aT (by decide +kernel) rfl fun K hK =>?_|(refine .aH [0,1,2,3,4,8,9,11,12,13,14,15,25,35,36,37,38,55] hK ?_;clear hK K)|(with_reducible refine .done (hK _ ?_);clear hK K)|refine J.of rfl ?_|(with_reducible refine aq.aQ (fun h =>?_) (fun h =>?_) <;>try simp only[h])) <;>try simp only[aU,R,simprocAttr])
  all_goals clear R
theorem Pv(a b:List Item):aD Tryz.prog 21 [enc a,enc b] (enc (decide (a=b))):=by
 refine aD.bA Tryz.func21 R7 TY V4 (t7 rfl) (fun hwf W0 D0 E1 =>?_);simp only[Bu,Mq,bp,zz4];have hlen:a.length≤maxLen:=((lj a).1 hwf.1).1;simp only[maxLen] at hlen;clear hwf;by_cases hl:a.length=b.length
 case neg =>
  have hn:((a.length:Int) != (b.length:Int))=true:=by simp;omega
  have R:=v6 @hn (v6 @bG (v6 @aZ @ab))
  repeat' ((first |(with_reducible refine .guard (fun hb =>?_) (fun hb =>?_) <;>try simp only[hb])|refine J.aT (by decide +kernel) rfl fun K hK =>?_|(refine .aH [0,1,4,5,10,14,25] hK ?_;clear hK K)|(with_reducible refine .done (hK _ ?_);clear hK K)|refine J.of rfl ?_|(with_reducible refine aq.aQ (fun h =>?_) (fun h =>?_) <;>try simp only[h])) <;>try simp only[aU,R,simprocAttr])
  all_goals clear R
  have:¬ a=b:=fun e=>hl (by rw[e]);simp[this]
 have hn:((a.length:Int) != (b.length:Int))=false:=by simp;omega
 have R:=v6 @hn (v6 @bG (v6 @aZ @ab))
 repeat' ((first |(with_reducible refine .guard (fun hb =>?_) (fun hb =>?_) <;>try simp only[hb])|refine J.aT (by decide +kernel) rfl fun K hK =>?_|(refine .aH [0,1,4,5,10,14,25] hK ?_;clear hK K)|(with_reducible refine .done (hK _ ?_);clear hK K)|refine J.of rfl ?_|(with_reducible refine aq.aQ (fun h =>?_) (fun h =>?_) <;>try simp only[h])) <;>try simp only[aU,R,simprocAttr])
 all_goals clear R
 refine J.loop (fun i:Nat=>au [(0,enc a),(1,enc b),(5,.int .i64 i)] []) (fun i=>i≤a.length∧∀ k,k<i→a[k]?=b[k]?) (fun i=>a.length-i) 0 ⟨zw7 _,fun k h=>by omega⟩ ?_ (fun i hi =>?_)
 ·refine aF.bM ?_ ?_ ?_ ?_ <;>simp[aX,bK,bJ,a8,aY,I.only,bt]
 obtain ⟨hi1,hi2⟩:=hi;by_cases hlt:i<a.length
 ·have hc:=ic hlt;have he:=fun A=>fH (A:=A) 2 hlt rfl;have hlt2:i<b.length:=by omega
  have he2:=fun A=>fH (A:=A) 2 hlt2 rfl;have hw:=fw (i:=i) (by omega);rcases hp:decide (a[i]=b[i])
  ·have R:=v6 @hc (v6 @he (v6 @he2 (v6 @hp (v6 @jY (v6 @bG (v6 @aZ @ab))))))
   repeat' ((first |(with_reducible refine .guard (fun hb =>?_) (fun hb =>?_) <;>try simp only[hb])|refine J.aT (by decide +kernel) rfl fun K hK =>?_|(refine .aH [0,1,4,5,10,14,25] hK ?_;clear hK K)|(with_reducible refine .done (hK _ ?_);clear hK K)|refine J.of rfl ?_|(with_reducible refine aq.aQ (fun h =>?_) (fun h =>?_) <;>try simp only[h])) <;>try simp only[aU,R,simprocAttr])
   all_goals clear R
   have:¬ a=b:=fun e=>by subst e;simp at hp
   simp[this]
  ·have R:=v6 @hc (v6 @he (v6 @he2 (v6 @hp (v6 @hw (v6 @jY (v6 @bG (v6 @aZ @ab)))))))
   repeat' ((first |(with_reducible refine .guard (fun hb =>?_) (fun hb =>?_) <;>try simp only[hb])|refine J.aT (by decide +kernel) rfl fun K hK =>?_|(refine .aH [0,1,4,5,10,14,25] hK ?_;clear hK K)|(with_reducible refine .done (hK _ ?_);clear hK K)|refine J.of rfl ?_|(with_reducible refine aq.aQ (fun h =>?_) (fun h =>?_) <;>try simp only[h])) <;>try simp only[aU,R,simprocAttr])
   all_goals clear R
   refine ⟨i+1,⟨by omega,fun k hk =>?_⟩,by omega,?_⟩
   ·by_cases e:k=i
    ·subst e;have:a[k]=b[k]:=by simpa using hp
     simp[hlt,hlt2,this]
    ·exact hi2 k (by omega)
   ·refine aF.bM ?_ ?_ ?_ ?_ <;>simp[aX,bK,bJ,a8,aY,I.only,bt]
 ·have hc:=iW hlt;have R:=v6 @hc (v6 @bG (v6 @aZ @ab))
  repeat' ((first |(with_reducible refine .guard (fun hb =>?_) (fun hb =>?_) <;>try simp only[hb])|refine J.aT (by decide +kernel) rfl fun K hK =>?_|(refine .aH [0,1,4,5,10,14,25] hK ?_;clear hK K)|(with_reducible refine .done (hK _ ?_);clear hK K)|refine J.of rfl ?_|(with_reducible refine aq.aQ (fun h =>?_) (fun h =>?_) <;>try simp only[h])) <;>try simp only[aU,R,simprocAttr])
  all_goals clear R
  have:a=b:=List.ext_getElem? fun k=>by
   by_cases hk:k<i
   ·exact hi2 k hk
   ·rw[List.getElem?_eq_none (by omega),List.getElem?_eq_none (by omega)]
  simp[this]
def jN(a b c d e f:Int):aR 6 Int:=⟨[a,b,c,d,e,f],rfl⟩
def Qq(a b c d e:Int):aR 5 Int:=⟨[a,b,c,d,e],rfl⟩
def lH(n k d kn b cz s o:Int)(r:aR 6 Int)(f:Int):av:=⟨⟨0,n⟩,k,d,kn,b,cz,s,o,r,⟨0,f⟩⟩
def iV:List av:=[lH 0 1 1 1 10 0 3 2 (jN 0 0 0 0 0 0) 0,lH 1 1 5 5 11 10 3 2 (jN 0 0 0 0 0 0) 0,lH 2 2 6 6 20 0 3 0 (jN 0 0 0 0 0 0) 0,lH 3 4 6 6 20 0 0 0 (jN 31 1 1 1 1 31) 0,lH 4 3 7 7 10 0 0 1 (jN 0 0 0 0 0 0) 0,
 lH 5 4 6 9 20 0 0 0 (jN 24 1 1 1 1 31) 0,lH 6 5 10 10 20 0 0 3 (jN 0 0 0 0 0 0) 0,lH 7 4 8 11 11 0 0 0 (jN 1 1 1 1 1 1) 0,lH 8 6 12 12 10 0 0 0 (jN 0 0 0 0 0 0) 0,lH 9 0 0 14 0 0 0 0 (jN 0 0 0 0 0 0) 5]
def lI:b7:=⟨Qq 1 3 4 24 24,0,[⟨1,jN 0 0 0 0 0 0⟩,⟨2,jN 2 0 0 0 0 0⟩,⟨3,jN 3 0 0 0 0 2⟩]⟩
theorem PH:aD Tryz.prog 81 [] (enc iV):=by
 refine aD.bA Tryz.func81 SA Us Ww (t7 rfl) (fun hwf W0 D0 E1 =>?_);simp only[BV,MT,bp];clear hwf;refine .ao (by decide +kernel) fun K hK =>?_;simp only[Io,ab,simprocAttr];refine .done (hK _ ?_);clear hK K;refine .ao (by decide +kernel) fun K hK =>?_;simp only[Ip,ab,simprocAttr]
 try simp only[dX,I.b8,I.size,I.sizes,List.set_cons_zero,List.set_cons_succ,List.getElem?_cons_zero,List.getElem?_cons_succ,and_self,ab,simprocAttr]
 simp only[iw];rw[if_pos ⟨by rfl,by rfl⟩]
 try simp only[ab,simprocAttr]
 refine .done (hK _ ?_);clear hK K;refine J.ret ?_;simp only[ab,simprocAttr]
 try simp only[zw3,ab,simprocAttr]
 rfl
theorem PI:aD Tryz.prog 82 [] (enc lI):=by
 refine aD.bA Tryz.func82 SB Ut Wx (t7 rfl) (fun hwf W0 D0 E1 =>?_);simp only[BW,MU,bp];clear hwf;refine .ao (by decide +kernel) fun K hK =>?_;simp only[Iq,ab,simprocAttr];refine .done (hK _ ?_);clear hK K;refine .ao (by decide +kernel) fun K hK =>?_;simp only[Ir,ab,simprocAttr]
 try simp only[dX,I.b8,I.size,I.sizes,List.set_cons_zero,List.set_cons_succ,List.getElem?_cons_zero,List.getElem?_cons_succ,and_self,ab,simprocAttr]
 simp only[iw];rw[if_pos ⟨by rfl,by rfl⟩]
 try simp only[dX,I.b8,I.size,I.sizes,List.set_cons_zero,List.set_cons_succ,List.getElem?_cons_zero,List.getElem?_cons_succ,and_self,ab,simprocAttr]
 rw[eg (by rfl) (by rfl) (by rfl)]
 try simp only[fv,ab,simprocAttr]
 refine .done (hK _ ?_);clear hK K;refine J.ret ?_;simp only[ab,simprocAttr];rw[if_pos (by rfl)]
 try simp only[zw3,ab,simprocAttr]
 rfl
def ou(x:Int):List Int→List Int
 | []=>[x]
 |y::l=>if x≤y then x::y::l else y::ou x l
def lN:List Int→List Int
 | []=>[]
 |x::l=>ou x (lN l)
theorem xi(x:Int):∀ l,(ou x l).Perm (x::l)
 | []=>.refl _
 |y::l=>by
  simp only[ou];split
  ·exact .refl _
  ·exact ((xi x l).cons y).trans (.swap x y l)
theorem Jz(x:Int):∀ l:List Int,l.Pairwise (· ≤ ·)→(ou x l).Pairwise (· ≤ ·)
 | [],_=>by simp[ou]
 |y::l,h=>by
  obtain ⟨h1,h2⟩:=List.pairwise_cons.1 h;simp only[ou];split
  ·rename_i hxy;refine List.pairwise_cons.2 ⟨fun z hz =>?_,h⟩;rcases zw4.1 hz with rfl | hz
   ·exact hxy
   ·have:=h1 z hz;omega
  ·refine List.pairwise_cons.2 ⟨fun z hz =>?_,Jz x l h2⟩;rcases zw4.1 ((xi x l).mem_iff.1 hz) with rfl | hz
   ·omega
   ·exact h1 z hz
theorem JH:∀ l,(lN l).Perm l
 | []=>.refl _
 |x::l=>(xi x _).trans ((JH l).cons x)
theorem JI:∀ l,(lN l).Pairwise (· ≤ ·)
 | []=>.nil
 |x::l=>Jz x _ (JI l)
theorem aj3{a b:List Int}(ha:a.Pairwise (· ≤ ·))(hb:b.Pairwise (· ≤ ·))(h:a.Perm b):a=b :=
 List.Perm.eq_of_pairwise (fun x y _ _ h k=>Int.le_antisymm h k) ha hb h
theorem aj0(l:List Int):(dJ l).Pairwise (· ≤ ·):=by
 have hx:=List.pairwise_mergeSort (le:=fun x y:Int=>decide (x≤y)) (by intro a b c;simp;omega) (by intro a b;simp;omega) l;exact hx.imp fun {a b} h=>by simpa using h
theorem qg(l:List Int):(dJ l).Perm l:=List.mergeSort_perm _ _
theorem NS(l:List Int):dJ l=lN l:=aj3 (aj0 l) (JI l) ((qg l).trans (JH l).symm)
theorem Yl:np iV 10 6 7=(2,0):=by decide +kernel
theorem Ym:lv lI iV 20 9=([3],0):=by decide +kernel
theorem Yn:lv lI iV 20 14=([1,2,3],0):=by decide +kernel
theorem Yo:rV lI iV 11=([11],0):=by
 simp only[rV,NS];decide +kernel
theorem Yp:pw iV 2 3 7 7=(1,0):=by decide +kernel
theorem Yq:nV iV 12 12=([11,20],0):=by
 simp only[nV,NS];decide +kernel
theorem Yr:ug lI iV 20 9=([⟨0,2⟩,⟨0,5⟩],0):=by decide +kernel
theorem QV(b:Int):dX [.int .i64 0,.int .i64 0] [(1,.int .i64 b)]=some [.int .i64 0,.int .i64 b]:=by simp[dX,I.b8,I.size]
theorem Q4(a b c d:Int):iw 2 (some [.agg [.int .i64 a,.int .i64 b],.agg [.int .i64 c,.int .i64 d]])=some (enc ([⟨a,b⟩,⟨c,d⟩]:List Item)):=m9 (ys:=([⟨a,b⟩,⟨c,d⟩]:List Item)) 2 rfl
theorem Q3(a b c:Int):iw 1 (some [.int .i64 a,.int .i64 b,.int .i64 c])=some (enc [a,b,c]):=m9 (ys:=[a,b,c]) 1 rfl
theorem aj9{A:ae}{n:Nat}{b:I}(m:b7)(x y z:I){rest:List az}(h:I.aO (.agg [x,y,z])=Enc.aO b7):dC A (some 7) n [] b (enc m) rest (some (.agg [x,y,z]))=ay rest (A.aL n (.box (enc m))):=by
 refine (eg (s:=some 7) (dO _) (by rw[fQ];rfl) ((eO m).trans h.symm)).trans ?_;rw[fv]
theorem zA:aD Tryz.prog 22 [] (enc true):=by
 have h1:=zE iV 10 6 7;have h2:=uJ lI iV 20 9;have h3:=uJ lI iV 20 14;have h4:=O2 lI iV 11;have h5:=zF iV 2 3 7 7;have h6:=zD iV 12 12;have h7:=Pk lI iV 20 9;rw[Yl] at h1;rw[Ym] at h2;rw[Yn] at h3;rw[Yo] at h4;rw[Yp] at h5;rw[Yq] at h6;rw[Yr] at h7;simp only at h1 h2 h3 h4 h5 h6 h7;have h8:=fun a b=>zw a b;refine aD.bA Tryz.func22 Sc T5 V9 (t7 rfl) (fun hwf W0 D0 E1 =>?_);simp only[Bz,Mv,bp];clear hwf;have hst:=fun (A:ae) (rest:List az)=>aj9 (A:=A) (n:=2) (b:=.agg [.agg [.int .i64 0,.int .i64 0,.int .i64 0,.int .i64 0,.int .i64 0],.int .i64 0,.nils 7]) lI (.agg [.int .i64 0,.int .i64 0,.int .i64 0,.int .i64 0,.int .i64 0]) (.int .i64 0) (.nils 7) (rest:=rest) rfl;have q1:((2:Int)==2)=true:=rfl;have q2:((1:Int)==1)=true:=rfl;have q3:((0:Int)==0)=true:=rfl;have R:=v6 @hst (v6 @q1 (v6 @q2 (v6 @q3 (v6 @gK (v6 @QV (v6 @Q4 (v6 @mg (v6 @qE (v6 @Q3 (v6 @aZ @ab))))))))))
 repeat' ((first |(with_reducible refine .guard (fun hb =>?_) (fun hb =>?_) <;>try simp only[hb])|refine J.aT (by decide +kernel) rfl fun K hK =>?_|refine .lead _ (PH) ?_|refine .lead _ (PI) ?_|refine .flat _ (h1) rfl ?_|refine .lead _ (h2) ?_|refine .lead _ (h3) ?_|refine .lead _ (h4) ?_|refine .flat _ (h5) rfl ?_|refine .lead _ (h6) ?_|refine .lead _ (h7) ?_|refine .flat _ (zw _ _) rfl ?_|refine .flat _ (Pv _ _) rfl ?_|(refine .aH [0,1,2,3,4,5,6,7,8,9,10,11,12,13,14,15,16,17] hK ?_;clear hK K)|(with_reducible refine .done (hK _ ?_);clear hK K)|refine J.of rfl ?_|(with_reducible refine aq.aQ (fun h =>?_) (fun h =>?_) <;>try simp only[h])) <;>try simp only[aU,R,decide_true,simprocAttr])
 all_goals clear R
 all_goals trace_state
theorem U1(k:Nat):∀ n,eM (fun i=>i==k) n=if k<n then 1 else 0
 |0=>by simp[eM]
 |n+1=>by
  simp only[eM,U1 k n];by_cases h:n=k
  ·subst h;simp
  ·have h2:(n==k)=false:=by simp[h]
   simp only[h2,zz6,if_false];by_cases h3:k<n
   ·rw[if_pos h3,if_pos (by omega)]
   ·rw[if_neg h3,if_neg (by omega)]
theorem KO{r:aR 6 Int}(h:gZ r=true){j:Nat}(hj:j<6):1≤r.g j∧r.g j≤31:=by
 simp only[gZ,zy8,zx5] at h;have:=h j hj;simpa only[bS,zz2,decide_eq_true_eq] using this
theorem KP{r:aR 6 Int}(h:∀ j,j<6→1≤r.g j∧r.g j≤31):gZ r=true:=by
 simp only[gZ,zy8,zx5];intro j hj;simp[bS,h j hj]
def rv(r:aR 6 Int)(j:Nat):Prop:=∃ k:Nat,k<5∧r.g j=shl 1 k
theorem aiB{r:aR 6 Int}(h:∀ j,j<6→rv r j):gZ r=true:=KP fun j hj=>by
 obtain ⟨k,hk,e⟩:=h j hj;rw[e];exact ajT ⟨k,hk⟩
theorem Kf{w:Int} : ∀ n,∀ x∈gH w n,gQ w x.toNat=true
 |0=>by simp[gH]
 |n+1=>by
  intro x hx;simp only[gH,zy1] at hx;rcases hx with hx | hx
  ·exact Kf n x hx
  ·split at hx
   ·rename_i h;simp only[zw5] at hx;subst hx;simpa using h
   ·cases hx
theorem akF{w:aR 5 Int}{a:aR 6 Int}(hw:hE w=true)(ha:dV a=true)(c:List Int){j:Nat}(hj:j<6):∃ k:Nat,k<5∧rU w a c j=shl 1 k∧gQ (w.g (a.g j).toNat) k=true:=by
 have a1:=nG ha hj;have a2:=KQ hw (show (a.g j).toNat<5 by omega);have hp:0<(jk w a j).length:=List.length_pos_of_mem (xP a2.2 5 (by omega));have hc:=CD c j hp;have hm:(jk w a j).getD (lD c j (jk w a j).length) 0∈jk w a j:=by rw[zz1,zz8 hc];exact zy9 hc
 have h1:=xN 5 _ hm;exact ⟨((jk w a j).getD (lD c j (jk w a j).length) 0).toNat,by omega,rfl,Kf 5 _ hm⟩
theorem Oy(w:aR 5 Int)(a:aR 6 Int)(c:List Int):∀ n,n≤6→∀ j,j<n→(ka w a c n).g j=rU w a c j
 |0,_=>fun j h=>absurd h (by omega)
 |n+1,hn=>fun j hj=>by
  simp only[ka];rw[oh _ _ _ _ (by omega)];split
  ·rename_i e;subst e;rfl
  ·exact Oy w a c n (by omega) j (by omega)
theorem akG{w:aR 5 Int}{a:aR 6 Int}(hw:hE w=true)(ha:dV a=true)(c:List Int):∀ j,j<6→rv (ka w a c 6) j:=fun j hj=>by
 obtain ⟨k,hk,e,_⟩:=akF hw ha c hj;exact ⟨k,hk,by rw[Oy w a c 6 (zz7 _) j hj,e]⟩
def kP(c:List Int)(p q:Int)(x:aR 6 Int):Nat→aR 6 Int
 |0=>x
 |i+1=>gN (kP c p q x i) (bN c (i+p)%6).toNat (shl 1 (bN c (i+q)%5).toNat)
theorem tv(n:Int):0≤n%6∧n%6<6:=⟨zw8 _ (by decide),zv6 _ (by decide)⟩
theorem Kk(n:Int):0≤n%5∧n%5<5:=⟨zw8 _ (by decide),zv6 _ (by decide)⟩
theorem Ki(n:Int):0≤n%32∧n%32<32:=⟨zw8 _ (by decide),zv6 _ (by decide)⟩
theorem C8{c:List Int}{p q:Int}{x:aR 6 Int}(h:∀ j,j<6→rv x j):∀ n,∀ j,j<6→rv (kP c p q x n) j
 |0=>h
 |n+1=>fun j hj=>by
  have h6:=tv (bN c (n+p));have h5:=Kk (bN c (n+q));simp only[kP,rv];rw[oh _ _ _ _ (by omega)];split
  ·exact ⟨_,by omega,rfl⟩
  ·exact C8 h n j hj
theorem Q0:∀ y z:Fin 32,0≤kd (y.1:Int) (z.1:Int)∧kd (y.1:Int) (z.1:Int)≤31∧((y.1:Int)≠0→kd (y.1:Int) (z.1:Int)≠0):=by decide +kernel
theorem Q1{y z:Int}(hy:1≤y∧y≤31)(hz:0≤z∧z<32):1≤kd y z∧kd y z≤31:=by
 have:=Q0 ⟨y.toNat,by omega⟩ ⟨z.toNat,by omega⟩;simp only[show ((y.toNat:Nat):Int)=y by omega,show ((z.toNat:Nat):Int)=z by omega] at this;have:=this.2.2 (by omega);omega
def jV(c:List Int)(x:aR 6 Int):Nat→aR 6 Int
 |0=>x
 |i+1=>gN (jV c x i) (bN c (i+7)%6).toNat (kd ((jV c x i).g (bN c (i+7)%6).toNat) (bN c (i+3)%32))
theorem Kl{c:List Int}{x:aR 6 Int}(h:gZ x=true):∀ n,gZ (jV c x n)=true
 |0=>h
 |n+1=>KP fun j hj=>by
  have h6:=tv (bN c (n+7));have ih:=Kl (c:=c) h n;simp only[jV];rw[oh _ _ _ _ (by omega)];split
  ·exact Q1 (KO ih (by omega)) (Ki _)
  ·exact KO ih hj
def rK(m:b7)(a:aR 6 Int)(c:List Int):aR 6 Int:=jV c (kP c 2 5 (ka m.eR a c 6) m.eP.toNat) (bN c 1%4).toNat
theorem ajM{m:b7}{a:aR 6 Int}(hw:hE m.eR=true)(ha:dV a=true)(c:List Int):gZ (rK m a c)=true :=
 Kl (aiB (C8 (akG hw ha c) _)) _
theorem KI{m:b7}(h:ez m=true):hE m.eR=true∧0≤m.eP∧m.eP≤2:=by
 simp only[ez,zz2,bS,decide_eq_true_eq] at h;exact ⟨h.1,h.2.1.1,h.2.1.2⟩
theorem Jr{m:b7}(h:ez m=true){k:Nat}(hk:k<m.given.length):dV (c4 m k).mark=true:=by rw[←ju hk];exact KM h _ (zy9 hk)
theorem WO(c:List Int)(i:Nat){n:Nat}(hn:0<n)(h5:n≤1000):bN c i%(n:Int)=((lD c i n:Nat):Int):=by
 unfold lD bN;split
 ·rename_i h;subst h;simp
 ·rename_i h;have hp:0<c.length:=List.length_pos_iff.2 h;have e:((i:Int)%(c.length:Int)).toNat=i%c.length:=by omega
  rw[if_pos hp,e];generalize c.getD (i%c.length) 0=x;obtain ⟨_,h2⟩:=y6 x n (by omega) (by omega);rw[h2];have:=zw8 x (show (n:Int)≠0 by omega);omega
theorem PR(w:aR 5 Int)(a:aR 6 Int)(cuts:List Int)(hl:cuts.length≤4611686018427387904):aD Tryz.prog 98 [enc w,enc a,enc cuts] (.tuple [enc (o8 w a cuts).1,enc (o8 w a cuts).2]):=by
 refine aD.bA Tryz.func98 SO UG WL (t7 rfl) (fun hwf W0 D0 E1 =>?_);simp only[Cb,M8,bp,zz4,Nat.reduceAdd];refine .ao (by decide +kernel) fun K hK =>?_;simp only[I2,ab,simprocAttr]
 try simp only[dO,n9,ab,simprocAttr]
 refine .done (hK _ ?_);clear hK K;refine J.seq (J.seq ?_);refine .bu (by decide +kernel) fun K hK =>?_;simp only[I3,ab,simprocAttr]
 try simp only[cG,cZ,ab,simprocAttr]
 refine .flat _ (PT w) rfl ?_
 try simp only[ab,simprocAttr]
 refine .done (hK _ ?_);clear hK K;try simp only[ar]
 generalize hw:hE w=bw;cases bw
 ·refine J.bH ?_;simp only[aq,ab,simprocAttr];refine ⟨fun h =>?_,fun h =>?_⟩
  ·refine .ao (by decide +kernel) fun K hK =>?_;simp only[I6,ab,simprocAttr]
   try simp only[dX,n9,qj,ab,simprocAttr]
   refine .done (hK _ ?_);clear hK K;refine J.ret ?_;simp only[ar,ab,simprocAttr]
   try simp only[cG,cZ,ab,simprocAttr]
   simp[o8,hw]
  ·simp at h
 refine J.bH ?_;simp only[aq,ab,simprocAttr];refine ⟨fun h =>?_,fun h =>?_⟩
 ·simp at h
 refine J.skip ?_;try simp only[ar,simprocAttr]
 refine J.seq (J.seq ?_);refine .bu (by decide +kernel) fun K hK =>?_;simp only[I7,ab,simprocAttr]
 try simp only[cG,cZ,ab,simprocAttr]
 refine .flat _ (OG a) rfl ?_
 try simp only[ab,simprocAttr]
 refine .done (hK _ ?_);clear hK K;try simp only[ar]
 generalize ha:dV a=ba;cases ba
 ·refine J.bH ?_;simp only[aq,ab,simprocAttr];refine ⟨fun h =>?_,fun h =>?_⟩
  ·refine .ao (by decide +kernel) fun K hK =>?_;simp only[I8,ab,simprocAttr]
   try simp only[dX,n9,qj,ab,simprocAttr]
   refine .done (hK _ ?_);clear hK K;refine J.ret ?_;simp only[ar,ab,simprocAttr]
   try simp only[cG,cZ,ab,simprocAttr]
   simp[o8,hw,ha]
  ·simp at h
 refine J.bH ?_;simp only[aq,ab,simprocAttr];refine ⟨fun h =>?_,fun h =>?_⟩
 ·simp at h
 refine J.skip ?_;try simp only[ar,simprocAttr]
 refine .ao (by decide +kernel) fun K hK =>?_;simp only[I9,ab,simprocAttr]
 try simp only[n9,simprocAttr]
 refine .done (hK _ ?_);clear hK K;refine J.seq (J.seq ?_);refine .bu (by decide +kernel) fun K hK =>?_;simp only[Ja,ab,simprocAttr];refine .done (hK _ ?_);clear hK K;try simp only[ar]
 refine J.block (J.loop (fun i:Nat=>au [(2,enc cuts),(3,.ptr 3 []),(4,.ptr 4 []),(6,.ptr 6 []),(8,.ptr 8 []),(9,.int .i64 i)] [(3,.box (enc w)),(4,.box (enc a)),(6,.box (enc ln)),(8,.box (enc (ka w a cuts i)))]) (fun i=>i≤6) (fun i=>6-i) 0 (by omega) ?_ (fun i hi =>?_))
 ·simp only[ka];refine aF.bM ?_ ?_ ?_ ?_ <;>simp[aX,bK,bJ,a8,al,aY,cu,I.only,ai.only,bt]
 refine J.seq (J.seq ?_);refine .bu (by decide +kernel) fun K hK =>?_;simp only[Jb,ab,simprocAttr];refine .done (hK _ ?_);clear hK K;try simp only[ar]
 refine J.bH ?_;simp only[aq,ab,simprocAttr];refine ⟨fun h =>?_,fun h =>?_⟩
 ·have hi6:i<6:=by simp at h;omega
  have h1:=nG ha hi6;have h2:=KQ hw (show (a.g i).toNat<5 by omega);have k5:(a.g i).toNat<5:=by omega
  refine J.skip ?_;try simp only[ar,simprocAttr]
  refine J.seq (J.block ?_);refine .ao (by decide +kernel) fun K hK =>?_;simp only[Jc,ab,simprocAttr]
  try simp only[bG,jv 1 a hi6 rfl,eS a hi6,ab,simprocAttr]
  try simp only[bG,gb 1 w ⟨h1.1,h1.2⟩ rfl,eS w k5,ab,simprocAttr]
  refine .lead _ (OW (w.g (a.g i).toNat)) ?_
  try simp only[ab,simprocAttr]
  refine .done (hK _ ?_);clear hK K;have hL:jk w a i=gH (w.g (a.g i).toNat) 5:=rfl;rw[←hL];have hL5:(jk w a i).length≤5:=xO _ 5;have hL0:0<(jk w a i).length:=List.length_pos_of_mem (xP h2.2 5 (by omega));have hLi:∀ x∈jk w a i,0≤x∧x<(5:Nat):=xN 5;have hV:rU w a cuts i=shl 1 ((jk w a i).getD (lD cuts i (jk w a i).length) 0).toNat:=rfl;have hcl:=CD cuts i hL0;generalize hLL:jk w a i=aC at hL5 hL0 hLi hV hcl ⊢;have hin:=hLi (aC.getD (lD cuts i aC.length) 0) (by rw[zz1,zz8 hcl];exact zy9 hcl);refine .bu (by decide +kernel) fun K hK =>?_;simp only[Jd,ab,simprocAttr]
  try simp only[cZ,ab,simprocAttr]
  refine .flat _ (l9 cuts i hl) rfl ?_
  try simp only[bG,ab,simprocAttr]
  refine .flat _ (gB (bN cuts i) aC.length (by omega) (by omega)) rfl ?_;rw[WO cuts i hL0 (by omega)]
  try simp only[xl hcl,ab,simprocAttr]
  have hsh:IntKind.i64.wrap (1*2^min (aC.getD (lD cuts i aC.length) 0).toNat IntKind.i64.bits)=rU w a cuts i:=hV.symm;rw[if_pos hin.1,hsh]
  try simp only[bG,jv 1 (ka w a cuts i) hi6 rfl,eS (ka w a cuts i) hi6,oX (ka w a cuts i) hi6,ab,simprocAttr]
  refine .done (hK _ ?_);clear hK K;try simp only[ar,bL]
  refine .bu (by decide +kernel) fun K hK =>?_;simp only[I4,ab,simprocAttr];refine .done (hK _ ?_);clear hK K;try simp only[ar]
  refine ⟨i+1,by omega,by omega,?_⟩;rw[cE _ (by omega) (by omega),ka];refine aF.bM ?_ ?_ ?_ ?_ <;>simp[aX,bK,bJ,a8,al,aY,cu,I.only,ai.only,bt]
 ·have h6:i=6:=by simp at h;omega
  subst h6;refine J.exit ?_;try simp only[ar,bL,simprocAttr]
  refine .ao (by decide +kernel) fun K hK =>?_;simp only[I5,ab,simprocAttr]
  try simp only[cG,qj,ab,simprocAttr]
  refine .done (hK _ ?_);clear hK K;refine J.ret ?_;simp only[ab,simprocAttr]
  try simp only[cG,cZ,ab,simprocAttr]
  simp[o8,hw,ha]
theorem Pz(m:b7)(a:aR 6 Int)(c:List Int)(hl:c.length≤4611686018427387904)(hw:hE m.eR=true)(ha:dV a=true)(h0:0≤m.eP)(h2:m.eP≤2):aD Tryz.prog 35 [enc m,enc a,enc c] (enc (rK m a c)):=by
 refine aD.bA Tryz.func35 Sl Ue Wi (t7 rfl) (fun hwf W0 D0 E1 =>?_);simp only[BI,ME,bp,zz4,Nat.reduceAdd];obtain ⟨r0,hr0⟩:∃ r0,r0=ka m.eR a c 6:=⟨_,rfl⟩
 have hworn:o8 m.eR a c=(r0,0):=by simp[o8,hw,ha,hr0]
 refine .ao (by decide +kernel) fun K hK =>?_;simp only[HL,ab,simprocAttr]
 try simp only[dO,n9,ab,simprocAttr]
 refine .done (hK _ ?_);clear hK K;refine .ao (by decide +kernel) fun K hK =>?_;simp only[HM,ab,simprocAttr]
 try simp only[cG,cZ,ab,simprocAttr]
 refine .lead _ (PR m.eR a c hl) ?_
 try simp only[hworn,cG,n9,qj,ab,simprocAttr]
 refine .done (hK _ ?_);clear hK K;refine J.seq (J.seq ?_);refine .bu (by decide +kernel) fun K hK =>?_;simp only[HP,ab,simprocAttr];refine .done (hK _ ?_);clear hK K;try simp only[ar]
 refine J.block (J.loop (fun i:Nat=>au [(2,enc c),(3,.ptr 3 []),(6,.ptr 6 []),(7,.ptr 7 []),(9,.int .i64 i)] [(3,.box (enc m)),(6,.box (enc ln)),(7,.box (enc (kP c 2 5 r0 i)))]) (fun i=>i≤m.eP.toNat) (fun i=>m.eP.toNat-i) 0 (by omega) ?_ (fun i hi =>?_))
 ·simp only[kP];refine aF.bM ?_ ?_ ?_ ?_ <;>simp[aX,bK,bJ,a8,al,aY,cu,I.only,ai.only,bt]
 refine J.seq (J.seq ?_);refine .bu (by decide +kernel) fun K hK =>?_;simp only[HQ,ab,simprocAttr]
 try simp only[cG,ab,simprocAttr]
 refine .done (hK _ ?_);clear hK K;try simp only[ar]
 refine J.bH ?_;simp only[aq,ab,simprocAttr];refine ⟨fun h =>?_,fun h =>?_⟩
 ·have hlt:(i:Int)<m.eP:=by simpa using h
  have m6:=tv (bN c (i+2));have m5:=Kk (bN c (i+5));have k6:(bN c (i+2)%6).toNat<6:=by omega
  have hv:IntKind.i64.wrap (1*2^min (bN c (i+5)%5).toNat IntKind.i64.bits)=shl 1 (bN c (i+5)%5).toNat:=rfl;refine J.skip ?_;try simp only[ar,simprocAttr]
  refine J.seq (J.block ?_);refine .bu (by decide +kernel) fun K hK =>?_;simp only[HR,ab,simprocAttr]
  try simp only[cZ,ab,simprocAttr]
  rw[cE _ (by omega) (by omega)];refine .flat _ (l9 c (i+2) hl) rfl ?_
  try simp only[ab,simprocAttr]
  refine .flat _ (gB (bN c (i+2)) 6 (by decide) (by decide)) rfl ?_
  try simp only[cZ,ab,simprocAttr]
  rw[cE _ (by omega) (by omega)];refine .flat _ (l9 c (i+5) hl) rfl ?_
  try simp only[ab,simprocAttr]
  refine .flat _ (gB (bN c (i+5)) 5 (by decide) (by decide)) rfl ?_
  try simp only[ab,simprocAttr]
  rw[if_pos m5.1,hv]
  try simp only[bG,gb 1 (kP c 2 5 r0 i) ⟨m6.1,m6.2⟩ rfl,eS (kP c 2 5 r0 i) k6,oX (kP c 2 5 r0 i) k6,ab,simprocAttr]
  refine .done (hK _ ?_);clear hK K;try simp only[ar,bL]
  refine .bu (by decide +kernel) fun K hK =>?_;simp only[HS,ab,simprocAttr];refine .done (hK _ ?_);clear hK K;try simp only[ar]
  refine ⟨i+1,by omega,by omega,?_⟩;rw[cE _ (by omega) (by omega),kP];refine aF.bM ?_ ?_ ?_ ?_ <;>simp[aX,bK,bJ,a8,al,aY,cu,I.only,ai.only,bt]
 have hi2:i=m.eP.toNat:=by simp at h;omega
 subst hi2;refine J.exit ?_;try simp only[ar,bL,simprocAttr]
 obtain ⟨r1,hr1⟩:∃ r1,r1=kP c 2 5 r0 m.eP.toNat:=⟨_,rfl⟩
 rw[←hr1];refine J.seq (J.seq ?_);refine .bu (by decide +kernel) fun K hK =>?_;simp only[HT,ab,simprocAttr];refine .done (hK _ ?_);clear hK K;try simp only[ar]
 have q4:0≤bN c 1%4∧bN c 1%4<4:=⟨zw8 _ (by decide),zv6 _ (by decide)⟩
 refine J.block (J.loop (fun i:Nat=>au [(2,enc c),(3,.ptr 3 []),(6,.ptr 6 []),(7,.ptr 7 []),(10,.int .i64 i)] [(3,.box (enc m)),(6,.box (enc ln)),(7,.box (enc (jV c r1 i)))]) (fun i=>i≤(bN c 1%4).toNat) (fun i=>(bN c 1%4).toNat-i) 0 (by omega) ?_ (fun i hi =>?_))
 ·simp only[jV];refine aF.bM ?_ ?_ ?_ ?_ <;>simp[aX,bK,bJ,a8,al,aY,cu,I.only,ai.only,bt]
 refine J.seq (J.seq ?_);refine .bu (by decide +kernel) fun K hK =>?_;simp only[HU,ab,simprocAttr]
 try simp only[cZ,ab,simprocAttr]
 refine .flat _ (l9 c 1 hl) rfl ?_
 try simp only[ab,simprocAttr]
 refine .flat _ (gB (bN c 1) 4 (by decide) (by decide)) rfl ?_
 try simp only[ab,simprocAttr]
 refine .done (hK _ ?_);clear hK K;try simp only[ar]
 refine J.bH ?_;simp only[aq,ab,simprocAttr];refine ⟨fun h =>?_,fun h =>?_⟩
 ·have hlt:(i:Int)<bN c 1%4:=by simpa using h
  have m6:=tv (bN c (i+7));have m32:=Ki (bN c (i+3));have k6:(bN c (i+7)%6).toNat<6:=by omega
  refine J.skip ?_;try simp only[ar,simprocAttr]
  refine J.seq (J.block ?_);refine .ao (by decide +kernel) fun K hK =>?_;simp only[HV,ab,simprocAttr]
  try simp only[cZ,ab,simprocAttr]
  rw[cE _ (by omega) (by omega)];refine .flat _ (l9 c (i+7) hl) rfl ?_
  try simp only[ab,simprocAttr]
  refine .flat _ (gB (bN c (i+7)) 6 (by decide) (by decide)) rfl ?_
  try simp only[ab,simprocAttr]
  refine .done (hK _ ?_);clear hK K;refine .bu (by decide +kernel) fun K hK =>?_;simp only[HW,ab,simprocAttr]
  try simp only[bG,gb 1 (jV c r1 i) ⟨m6.1,m6.2⟩ rfl,eS (jV c r1 i) k6,cZ,ab,simprocAttr]
  rw[cE _ (by omega) (by omega)];refine .flat _ (l9 c (i+3) hl) rfl ?_
  try simp only[ab,simprocAttr]
  refine .flat _ (gB (bN c (i+3)) 32 (by decide) (by decide)) rfl ?_
  try simp only[bG,ab,simprocAttr]
  try simp only[bG,gb 1 (jV c r1 i) ⟨m6.1,m6.2⟩ rfl,eS (jV c r1 i) k6,oX (jV c r1 i) k6,ab,simprocAttr]
  refine .done (hK _ ?_);clear hK K;try simp only[ar,bL]
  refine .bu (by decide +kernel) fun K hK =>?_;simp only[HN,ab,simprocAttr];refine .done (hK _ ?_);clear hK K;try simp only[ar]
  refine ⟨i+1,by omega,by omega,?_⟩;rw[cE _ (by omega) (by omega),jV];refine aF.bM ?_ ?_ ?_ ?_ <;>simp[aX,bK,bJ,a8,al,aY,cu,I.only,ai.only,bt]
  all_goals first | rfl | simp[kd]
 have hi4:i=(bN c 1%4).toNat:=by simp at h;omega
 refine J.exit ?_;try simp only[ar,bL,simprocAttr]
 refine .ao (by decide +kernel) fun K hK =>?_;simp only[HO,ab,simprocAttr]
 try simp only[cG,qj,ab,simprocAttr]
 refine .done (hK _ ?_);clear hK K;refine J.ret ?_;simp only[ab,simprocAttr]
 try simp only[cG,cZ,ab,simprocAttr]
 rw[hi4,hr1,hr0];rfl
abbrev fC:=aR 9 Int
def z9:fC:=⟨List.replicate 9 0,rfl⟩
def lf(l:List Int)(b:Int)(i:Nat):Int:=IntKind.i64.wrap (bN l (IntKind.i64.wrap ((i:Int)+b))+b)
def qf(l:List Int)(b:Int):List Int:=(List.range l.length).map (lf l b)
theorem PJ(l:List Int)(b:Int)(hl:l.length*8≤140737488355328):aD Tryz.prog 83 [enc l,enc b] (enc (qf l b)):=by
 refine aD.bA Tryz.func83 SC Uu Wy (t7 rfl) (fun hwf W0 D0 E1 =>?_);simp only[BX,MV,bp,zz4];clear hwf;have R:=v6 @bG (v6 @aZ @ab)
 repeat' ((first |(with_reducible refine .guard (fun hb =>?_) (fun hb =>?_) <;>try simp only[hb])|refine J.aT (by decide +kernel) rfl fun K hK =>?_|(refine .aH [0,1,4,5,6,10] hK ?_;clear hK K)|(with_reducible refine .done (hK _ ?_);clear hK K)|refine J.of rfl ?_|(with_reducible refine aq.aQ (fun h =>?_) (fun h =>?_) <;>try simp only[h])) <;>try simp only[aU,R,reduceIte,Nat.reduceBEq])
 all_goals clear R
 refine J.loop (fun i:Nat=>au [(0,enc l),(1,.int .i64 b),(5,.own 905 ((List.range i).map (lf l b)).length),(6,.int .i64 i)] [(905,.bX 3 1 (((List.range i).map (lf l b)).map enc))]) (fun i=>i≤l.length) (fun i=>l.length-i) 0 (zw7 _) ?_ (fun i hi =>?_)
 ·refine aF.qu 5 905 3 1 1 rfl rfl ?_;simp only[List.range_zero,zx1,List.length_nil];refine aF.bM ?_ ?_ ?_ ?_ <;>simp[aX,bK,bJ,a8,al,aY,cu,I.only,I.bU,ai.only,bt]
 by_cases hlt:i<l.length
 ·have hc:=ic hlt;have hw:=fw (i:=i) (by omega);have hsu:(List.range (i+1)).map (lf l b)=(List.range i).map (lf l b)++[lf l b i]:=by rw[List.range_succ,zx6];rfl
  have hxl:((List.range i).map (lf l b)).length=i:=by simp
  have hv:lf l b i=IntKind.i64.wrap (bN l (IntKind.i64.wrap ((i:Int)+b))+b):=rfl;rw[hv] at hsu;generalize (List.range i).map (lf l b)=xs at hsu hxl ⊢;have happ:=fun (A:ae) d rest=>m7 (α:=Int) (A:=A) (d:=d) 3 1 8 905 (l:=xs.length) (es:=xs) (ys:=[IntKind.i64.wrap (bN l (IntKind.i64.wrap ((i:Int)+b))+b)]) (rest:=rest) rfl rfl (by simp) (by simp[maxLen];omega) (by simp;omega);have R:=v6 @hc (v6 @hw (v6 @happ (v6 @mg (v6 @bG (v6 @aZ @ab)))))
  repeat' ((first |(with_reducible refine .guard (fun hb =>?_) (fun hb =>?_) <;>try simp only[hb])|refine J.aT (by decide +kernel) rfl fun K hK =>?_|refine .flat _ (l9 l _ (by omega)) rfl ?_|(refine .aH [0,1,4,5,6,10] hK ?_;clear hK K)|(with_reducible refine .done (hK _ ?_);clear hK K)|refine J.of rfl ?_|(with_reducible refine aq.aQ (fun h =>?_) (fun h =>?_) <;>try simp only[h])) <;>try simp only[aU,R,Nat.reduceEqDiff,reduceIte,Nat.reduceBEq])
  all_goals clear R
  refine ⟨i+1,by omega,by omega,?_⟩;simp only[hsu];refine aF.bM ?_ ?_ ?_ ?_ <;>simp[aX,bK,bJ,a8,al,aY,cu,I.only,I.bU,ai.only,ej,gz,bt,gT]
 ·have hc:=iW hlt;have hge:i=l.length:=by omega
  subst hge;have hfo:=my (k:=((List.range l.length).map (lf l b)).length) (T:=3) (es:=(List.range l.length).map (lf l b)) 1 rfl rfl;have R:=v6 @hc (v6 @hfo (v6 @bG (v6 @aZ @ab)))
  repeat' ((first |(with_reducible refine .guard (fun hb =>?_) (fun hb =>?_) <;>try simp only[hb])|refine J.aT (by decide +kernel) rfl fun K hK =>?_|(refine .aH [0,1,4,5,6,10] hK ?_;clear hK K)|(with_reducible refine .done (hK _ ?_);clear hK K)|refine J.of rfl ?_|(with_reducible refine aq.aQ (fun h =>?_) (fun h =>?_) <;>try simp only[h])) <;>try simp only[aU,R,Nat.reduceEqDiff,reduceIte,Nat.reduceBEq])
  all_goals clear R
  all_goals rfl
def yO:aR 6 Int:=⟨List.replicate 6 31,rfl⟩
def um(m:b7)(picks:List Int)(i:Nat)(n:fC):aR 6 Int:=if 0<m.given.length then rK m (c4 m (n.g 8%(m.given.length:Int)).toNat).mark (qf picks i) else yO
def kv(m:b7)(picks:List Int)(h Ks i:Nat)(n:fC):av where
 bN:=⟨h,Ks⟩
 kind:=n.g 1%7
 day:=if n.g 1%7=0 then 0 else n.g 2%30
 known:=n.g 3%40
 c9:=1+n.g 4%6
 cz:=if n.g 7%7=1+n.g 4%6 then 0 else n.g 7%7
 cM:=1+n.g 5%2
 bP:=1+n.g 6%12
 cm:=if n.g 1%7=4 then um m picks i n else nR
 jX:=if n.g 1%7=0 then ⟨h,n.g 4%(Ks:Int)⟩ else ⟨0,0⟩
def rO(m:b7)(ls:List fC)(picks:List Int)(h:Nat)(o:List av)(i:Nat):List av :=
 if (ls.getD i z9).g 0%3=(h:Int)∧¬ ((ls.getD i z9).g 1%7=0∧o.length=0) then o++[iQ (kv m picks h o.length i (ls.getD i z9))] else o
def fX(m:b7)(ls:List fC)(picks:List Int)(h:Nat):Nat→List av
 |0=>[]
 |i+1=>rO m ls picks h (fX m ls picks h i) i
def ig(ls:List fC):Nat:=min ls.length 20
def gX(m:b7)(ls:List fC)(picks:List Int):Nat→List av
 |0=>[]
 |h+1=>gX m ls picks h++fX m ls picks h (ig ls)
def oz(m:b7)(ls:List fC)(picks:List Int):List av:=gX m ls picks 3
theorem tl(m:b7)(ls:List fC)(picks:List Int)(h:Nat):∀ i,(fX m ls picks h i).length≤i
 |0=>zz7 _
 |i+1=>by
  have:=tl m ls picks h i;simp only[fX,rO];split <;>simp <;>omega
theorem xH(ls:List fC):ig ls≤ls.length∧ig ls≤20:=by simp only[ig];omega
theorem xE(m:b7)(ls:List fC)(picks:List Int):∀ h,(gX m ls picks h).length≤20*h
 |0=>zz7 _
 |h+1=>by
  have h1:=xE m ls picks h;have h2:=tl m ls picks h (ig ls);have h3:=xH ls;simp only[gX,zz5];omega
def gY(N:Nat→Nat)(h c:Nat):aR 3 Int:=⟨(List.range 3).map fun k=>if k<h then (N k:Int) else if k=h then (c:Int) else 0,by simp⟩
theorem ahD{N:Nat→Nat}{h c:Nat}(hh:h<3):(gY N h c).g h=(c:Int):=by
 simp[gY,aR.g,zz1,hh]
theorem zf{n:Nat}{x y:aR n Int}(h:x.l=y.l):x=y:=by cases x;cases y;simp_all
theorem ahF{N:Nat→Nat}{h c:Nat}(c':Nat)(hh:h<3):gN (gY N h c) h (c':Int)=gY N h c':=by
 refine zf (List.ext_getElem (by simp[gN,gY]) fun k h1 h2 =>?_);simp only[gN,gY,List.getElem_set,List.getElem_map,List.getElem_range];by_cases e:h=k
 ·subst e;simp
 ·have:¬ k=h:=fun e'=>e e'.symm;simp[e,this]
theorem ahE{N:Nat→Nat}{h:Nat} : gY N h (N h)=gY N (h+1) 0:=by
 refine zf (List.ext_getElem (by simp[gY]) fun k h1 h2 =>?_);simp only[gY,List.getElem_map,List.getElem_range];rcases Nat.lt_trichotomy k h with e | e | e
 ·rw[if_pos e,if_pos (by omega)]
 ·subst e;rw[if_neg (by omega),if_pos rfl,if_pos (by omega)]
 ·rw[if_neg (by omega),if_neg (by omega),if_neg (by omega)];split <;>rfl
theorem Yd(N:Nat→Nat):I.agg [.int .i64 0,.int .i64 0,.int .i64 0]=enc (gY N 0 0):=rfl
theorem qJ:(∀ a b:Nat,I.agg [.int .i64 (a:Int),.int .i64 (b:Int)]=enc (⟨a,b⟩:Item))∧(∀ (a:Nat) (b c:Int),I.agg [.int .i64 (a:Int),.int .i64 (b%c)]=enc (⟨a,b%c⟩:Item)):=⟨fun _ _=>rfl,fun _ _ _=>rfl⟩
theorem CT:I.agg [.int .i64 31,.int .i64 31,.int .i64 31,.int .i64 31,.int .i64 31,.int .i64 31]=enc yO:=rfl
theorem Ak(a b c d e f:Int):dX [.int .i64 0,.int .i64 0,.int .i64 0,.int .i64 0,.int .i64 0,.int .i64 0] [(0,.int .i64 a),(1,.int .i64 b),(2,.int .i64 c),(3,.int .i64 d),(4,.int .i64 e),(5,.int .i64 f)]=some [.int .i64 a,.int .i64 b,.int .i64 c,.int .i64 d,.int .i64 e,.int .i64 f]:=by simp[dX,I.b8,I.size]
theorem qB(a b:Int):dX [.int .i64 0,.int .i64 0] [(0,.int .i64 a),(1,.int .i64 b)]=some [.int .i64 a,.int .i64 b]:=by simp[dX,I.b8,I.size]
theorem qA(a:Item)(k d kn b s o dm:Int):(dX [.agg [.int .i64 0,.int .i64 0],.int .i64 0,.int .i64 0,.int .i64 0,.int .i64 0,.int .i64 0,.int .i64 0,.int .i64 0,.agg [.int .i64 0,.int .i64 0,.int .i64 0,.int .i64 0,.int .i64 0,.int .i64 0],.agg [.int .i64 0,.int .i64 0]] [(0,enc a),(1,.int .i64 k),(2,.int .i64 d),(3,.int .i64 kn),(4,.int .i64 b),(6,.int .i64 s),(7,.int .i64 o),(5,.int .i64 dm)]).map .agg=some (enc (⟨a,k,d,kn,b,dm,s,o,nR,⟨0,0⟩⟩:av)):=by
 simp[dX,I.b8,I.size,I.sizes,gp,qK];rfl
theorem py:I.agg [.int .i64 0,.int .i64 0,.int .i64 0,.int .i64 0,.int .i64 0,.int .i64 0,.int .i64 0,.int .i64 0,.int .i64 0]=enc z9:=rfl
theorem qk{A:ae}{n:Nat}{w:I}{x y:fC}{rest:List az} : dC A (some 9) n [] w (enc x) rest (some (enc y))=ay rest (A.aL n (.box (enc x))):=by
 rw[eg (s:=some 9) (dO _) (by rw[fQ];rfl) ((eO x).trans (eO y).symm),fv]
theorem p6(x:fC):bY (some 9) (enc x)=true:=by rw[fQ];rfl
theorem aji(n:fC) :
  (∀ y,fG (0:Int) 9 (fF 9 1 (n.l.map enc) y)=y)∧ga 0 [] (some (n.l.map (enc (α:=Int))))=some (.int .i64 (n.g 0))∧((0:Int).toNat=0)∧(∀ y,fG (1:Int) 9 (fF 9 1 (n.l.map enc) y)=y)∧ga 1 [] (some (n.l.map (enc (α:=Int))))=some (.int .i64 (n.g 1))∧((1:Int).toNat=1)∧(∀ y,fG (2:Int) 9 (fF 9 1 (n.l.map enc) y)=y)∧ga 2 [] (some (n.l.map (enc (α:=Int))))=some (.int .i64 (n.g 2))∧((2:Int).toNat=2)∧(∀ y,fG (3:Int) 9 (fF 9 1 (n.l.map enc) y)=y)∧ga 3 [] (some (n.l.map (enc (α:=Int))))=some (.int .i64 (n.g 3))∧((3:Int).toNat=3)∧(∀ y,fG (4:Int) 9 (fF 9 1 (n.l.map enc) y)=y)∧ga 4 [] (some (n.l.map (enc (α:=Int))))=some (.int .i64 (n.g 4))∧((4:Int).toNat=4)∧(∀ y,fG (5:Int) 9 (fF 9 1 (n.l.map enc) y)=y)∧ga 5 [] (some (n.l.map (enc (α:=Int))))=some (.int .i64 (n.g 5))∧((5:Int).toNat=5)∧(∀ y,fG (6:Int) 9 (fF 9 1 (n.l.map enc) y)=y)∧ga 6 [] (some (n.l.map (enc (α:=Int))))=some (.int .i64 (n.g 6))∧((6:Int).toNat=6)∧(∀ y,fG (7:Int) 9 (fF 9 1 (n.l.map enc) y)=y)∧ga 7 [] (some (n.l.map (enc (α:=Int))))=some (.int .i64 (n.g 7))∧((7:Int).toNat=7)∧(∀ y,fG (8:Int) 9 (fF 9 1 (n.l.map enc) y)=y)∧ga 8 [] (some (n.l.map (enc (α:=Int))))=some (.int .i64 (n.g 8))∧((8:Int).toNat=8) :=
 ⟨fun _=>gb 1 n (by decide) rfl,(eS n (by decide)).trans (hT _),rfl,fun _=>gb 1 n (by decide) rfl,(eS n (by decide)).trans (hT _),rfl,fun _=>gb 1 n (by decide) rfl,(eS n (by decide)).trans (hT _),rfl,fun _=>gb 1 n (by decide) rfl,(eS n (by decide)).trans (hT _),rfl,fun _=>gb 1 n (by decide) rfl,(eS n (by decide)).trans (hT _),rfl,fun _=>gb 1 n (by decide) rfl,(eS n (by decide)).trans (hT _),rfl,fun _=>gb 1 n (by decide) rfl,(eS n (by decide)).trans (hT _),rfl,fun _=>gb 1 n (by decide) rfl,(eS n (by decide)).trans (hT _),rfl,fun _=>gb 1 n (by decide) rfl,(eS n (by decide)).trans (hT _),rfl⟩
theorem za(x d:Int)(h0:0<d)(h1:d≤1000):IntKind.i64.wrap (1+x%d)=1+x%d:=by
 have a1:=zw8 x (show d≠0 by omega);have a2:=zv6 x h0;exact cE _ (by omega) (by omega)
theorem zB(m:b7)(ls:List fC)(picks:List Int)(hm:ez m=true)(hl:picks.length*8≤140737488355328):aD Tryz.prog 23 [enc m,enc ls,enc picks] (enc (oz m ls picks)):=by
 refine aD.bA Tryz.func23 Sd T6 Wa (t7 rfl) (fun hwf W0 D0 E1 =>?_);simp only[BA,Mw,bp,zz4,Nat.reduceAdd];have hlen:ls.length≤maxLen:=((lj ls).1 hwf.2.1).1;simp only[maxLen] at hlen;clear hwf;obtain ⟨hw,hf0,hf2⟩:=KI hm;have hgl:=KJ hm;obtain ⟨hn1,hn2⟩:=xH ls;obtain ⟨N,hN⟩:∃ N:Nat→Nat,N=fun k=>(fX m ls picks k (ig ls)).length:=⟨_,rfl⟩
 have hz:=Yd N;have R:=v6 @hz (v6 @gK (v6 @bG (v6 @aZ @ab)))
 repeat' ((first |(with_reducible refine .guard (fun hb =>?_) (fun hb =>?_) <;>try simp only[hb])|refine J.aT (by decide +kernel) rfl fun K hK =>?_|(refine .aH [0,1,2,3,6,7,8,9,10,11,12,14,24,35,70,74,78,91,97] hK ?_;clear hK K)|(with_reducible refine .done (hK _ ?_);clear hK K)|refine J.of rfl ?_|(with_reducible refine aq.aQ (fun h =>?_) (fun h =>?_) <;>try simp only[h])) <;>try simp only[aU,R,Nat.reduceEqDiff,reduceIte,Nat.reduceBEq])
 all_goals clear R
 refine J.loop (fun h:Nat=>au [(1,enc ls),(2,enc picks),(3,.ptr 3 []),(7,.ptr 7 []),(8,.own 908 (gX m ls picks h).length),(9,.int .i64 h)] [(3,.box (enc m)),(7,.box (enc (gY N h 0))),(908,.bX 68 17 ((gX m ls picks h).map enc))]) (fun h=>h≤3) (fun h=>3-h) 0 (by omega) ?_ (fun h hh =>?_)
 ·refine aF.qu 8 908 68 17 17 rfl rfl ?_;simp only[gX,zx1,List.length_nil];refine aF.bM ?_ ?_ ?_ ?_ <;>simp[aX,bK,bJ,a8,al,aY,cu,I.only,I.bU,ai.only,bt]
 have hal:=xE m ls picks h;by_cases hh3:h<3
 case neg =>
  have hc:decide ((h:Int)<3)=false:=by simp;omega
  have he:h=3:=by omega
  subst he;have hfo:=my (k:=(gX m ls picks 3).length) (T:=68) (es:=gX m ls picks 3) 17 rfl rfl;have R:=v6 @hc (v6 @hfo (v6 @bG (v6 @aZ @ab)))
  repeat' ((first |(with_reducible refine .guard (fun hb =>?_) (fun hb =>?_) <;>try simp only[hb])|refine J.aT (by decide +kernel) rfl fun K hK =>?_|(refine .aH [0,1,2,3,6,7,8,9,10,11,12,14,24,35,70,74,78,91,97] hK ?_;clear hK K)|(with_reducible refine .done (hK _ ?_);clear hK K)|refine J.of rfl ?_|(with_reducible refine aq.aQ (fun h =>?_) (fun h =>?_) <;>try simp only[h])) <;>try simp only[aU,R,Nat.reduceEqDiff,reduceIte,Nat.reduceBEq])
  all_goals clear R
  all_goals rfl
 have hc:decide ((h:Int)<3)=true:=by simp;omega
 have hwh:=fw (i:=h) (by omega);have R:=v6 @hc (v6 @bG (v6 @aZ @ab))
 repeat' ((first |(with_reducible refine .guard (fun hb =>?_) (fun hb =>?_) <;>try simp only[hb])|refine J.aT (by decide +kernel) rfl fun K hK =>?_|(refine .aH [0,1,2,3,6,7,8,9,10,11,12,14,24,35,70,74,78,91,97] hK ?_;clear hK K)|(with_reducible refine .done (hK _ ?_);clear hK K)|refine J.of rfl ?_|(with_reducible refine aq.aQ (fun h =>?_) (fun h =>?_) <;>try simp only[h])) <;>try simp only[aU,R,Nat.reduceEqDiff,reduceIte,Nat.reduceBEq])
 all_goals clear R
 refine J.loop (fun i:Nat=>au [(1,enc ls),(2,enc picks),(3,.ptr 3 []),(7,.ptr 7 []),(8,.own 908 (gX m ls picks h++fX m ls picks h i).length),(9,.int .i64 h),(10,.int .i64 i)] [(3,.box (enc m)),(7,.box (enc (gY N h (fX m ls picks h i).length))),(908,.bX 68 17 ((gX m ls picks h++fX m ls picks h i).map enc))]) (fun i=>i≤ig ls) (fun i=>ig ls-i) 0 (zw7 _) ?_ (fun i hi =>?_)
 ·simp only[fX,zx8,List.length_nil];refine aF.bM ?_ ?_ ?_ ?_ <;>simp[aX,bK,bJ,a8,al,aY,cu,I.only,ai.only,ej,bt]
 by_cases hlt:i<ig ls
 case neg =>
  have he:i=ig ls:=by omega
  subst he;have hnx:gY N h (fX m ls picks h (ig ls)).length=gY N (h+1) 0:=by
   have:(fX m ls picks h (ig ls)).length=N h:=by rw[hN]
   rw[this,ahE]
  rw[hnx];by_cases hq:ig ls<ls.length
  ·have q1:=ic hq;have q20:ig ls=20:=by simp only[ig] at hq ⊢;omega
   have q2:decide ((ig ls:Int)<20)=false:=by rw[q20];rfl
   have R:=v6 @q1 (v6 @q2 (v6 @hwh (v6 @bG (v6 @aZ @ab))))
   repeat' ((first |(with_reducible refine .guard (fun hb =>?_) (fun hb =>?_) <;>try simp only[hb])|refine J.aT (by decide +kernel) rfl fun K hK =>?_|(refine .aH [0,1,2,3,6,7,8,9,10,11,12,14,24,35,70,74,78,91,97] hK ?_;clear hK K)|(with_reducible refine .done (hK _ ?_);clear hK K)|refine J.of rfl ?_|(with_reducible refine aq.aQ (fun h =>?_) (fun h =>?_) <;>try simp only[h])) <;>try simp only[aU,R,Nat.reduceEqDiff,reduceIte,Nat.reduceBEq])
   all_goals clear R
   refine ⟨h+1,by omega,by omega,?_⟩;simp only[gX];refine aF.bM ?_ ?_ ?_ ?_ <;>simp[aX,bK,bJ,a8,al,aY,cu,I.only,ai.only,ej,gz,bt]
  ·have q1:=iW hq;have R:=v6 @q1 (v6 @hwh (v6 @bG (v6 @aZ @ab)))
   repeat' ((first |(with_reducible refine .guard (fun hb =>?_) (fun hb =>?_) <;>try simp only[hb])|refine J.aT (by decide +kernel) rfl fun K hK =>?_|(refine .aH [0,1,2,3,6,7,8,9,10,11,12,14,24,35,70,74,78,91,97] hK ?_;clear hK K)|(with_reducible refine .done (hK _ ?_);clear hK K)|refine J.of rfl ?_|(with_reducible refine aq.aQ (fun h =>?_) (fun h =>?_) <;>try simp only[h])) <;>try simp only[aU,R,Nat.reduceEqDiff,reduceIte,Nat.reduceBEq])
   all_goals clear R
   refine ⟨h+1,by omega,by omega,?_⟩;simp only[gX];refine aF.bM ?_ ?_ ?_ ?_ <;>simp[aX,bK,bJ,a8,al,aY,cu,I.only,ai.only,ej,gz,bt]
 have q1:decide ((i:Int)<(ls.length:Int))=true:=ic (by omega);have q2:decide ((i:Int)<20)=true:=by simp;omega
 have hwi:=fw (i:=i) (by omega);have hil:i<ls.length:=by omega
 have he:=fun A=>fH (A:=A) 9 hil rfl;have hn:ls.getD i z9=ls[i]:=by rw[zz1,zz8 hil];rfl
 have hsu:fX m ls picks h (i+1)=rO m ls picks h (fX m ls picks h i) i:=rfl;have hhl:=tl m ls picks h i;simp only[rO,hn] at hsu;generalize ls[i]=n at he hsu;generalize fX m ls picks h i=o at hsu hhl ⊢;generalize gX m ls picks h=pre at hal ⊢;have hin:=fun c y=>gb (n:=3) 1 (k:=(h:Int)) (gY N h c) (y:=y) ⟨by omega,by omega⟩ rfl;have hag:=fun c=>(eS (p:=[]) (gY N h c) hh3).trans (hT _);have hng:=fun c=>ahD (N:=N) (c:=c) hh3;have hst:=fun (A:ae) c v u rest=>oX (A:=A) (n:=7) (gY N h c) hh3 (v:=v) (u:=u) (rest:=rest);have hup:=fun c c'=>ahF (N:=N) (c:=c) c' hh3;have hto:((h:Int)).toNat=h:=Int.toNat_natCast h;have hwo:=fw (i:=o.length) (by omega);have happ:=fun (A:ae) d rest (y:av)=>m7 (α:=av) (A:=A) (d:=d) 68 17 136 908 (l:=(pre++o).length) (es:=pre++o) (ys:=[y]) (rest:=rest) rfl rfl (by simp) (by simp[maxLen];omega) (by simp;omega);have hbs:=fun y:av=>qD 17 y rfl;have hR:=aji n;have w6:=za (n.g 4) 6 (by omega) (by omega);have w2:=za (n.g 5) 2 (by omega) (by omega);have w12:=za (n.g 6) 12 (by omega) (by omega);rcases c1:(n.g 0%3 != (h:Int))
 case true =>
  have c1':¬ n.g 0%3=(h:Int):=by simpa using c1
  rw[if_neg (fun hx=>c1' hx.1)] at hsu;have R:=v6 @q1 (v6 @q2 (v6 @hwi (v6 @he (v6 @hR (v6 @c1 (v6 @py (v6 @qk (v6 @p6 (v6 @bG (v6 @aZ @ab))))))))))
  repeat' ((first |(with_reducible refine .guard (fun hb =>?_) (fun hb =>?_) <;>try simp only[hb])|refine J.aT (by decide +kernel) rfl fun K hK =>?_|refine .flat _ (gB _ _ (by first | decide | omega) (by first | decide | omega)) rfl ?_|(refine .aH [0,1,2,3,6,7,8,9,10,11,12,14,24,35,70,74,78,91,97] hK ?_;clear hK K)|(with_reducible refine .done (hK _ ?_);clear hK K)|refine J.of rfl ?_|(with_reducible refine aq.aQ (fun h =>?_) (fun h =>?_) <;>try simp only[h])) <;>try simp only[aU,R,Nat.reduceEqDiff,reduceIte,Nat.reduceBEq])
  all_goals clear R
  refine ⟨i+1,by omega,by omega,?_⟩;simp only[hsu];refine aF.bM ?_ ?_ ?_ ?_ <;>simp[aX,bK,bJ,a8,al,aY,cu,I.only,ai.only,ej,gz,bt]
 have c1':n.g 0%3=(h:Int):=by simpa using c1
 have hS:∀ hg:0<m.given.length,aD Tryz.prog 35 [enc m,enc (c4 m (n.g 8%(m.given.length:Int)).toNat).mark,enc (qf picks i)] (enc (rK m (c4 m (n.g 8%(m.given.length:Int)).toNat).mark (qf picks i))):=fun hg=>by
  have a1:=zw8 (n.g 8) (show (m.given.length:Int)≠0 by omega);have a2:=zv6 (n.g 8) (show (0:Int)<(m.given.length:Int) by omega);exact Pz m _ _ (by simp[qf];omega) hw (Jr hm (by omega)) hf0 hf2
 have hSh:=PJ picks i hl;by_cases k0:n.g 1%7=0
 ·have k1:(n.g 1%7==0)=true:=by simp[k0]
  have k4:(n.g 1%7==4)=false:=by simp[k0]
  by_cases o0:o.length=0
  ·have z0:((o.length:Int)==0)=true:=by simp[o0]
   rw[if_neg (fun hx=>hx.2 ⟨k0,o0⟩)] at hsu;rcases cd:(n.g 7%7==1+n.g 4%6)
   all_goals
    have R:=v6 @q1 (v6 @q2 (v6 @hwi (v6 @he (v6 @hR (v6 @c1 (v6 @cd (v6 @k1 (v6 @z0 (v6 @hin (v6 @hag (v6 @hng (v6 @hto (v6 @w6 (v6 @w2 (v6 @w12 (v6 @py (v6 @qk (v6 @p6 (v6 @qB (v6 @qJ (v6 @qA (v6 @bG (v6 @aZ @ab)))))))))))))))))))))))
    repeat' ((first |(with_reducible refine .guard (fun hb =>?_) (fun hb =>?_) <;>try simp only[hb])|refine J.aT (by decide +kernel) rfl fun K hK =>?_|refine .flat _ (gB _ _ (by first | decide | omega) (by first | decide | omega)) rfl ?_|(refine .aH [0,1,2,3,6,7,8,9,10,11,12,14,24,35,70,74,78,91,97] hK ?_;clear hK K)|(with_reducible refine .done (hK _ ?_);clear hK K)|refine J.of rfl ?_|(with_reducible refine aq.aQ (fun h =>?_) (fun h =>?_) <;>try simp only[h])) <;>try simp only[aU,R,Nat.reduceEqDiff,reduceIte,Nat.reduceBEq])
    all_goals clear R
    refine ⟨i+1,by omega,by omega,?_⟩;simp only[hsu];refine aF.bM ?_ ?_ ?_ ?_ <;>simp[aX,bK,bJ,a8,al,aY,cu,I.only,ai.only,ej,gz,bt]
  ·have z0:((o.length:Int)==0)=false:=beq_eq_false_iff_ne.2 (by omega);rw[if_pos ⟨c1',fun hx=>o0 hx.2⟩] at hsu;rcases cd:(n.g 7%7==1+n.g 4%6)
   all_goals
    have hraw:kv m picks h o.length i n=⟨⟨h,o.length⟩,n.g 1%7,0,n.g 3%40,1+n.g 4%6,if n.g 7%7=1+n.g 4%6 then 0 else n.g 7%7,1+n.g 5%2,1+n.g 6%12,nR,⟨h,n.g 4%(o.length:Int)⟩⟩:=by simp[kv,k0]
    have cd':=cd;simp only[beq_iff_eq,beq_eq_false_iff_ne,ne_eq] at cd';simp only[cd',if_true,if_false] at hraw;rw[hraw] at hsu;have R:=v6 @q1 (v6 @q2 (v6 @hwi (v6 @hwo (v6 @he (v6 @hR (v6 @c1 (v6 @cd (v6 @k1 (v6 @k4 (v6 @z0 (v6 @hin (v6 @hag (v6 @hng (v6 @hst (v6 @hup (v6 @hto (v6 @w6 (v6 @w2 (v6 @w12 (v6 @happ (v6 @hbs (v6 @py (v6 @qk (v6 @p6 (v6 @qB (v6 @qJ (v6 @qA (v6 @bG (v6 @aZ @ab)))))))))))))))))))))))))))))
    repeat' ((first |(with_reducible refine .guard (fun hb =>?_) (fun hb =>?_) <;>try simp only[hb])|refine J.aT (by decide +kernel) rfl fun K hK =>?_|refine .flat _ (gB _ _ (by first | decide | omega) (by first | decide | omega)) rfl ?_|refine .lead _ (r5 _) ?_|(refine .aH [0,1,2,3,6,7,8,9,10,11,12,14,24,35,70,74,78,91,97] hK ?_;clear hK K)|(with_reducible refine .done (hK _ ?_);clear hK K)|refine J.of rfl ?_|(with_reducible refine aq.aQ (fun h =>?_) (fun h =>?_) <;>try simp only[h])) <;>try simp only[aU,R,Nat.reduceEqDiff,reduceIte,Nat.reduceBEq])
    all_goals clear R
    refine ⟨i+1,by omega,by omega,?_⟩;rw[hsu,←zz3];refine aF.bM ?_ ?_ ?_ ?_ <;>simp[aX,bK,bJ,a8,al,aY,cu,I.only,I.bU,ai.only,ej,gz,bt]
 have k1:(n.g 1%7==0)=false:=by simp[k0]
 rw[if_pos ⟨c1',fun hx=>k0 hx.1⟩] at hsu;by_cases k4':n.g 1%7=4
 ·have k4:(n.g 1%7==4)=true:=by simp[k4']
  by_cases fx:0<m.given.length
  ·have g1:decide ((0:Int)<(m.given.length:Int))=true:=decide_eq_true (by omega);have hS1:=hS fx;have hgi:∀ A,iB A 7 (n.g 8%(m.given.length:Int)) (enc m.given)=some (.ref (enc (c4 m (n.g 8%(m.given.length:Int)).toNat))):=fun A=>by
    have a1:=zw8 (n.g 8) (show (m.given.length:Int)≠0 by omega);have a2:=zv6 (n.g 8) (show (0:Int)<(m.given.length:Int) by omega);have a3:n.g 8%(m.given.length:Int)=((n.g 8%(m.given.length:Int)).toNat:Int):=(Int.toNat_of_nonneg a1).symm;have:=xm (A:=A) (m:=m) (i:=(n.g 8%(m.given.length:Int)).toNat) (by rw[a3] at a2;exact Int.ofNat_lt.1 a2)
    rwa [←a3] at this
   rcases cd:(n.g 7%7==1+n.g 4%6)
   all_goals
    have hraw:kv m picks h o.length i n=⟨⟨h,o.length⟩,n.g 1%7,n.g 2%30,n.g 3%40,1+n.g 4%6,if n.g 7%7=1+n.g 4%6 then 0 else n.g 7%7,1+n.g 5%2,1+n.g 6%12,rK m (c4 m (n.g 8%(m.given.length:Int)).toNat).mark (qf picks i),⟨0,0⟩⟩:=by simp[kv,k4',um,fx]
    have cd':=cd;simp only[beq_iff_eq,beq_eq_false_iff_ne,ne_eq] at cd';simp only[cd',if_true,if_false] at hraw;rw[hraw] at hsu;have R:=v6 @q1 (v6 @q2 (v6 @hwi (v6 @hwo (v6 @he (v6 @hR (v6 @c1 (v6 @cd (v6 @k1 (v6 @k4 (v6 @g1 (v6 @hgi (v6 @hin (v6 @hag (v6 @hng (v6 @hst (v6 @hup (v6 @hto (v6 @w6 (v6 @w2 (v6 @w12 (v6 @happ (v6 @hbs (v6 @py (v6 @qk (v6 @p6 (v6 @gK (v6 @qB (v6 @qJ (v6 @Ak (v6 @CT (v6 @qA (v6 @cG (v6 @bG (v6 @aZ @ab))))))))))))))))))))))))))))))))))
    repeat' ((first |(with_reducible refine .guard (fun hb =>?_) (fun hb =>?_) <;>try simp only[hb])|refine J.aT (by decide +kernel) rfl fun K hK =>?_|refine .flat _ (gB _ _ (by first | decide | omega) (by first | decide | omega)) rfl ?_|refine .lead _ (r5 _) ?_|refine .lead _ (hSh) ?_|refine .lead _ (hS1) ?_|(refine .aH [0,1,2,3,6,7,8,9,10,11,12,14,24,35,70,74,78,91,97] hK ?_;clear hK K)|(with_reducible refine .done (hK _ ?_);clear hK K)|refine J.of rfl ?_|(with_reducible refine aq.aQ (fun h =>?_) (fun h =>?_) <;>try simp only[h])) <;>try simp only[aU,R,Nat.reduceEqDiff,reduceIte,Nat.reduceBEq])
    all_goals clear R
    refine ⟨i+1,by omega,by omega,?_⟩;rw[hsu,←zz3];refine aF.bM ?_ ?_ ?_ ?_ <;>simp[aX,bK,bJ,a8,al,aY,cu,I.only,I.bU,ai.only,ej,gz,bt]
  ·have g1:decide ((0:Int)<(m.given.length:Int))=false:=decide_eq_false (by omega);rcases cd:(n.g 7%7==1+n.g 4%6)
   all_goals
    have hraw:kv m picks h o.length i n=⟨⟨h,o.length⟩,n.g 1%7,n.g 2%30,n.g 3%40,1+n.g 4%6,if n.g 7%7=1+n.g 4%6 then 0 else n.g 7%7,1+n.g 5%2,1+n.g 6%12,yO,⟨0,0⟩⟩:=by simp[kv,k4',um,fx]
    have cd':=cd;simp only[beq_iff_eq,beq_eq_false_iff_ne,ne_eq] at cd';simp only[cd',if_true,if_false] at hraw;rw[hraw] at hsu;have R:=v6 @q1 (v6 @q2 (v6 @hwi (v6 @hwo (v6 @he (v6 @hR (v6 @c1 (v6 @cd (v6 @k1 (v6 @k4 (v6 @g1 (v6 @hin (v6 @hag (v6 @hng (v6 @hst (v6 @hup (v6 @hto (v6 @w6 (v6 @w2 (v6 @w12 (v6 @happ (v6 @hbs (v6 @py (v6 @qk (v6 @p6 (v6 @gK (v6 @qB (v6 @qJ (v6 @Ak (v6 @CT (v6 @qA (v6 @cG (v6 @bG (v6 @aZ @ab)))))))))))))))))))))))))))))))))
    repeat' ((first |(with_reducible refine .guard (fun hb =>?_) (fun hb =>?_) <;>try simp only[hb])|refine J.aT (by decide +kernel) rfl fun K hK =>?_|refine .flat _ (gB _ _ (by first | decide | omega) (by first | decide | omega)) rfl ?_|refine .lead _ (r5 _) ?_|(refine .aH [0,1,2,3,6,7,8,9,10,11,12,14,24,35,70,74,78,91,97] hK ?_;clear hK K)|(with_reducible refine .done (hK _ ?_);clear hK K)|refine J.of rfl ?_|(with_reducible refine aq.aQ (fun h =>?_) (fun h =>?_) <;>try simp only[h])) <;>try simp only[aU,R,Nat.reduceEqDiff,reduceIte,Nat.reduceBEq])
    all_goals clear R
    refine ⟨i+1,by omega,by omega,?_⟩;rw[hsu,←zz3];refine aF.bM ?_ ?_ ?_ ?_ <;>simp[aX,bK,bJ,a8,al,aY,cu,I.only,I.bU,ai.only,ej,gz,bt]
 ·have k4:(n.g 1%7==4)=false:=by simp[k4']
  rcases cd:(n.g 7%7==1+n.g 4%6)
  all_goals
   have hraw:kv m picks h o.length i n=⟨⟨h,o.length⟩,n.g 1%7,n.g 2%30,n.g 3%40,1+n.g 4%6,if n.g 7%7=1+n.g 4%6 then 0 else n.g 7%7,1+n.g 5%2,1+n.g 6%12,nR,⟨0,0⟩⟩:=by simp[kv,k0,k4']
   have cd':=cd;simp only[beq_iff_eq,beq_eq_false_iff_ne,ne_eq] at cd';simp only[cd',if_true,if_false] at hraw;rw[hraw] at hsu;have R:=v6 @q1 (v6 @q2 (v6 @hwi (v6 @hwo (v6 @he (v6 @hR (v6 @c1 (v6 @cd (v6 @k1 (v6 @k4 (v6 @hin (v6 @hag (v6 @hng (v6 @hst (v6 @hup (v6 @hto (v6 @w6 (v6 @w2 (v6 @w12 (v6 @happ (v6 @hbs (v6 @py (v6 @qk (v6 @p6 (v6 @qB (v6 @qJ (v6 @qA (v6 @bG (v6 @aZ @ab))))))))))))))))))))))))))))
   repeat' ((first |(with_reducible refine .guard (fun hb =>?_) (fun hb =>?_) <;>try simp only[hb])|refine J.aT (by decide +kernel) rfl fun K hK =>?_|refine .flat _ (gB _ _ (by first | decide | omega) (by first | decide | omega)) rfl ?_|refine .lead _ (r5 _) ?_|(refine .aH [0,1,2,3,6,7,8,9,10,11,12,14,24,35,70,74,78,91,97] hK ?_;clear hK K)|(with_reducible refine .done (hK _ ?_);clear hK K)|refine J.of rfl ?_|(with_reducible refine aq.aQ (fun h =>?_) (fun h =>?_) <;>try simp only[h])) <;>try simp only[aU,R,Nat.reduceEqDiff,reduceIte,Nat.reduceBEq])
   all_goals clear R
   refine ⟨i+1,by omega,by omega,?_⟩;rw[hsu,←zz3];refine aF.bM ?_ ?_ ?_ ?_ <;>simp[aX,bK,bJ,a8,al,aY,cu,I.only,I.bU,ai.only,ej,gz,bt]
def sr:aB:=⟨0,0,0,0,0,0,0,false,[]⟩
def kD:I:=.agg [.int .i64 0,.int .i64 0,.int .i64 0,.int .i64 0,.int .i64 0,.int .i64 0,.int .i64 0,.bool false,.nils 6]
theorem pz:I.agg [.int .i64 0,.int .i64 0,.int .i64 0,.int .i64 0,.int .i64 0,.int .i64 0,.int .i64 0,.bool false,.nils 6]=kD:=rfl
theorem qp:(∀ (A:ae) n w rest,dC A (some 9) n [] w kD rest (some kD)=ay rest (A.aL n (.box kD)))∧(∀ (A:ae) n w (b:aB) rest,dC A (some 9) n [] w (enc b) rest (some kD)=ay rest (A.aL n (.box (enc b)))) ∧
  (∀ aA A,a7 aA A kD=some (enc sr))∧bY (some 9) kD=true∧((dX [.int .i64 0,.int .i64 0,.int .i64 0,.int .i64 0,.int .i64 0,.int .i64 0,.int .i64 0,.bool false,.nils 6] []).map .agg=some kD)∧(kD.b8=true) :=
 ⟨fun A n w rest=>by rw[eg (s:=some 9) (v:=kD) (old:=kD) rfl rfl rfl,fv],fun A n w b rest=>aj6,fun aA A=>by simp[kD,a7,bZ];rfl,rfl,rfl,rfl⟩
def po(l:List av)(no known:Int):aB×Int:=if eL l [dG no 9999] [known]=0 then (match cW (cC l 100000 known) no with
 |none=>(sr,42)
 |some b=>(b,0)) else (sr,eL l [dG no 9999] [known])
abbrev PY(l:List av):Prop:=l.Pairwise fun a b=>before a.bN b.bN=true
theorem aip(h c:Nat)(k d kn b s o dm f:Int)(r:aR 6 Int)(hh:h≤5)(hc:c≤9999)(h1:0≤k∧k≤6)(h2:0≤d∧d≤100)(h3:0≤kn∧kn≤100)(h4:1≤b∧b≤6)(h5:1≤s∧s≤2)(h6:1≤o∧o≤12)(h7:0≤dm∧dm≤6∧dm≠b)(h8:k=0→0≤f∧f<c)(h9:k=4→gZ r=true) :
  gi (iQ ⟨⟨h,c⟩,k,if k=0 then 0 else d,kn,b,dm,s,o,if k=4 then r else nR,if k=0 then ⟨h,f⟩ else ⟨0,0⟩⟩)=true:=by
 obtain hk | hk | hk | hk | hk | hk | hk:k=0∨k=1∨k=2∨k=3∨k=4∨k=5∨k=6:=by omega
 all_goals
  subst hk;simp[gi,oc,iQ,pK,bS]
 all_goals first
  |omega
  |(have:=h8 rfl;omega)
  |(refine ⟨?_,?_⟩ <;>first | exact ⟨by omega,h9 rfl⟩ | exact h9 rfl | omega)
  |(have:=h9 rfl;simp[this];omega)
theorem aiq{m:b7}(hm:ez m=true)(picks:List Int)(h c i:Nat)(n:fC)(hh:h≤5)(hc:c≤9999)(h0:n.g 1%7=0→0<c):gi (iQ (kv m picks h c i n))=true:=by
 obtain ⟨hw,-,-⟩:=KI hm;refine aip h c _ _ _ _ _ _ _ _ _ hh hc ?_ ?_ ?_ ?_ ?_ ?_ ?_ ?_ ?_
 iterate 6 omega
 ·refine ⟨?_,?_,?_⟩ <;>split <;>omega
 ·intro hk;have:=h0 hk;exact ⟨zw8 _ (by omega),zv6 _ (by omega)⟩
 ·intro _;simp only[um];split
  ·rename_i hg;have a1:=zw8 (n.g 8) (show (m.given.length:Int)≠0 by omega);have a2:=zv6 (n.g 8) (show (0:Int)<(m.given.length:Int) by omega);exact ajM hw (Jr hm (by omega)) _
  ·decide
def lS(e:av):Prop:=0≤e.bP∧e.bP≤12∧(e.kind=1∨e.kind=2→1≤e.cM∧e.cM≤2∧1≤e.c9∧e.c9≤6)
theorem ahf{x:av}(h1:1≤x.bP∧x.bP≤12)(h2:1≤x.cM∧x.cM≤2)(h3:1≤x.c9∧x.c9≤6):lS (iQ x):=by
 refine ⟨?_,?_,fun hk =>?_⟩
 ·show 0≤(if x.kind=1∨x.kind=3∨x.kind=5 then x.bP else 0)
  split <;>omega
 ·show (if x.kind=1∨x.kind=3∨x.kind=5 then x.bP else 0)≤12
  split <;>omega
 ·have hk:x.kind=1∨x.kind=2:=hk
  show 1≤(if x.kind=1∨x.kind=2 then x.cM else 0)∧(if x.kind=1∨x.kind=2 then x.cM else 0)≤2∧1≤(if x.kind=0 then 0 else x.c9)∧(if x.kind=0 then 0 else x.c9)≤6
  rw[if_pos hk,if_neg (by omega)];omega
theorem ahh(m:b7)(picks:List Int)(h c i:Nat)(n:fC):lS (iQ (kv m picks h c i n)) :=
 ahf (by show 1≤1+n.g 6%12∧1+n.g 6%12≤12;omega) (by show 1≤1+n.g 5%2∧1+n.g 5%2≤2;omega) (by show 1≤1+n.g 4%6∧1+n.g 4%6≤6;omega)
theorem xG{m:b7}(hm:ez m=true)(ls:List fC)(picks:List Int)(h:Nat)(hh:h≤5):∀ i,i≤9999→(∀ x∈fX m ls picks h i,gi x=true∧lS x)∧∀ k (hk:k<(fX m ls picks h i).length),((fX m ls picks h i)[k]).bN=⟨h,k⟩
 |0,_=>⟨by simp[fX],by simp[fX]⟩
 |i+1,hi=>by
  obtain ⟨h1,h2⟩:=xG hm ls picks h hh i (by omega);have hl:=tl m ls picks h i;simp only[fX,rO];split
  ·rename_i hc;refine ⟨fun x hx =>?_,fun k hk =>?_⟩
   ·rcases zy1.1 hx with hx | hx
    ·exact h1 x hx
    ·simp only[zw5] at hx;subst hx;exact ⟨aiq hm picks h _ i _ hh (by omega) (fun hk=>Nat.pos_of_ne_zero fun e=>hc.2 ⟨hk,e⟩),ahh ..⟩
   ·rw[List.getElem_append];split
    ·exact h2 k _
    ·rename_i hk2;simp only[zz5,List.length_singleton] at hk;have e:k=(fX m ls picks h i).length:=by omega
     subst e;simp[iQ,kv]
  ·exact ⟨h1,h2⟩
theorem J8{m:b7}(hm:ez m=true)(ls:List fC)(picks:List Int){h i:Nat}(hh:h≤5)(hi:i≤9999){x:av}(hx:x∈fX m ls picks h i):x.bN.e9=(h:Int):=by
 obtain ⟨k,hk,rfl⟩:=List.getElem_of_mem hx;rw[(xG hm ls picks h hh i hi).2 k hk]
theorem xF{m:b7}(hm:ez m=true)(ls:List fC)(picks:List Int):∀ h,h≤5→(∀ x∈gX m ls picks h,gi x=true∧lS x∧x.bN.e9<(h:Int))∧PY (gX m ls picks h)
 |0,_=>⟨by simp[gX],.nil⟩
 |h+1,hh=>by
  obtain ⟨h1,h2⟩:=xF hm ls picks h (by omega);have hn:=(xH ls).2;obtain ⟨h3,h4⟩:=xG hm ls picks h (by omega) (ig ls) (by omega);simp only[gX];refine ⟨fun x hx =>?_,List.pairwise_append.2 ⟨h2,List.pairwise_iff_getElem.2 fun i j hi hj hij =>?_,fun a ha b hb =>?_⟩⟩
  ·rcases zy1.1 hx with hx | hx
   ·obtain ⟨a,b,c⟩:=h1 x hx;exact ⟨a,b,by omega⟩
   ·obtain ⟨a,b⟩:=h3 x hx;exact ⟨a,b,by rw[J8 hm ls picks (by omega) (by omega) hx];omega⟩
  ·rw[h4 i hi,h4 j hj];simp[before];omega
  ·have e1:=(h1 a ha).2.2;have e2:=J8 hm ls picks (by omega) (by omega) hb;simp[before,e2];omega
theorem KF{m:b7}(hm:ez m=true)(ls:List fC)(picks:List Int):dU (oz m ls picks)=true:=by
 obtain ⟨h1,h2⟩:=xF hm ls picks 3 (by omega);exact tH.2 ⟨xE m ls picks 3,fun x hx=>(h1 x hx).1,h2⟩
theorem ahg{m:b7}(hm:ez m=true)(ls:List fC)(picks:List Int)(i:Nat):lS (af (oz m ls picks) i):=by
 by_cases h:i<(oz m ls picks).length
 ·rw[←lG h];exact ((xF hm ls picks 3 (by omega)).1 _ (zy9 h)).2.1
 ·have:af (oz m ls picks) i=default:=by simp[af,zz1,List.getElem?_eq_none (Nat.le_of_not_lt h)]
  rw[this];exact ⟨by decide,by decide,by decide⟩
def lR(b:aB):Prop:=0≤b.bP∧b.bP≤12∧1≤b.cM∧b.cM≤2∧1≤b.no∧b.no≤9999
theorem ahe{b b':aB}{x:av}(hb:lR b)(hx:lS x)(h:eT b x=some b'):lR b':=by
 simp only[eT] at h;obtain ⟨x1,x2,x3⟩:=hx;obtain ⟨b1,b2,b3,b4,b5,b6⟩:=hb
 repeat' split at h
 all_goals first
  |(cases h;done)
  |(simp only[u8] at h;subst h;exact ⟨by simp only;omega,by simp only;omega,b3,b4,b5,b6⟩)
theorem ahd{bs bs':List aB}{x:av}(hb:∀ b∈bs,lR b)(hx:lS x)(h:ea ev bs x=some bs'):∀ b∈bs',lR b:=by
 simp only[ea] at h;split at h
 ·rename_i hk;split at h
  ·simp only[u8] at h;subst h;intro b hm;simp only[ev,zy1,zw5] at hm;rcases hm with hm | rfl
   ·exact hb b hm
   ·obtain ⟨x1,x2,x3⟩:=hx;have:=x3 hk;exact ⟨x1,x2,this.1,this.2.1,this.2.2.1,by simp only[eY];omega⟩
  ·cases h
 ·split at h
  ·cases h
  ·rename_i b0 hb0;simp only[zz0] at h;obtain ⟨b',hb',rfl⟩:=h;intro b hm;simp only[lb,zx4] at hm;obtain ⟨a,ha,rfl⟩:=hm;split
   ·exact ahe (hb b0 (oi hb0).1) hx hb'
   ·exact hb a ha
theorem Kd(l:List av)(hl:∀ i,lS (af l i)):∀ (o:List Nat) (s:List aB×List Nat),(∀ b∈s.1,lR b)→∀ b∈(o.foldl (lh ev l) s).1,lR b
 | [],_,h=>h
 |i::o,s,h=>by
  refine Kd l hl o _ ?_;simp only[lh];split
  ·rename_i bs hbs;exact ahd h (hl i) hbs
  ·exact h
theorem Ke{l:List av}(hl:∀ i,lS (af l i))(day known:Int):∀ b∈cC l day known,lR b:=Kd l hl _ _ (by simp)
def n8(bs:List aB)(o s:Int):Nat:=(bs.filter fun b => !decide (0≤b.cL)&&(b.bP==o&&b.cM==s)).length
def l6(bs:List aB)(o:Nat):Nat→Nat
 |0=>0
 |s+1=>l6 bs o s+n8 bs ((o+1:Nat):Int) ((s+1:Nat):Int)
def jK(bs:List aB):Nat→Nat
 |0=>0
 |o+1=>jK bs o+l6 bs o 2
def oG(bs:List aB)(n:Nat):Nat:=(bs.filter fun b => !decide (0≤b.cL)&&(decide (1≤b.bP)&&decide (b.bP≤(n:Int)))).length
theorem U0(b:aB)(bs:List aB)(o s:Int):n8 (b::bs) o s=n8 bs o s+if (!decide (0≤b.cL)&&(b.bP==o&&b.cM==s))=true then 1 else 0:=by
 simp only[n8,zw1];split <;>simp
theorem akj{bs:List aB}(hb:∀ b∈bs,lR b)(o:Nat):oG bs (o+1)=oG bs o+l6 bs o 2:=by
 induction bs with
 |nil=>rfl
 |cons b bs ih =>
  have ih:=ih fun x hx=>hb x (by simp[hx]);obtain ⟨b1,b2,b3,b4,-,-⟩:=hb b (by simp);have hs:b.cM=1∨b.cM=2:=by omega
  simp only[l6,U0] at ih ⊢;simp only[oG,zw1] at ih ⊢;by_cases hd:0≤b.cL
  ·simp only[hd,decide_true,Bool.not_true,Bool.false_and,zz6,if_false];omega
  ·simp only[hd,decide_false,Bool.not_false,Bool.true_and];by_cases h1:b.bP=((o+1:Nat):Int)
   ·have e1:(decide (1≤b.bP)&&decide (b.bP≤((o+1:Nat):Int)))=true:=by simp;omega
    have e2:(decide (1≤b.bP)&&decide (b.bP≤(o:Int)))=false:=by simp;omega
    rw[e1,e2,if_pos rfl,if_neg (by decide),List.length_cons];rcases hs with hs | hs
    ·have f1:(b.bP==((o+1:Nat):Int)&&b.cM==((0+1:Nat):Int))=true:=by simp[h1,hs]
     have f2:(b.bP==((o+1:Nat):Int)&&b.cM==((0+1+1:Nat):Int))=false:=by simp[h1,hs]
     rw[if_pos f1,if_neg (by rw[f2];decide)];omega
    ·have f1:(b.bP==((o+1:Nat):Int)&&b.cM==((0+1:Nat):Int))=false:=by simp[h1,hs]
     have f2:(b.bP==((o+1:Nat):Int)&&b.cM==((0+1+1:Nat):Int))=true:=by simp[h1,hs]
     rw[if_pos f2,if_neg (by rw[f1];decide)];omega
   ·have f:∀ s:Int,(b.bP==((o+1:Nat):Int)&&b.cM==s)=false:=fun s=>by
     have:(b.bP==((o+1:Nat):Int))=false:=beq_eq_false_iff_ne.2 h1;rw[this];rfl
    have e:(decide (1≤b.bP)&&decide (b.bP≤((o+1:Nat):Int)))=(decide (1≤b.bP)&&decide (b.bP≤(o:Int))):=by
     rw[Bool.eq_iff_iff];simp;omega
    simp only[f,zz6,if_false,e];split <;>(try simp only[List.length_cons]) <;>omega
theorem Od{bs:List aB}(hb:∀ b∈bs,lR b):∀ o,jK bs o=oG bs o
 |0=>by
  have:(bs.filter fun b => !decide (0≤b.cL)&&(decide (1≤b.bP)&&decide (b.bP≤((0:Nat):Int))))=[]:=by
   rw[List.filter_eq_nil_iff];intro b _;simp;omega
  simp only[jK,oG,this,List.length_nil]
 |o+1=>by rw[jK,Od hb o,akj hb o]
def oe(l:List av)(day known no:Int):Int:=(np l no day known).1
theorem Ju{l:List av}{day known:Int}(hok:dU l=true)(hd:bS 0 100000 day=true)(hk:bS 0 100000 known=true){b:aB}(hb:b∈cC l day known)(hm:lR b)(ha:¬ 0≤b.cL):np l b.no day known=(b.bP,0):=by
 have hg:cW (cC l day known) b.no=some b:=wV (oo hok day known).1 hb;have hno:bS 1 9999 b.no=true:=by
  obtain ⟨-,-,-,-,h5,h6⟩:=hm;simp[bS];omega
 have hc:eL l [dG b.no 9999] [day,known]=0:=by
  have e1:(dG b.no 9999).g 0=b.no:=rfl;have e2:(dG b.no 9999).g 1=9999:=rfl;simp only[eL,hok,if_true,List.all_cons,List.all_nil,e1,e2,hno,Bool.and_true,List.any_cons,List.any_nil,hd,hk,Bool.not_true,Bool.or_false,zz6,if_false]
 simp only[np,hc,if_true,hg,if_neg ha]
theorem aiZ{l:List av}{day known:Int}(hok:dU l=true)(hl:∀ i,lS (af l i))(hd:bS 0 100000 day=true)(hk:bS 0 100000 known=true) :
  ((dJ (((cC l day known).filter fun b => !decide (0≤b.cL)).map (·.no))).filter fun no=>oe l day known no != 0).length=oG (cC l day known) 12:=by
 have hb:=Ke hl day known;rw[((qg _).filter _).length_eq,List.filter_map,zy2,List.filter_filter,oG]
 congr 1
 refine List.filter_congr fun b hm =>?_;obtain ⟨m1,m2,-,-,-,-⟩:=hb b hm;simp only[Function.comp];by_cases ha:0≤b.cL
 ·simp[ha]
 ·have:=Ju hok hd hk hm (hb b hm) ha;simp only[oe,this,ha,decide_false,Bool.not_false,Bool.and_true,Bool.true_and];rw[Bool.eq_iff_iff];simp;omega
end Go.Proofs.YtcldiigclhgafaaGreat
