/-
  A part of the proof that the law HerdTrue returns true for every input; conditions: none beyond the statement's own. (part 5 of 7)
-/
import Derived.Test.YtcldiigclhgafaaGreatRows
import Derived.Test.YtcldiigclhgafaaGreatNld
set_option linter.unusedSimpArgs false
set_option linter.unusedVariables false
set_option maxHeartbeats 16000000
set_option maxRecDepth 100000
namespace Go.Proofs.YtcldiigclhgafaaGreat
open Go Go.Abs
open Go.Abs.Enc (enc)
def ez(rs:List (aI 6 Int))(j:Nat):aI 6 Int:=rs.getD j kN
theorem ae3{A:ae}{rs:List (aI 6 Int)}{i:Nat}(h:i<rs.length):gP A 6 (i:Int) (enc rs)=some (.ref (enc (ez rs i))):=by
 rw[fJ 6 h rfl];simp[ez,zz1,h]
def uW(m:bQ)(rs:List (aI 6 Int))(g:bZ)(j:Nat):Bool:=decide (eE m.c5 g.mark (ez rs j)≤m.dh)
def ij(m:bQ)(rs:List (aI 6 Int))(n:Nat):List bZ:=m.given.filter fun g=>(List.range n).all (uW m rs g)
theorem agO(m:bQ)(rs:List (aI 6 Int)):ij m rs 0=m.given:=by simp[ij]
theorem J8(m:bQ)(rs:List (aI 6 Int))(n:Nat):ij m rs (n+1)=kG ⟨m.c5,m.dh,ij m rs n⟩ (ez rs n):=by
 simp only[ij,kG,fA,List.filter_filter];refine List.filter_congr fun g _ =>?_;rw[List.range_succ,List.all_append];simp only[List.all_cons,List.all_nil,Bool.and_true,uW];by_cases h:eE m.c5 g.mark (ez rs n)≤m.dh
 ·have h2:¬ m.dh<eE m.c5 g.mark (ez rs n):=by omega
  simp[h,h2]
 ·have h2:m.dh<eE m.c5 g.mark (ez rs n):=by omega
  simp[h,h2]
theorem agN{m:bQ}{rs:List (aI 6 Int)}{n:Nat}{g:bZ}(h:g∈ij m rs n):g∈m.given:=(zw5.1 h).1
theorem J7(m:bQ)(rs:List (aI 6 Int))(n:Nat):(ij m rs n).length≤m.given.length:=zv3 _ _
def qF(rs:List (aI 6 Int)):Bool:=(List.range rs.length).all fun i=>fb (ez rs i)
def gQ(m:bQ)(rs:List (aI 6 Int)):List Int×Int:=if ed m then (if rs.length≤60 then (if qF rs then ((ij m rs rs.length).map (·.b5),0) else ([],12)) else ([],2)) else ([],13)
theorem QB(w:aI 5 Int)(n:Int)(l:List bZ):dR [enc (a5 0 0 0 0 0),.int .i64 0,.nils 7] [(0,enc w),(1,.int .i64 n),(2,enc l)]=some [enc w,.int .i64 n,enc l]:=by
 have h1:((enc w:I).cd=true∧(enc w:I).size=(enc (a5 0 0 0 0 0)).size):=⟨dz _,by rw[fy,fy]⟩
 have h2:((enc l:I).cd=true∧(enc l:I).size=(I.nils 7).size):=⟨dz _,by rw[fy];rfl⟩
 rw[oj (z:=enc (a5 0 0 0 0 0)) rfl h1.1 h1.2,oj (v:=.int .i64 n) (z:=.int .i64 0) rfl rfl rfl,oj (z:=.nils 7) rfl h2.1 h2.2];rfl
theorem Oi(m:bQ)(rs:List (aI 6 Int)):aC Tryz.prog 128 [enc m,enc rs] (.tuple [enc (gQ m rs).1,enc (gQ m rs).2]):=by
 refine aC.bu Tryz.func128 Q6 SS UW (t7 rfl) (fun hwf W0 D0 E1 =>?_);simp only[Ab,Lb,bj,zz4];refine .ak (by decide +kernel) fun K hK =>?_;simp only[DY,J,simprocAttr]
 try simp only[dz,J,simprocAttr]
 refine .done (hK _ ?_);clear hK K;refine U.seq ?_;refine .ak (by decide +kernel) fun K hK =>?_;simp only[DZ,J,simprocAttr]
 try simp only[cv,cF,J,simprocAttr]
 refine .flat _ (ud m) rfl ?_;generalize hm:ed m=bm;cases bm
 ·try simp only[J,simprocAttr]
  refine .done (hK _ ?_);clear hK K;refine .ak (by decide +kernel) fun K hK =>?_;simp only[vx,J,simprocAttr];refine .done (hK _ ?_);clear hK K;refine U.bx ?_;simp only[au,J,simprocAttr];refine ⟨fun h =>?_,fun h =>?_⟩
  ·refine .ak (by decide +kernel) fun K hK =>?_;simp only[D4,J,simprocAttr];refine .done (hK _ ?_);clear hK K;refine U.ret ?_;simp only[al,J,simprocAttr];simp[gQ,hm,xl]
  ·cases h
 try simp only[J,simprocAttr]
 refine .done (hK _ ?_);clear hK K;refine .ak (by decide +kernel) fun K hK =>?_;simp only[vx,J,simprocAttr];refine .done (hK _ ?_);clear hK K;refine U.bx ?_;simp only[au,J,simprocAttr];refine ⟨fun h =>?_,fun h =>?_⟩
 ·cases h
 refine U.skip ?_;try simp only[al,simprocAttr]
 refine U.seq ?_;refine .ak (by decide +kernel) fun K hK =>?_;simp only[D5,J,simprocAttr]
 try simp only[bP,J,simprocAttr]
 refine .done (hK _ ?_);clear hK K;refine U.bx ?_;simp only[au,J,simprocAttr];refine ⟨fun h =>?_,fun h =>?_⟩
 ·refine .ak (by decide +kernel) fun K hK =>?_;simp only[D6,J,simprocAttr];refine .done (hK _ ?_);clear hK K;refine U.ret ?_;simp only[al,J,simprocAttr];have:¬ rs.length≤60:=by simp at h;omega
  simp[gQ,hm,this,xl]
 have hrl:rs.length≤60:=by simp at h;omega
 refine U.skip ?_;try simp only[al,simprocAttr]
 have hlen:m.given.length≤1000:=by have:=Kj hm;omega
 -- from the clone on
 have key:∀ c:cI,c=⟨Tryz.prog,W0,D0,Tryz.f128.ntmps,dm E1,E1,ig,none⟩→U c (.seq (.seq (.b6 none vy) (.block 0 (.loop (.seq (.b6 none vz) (.seq (.cond (.t 25) .skip (.exit 0)) (.seq (.block 1 (.seq (.b6 none vA) (.seq (.seq (.b6 none vt) (.seq (.b6 none sd) (.cond (.t 31) (.seq (.b6 none vu) .ret) .skip))) (.b6 none vv)))) (.b6 none sf))))))) (.seq (.b6 none vw) .ret))
   (jq [.tmp 4,.tmp 5] (.tuple [enc (gQ m rs).1,enc (gQ m rs).2])) (ar [(1,enc rs),(2,.ptr 2 []),(7,enc m.given)] [(2,.box (enc m))]):=by
  rintro c rfl;refine U.seq ?_;refine .ak (by decide +kernel) fun K hK =>?_;simp only[vy,J,simprocAttr]
  try simp only[bP,J,simprocAttr]
  refine .done (hK _ ?_);clear hK K;refine U.block (U.loop (fun i:Nat=>ar [(1,enc rs),(2,.ptr 2 []),(7,enc (ij m rs i)),(22,enc rs),(23,.int .i64 rs.length),(24,.int .i64 i)] [(2,.box (enc m))]) (fun i=>i≤rs.length∧∀ j,j<i→fb (ez rs j)=true) (fun i=>rs.length-i) 0 ⟨by omega,fun j h=>by omega⟩ ?_ (fun i hi =>?_))
  ·rw[agO];refine aF.bY ?_ ?_ ?_ ?_ <;>simp[aV,bO,bM,br,aq,aW,ct,I.only,ah.only,bA]
  refine .ak (by decide +kernel) fun K hK =>?_;simp only[vz,J,simprocAttr];refine .done (hK _ ?_);clear hK K;refine U.seq ?_;refine U.bx ?_;simp only[au,J,simprocAttr];refine ⟨fun h =>?_,fun h =>?_⟩
  case refine_2.refine_2 =>
   have hge:i=rs.length:=by simp at h;omega
   subst hge;have hok:qF rs=true:=oG hi.2;refine U.exit ?_;try simp only[al,bJ,simprocAttr]
   refine .ak (by decide +kernel) fun K hK =>?_;simp only[vw,J,simprocAttr]
   try simp only[cF,J,simprocAttr]
   refine .lead _ (OK (ij m rs rs.length) (zv7 (J7 _ _ _) hlen)) ?_
   try simp only[J,simprocAttr]
   refine .done (hK _ ?_);clear hK K;refine U.ret ?_;simp only[J,simprocAttr]
   try simp only[cF,J,simprocAttr]
   simp[gQ,hm,hrl,hok]
  have hlt:i<rs.length:=by simp at h;omega
  refine U.skip ?_;try simp only[al,simprocAttr]
  refine U.seq (U.block ?_);refine .ak (by decide +kernel) fun K hK =>?_;simp only[vA,J,simprocAttr]
  try simp only[cv,ae3 hlt,Co,pO,J,simprocAttr]
  refine .done (hK _ ?_);clear hK K;refine U.seq ?_;refine .ak (by decide +kernel) fun K hK =>?_;simp only[vt,J,simprocAttr]
  try simp only[cv,cF,J,simprocAttr]
  refine .flat _ (yT (ez rs i)) rfl ?_;generalize hr:fb (ez rs i)=aU;cases aU
  ·try simp only[J,simprocAttr]
   refine .done (hK _ ?_);clear hK K;refine .ak (by decide +kernel) fun K hK =>?_;simp only[sd,J,simprocAttr];refine .done (hK _ ?_);clear hK K;refine U.bx ?_;simp only[au,J,simprocAttr];refine ⟨fun h =>?_,fun h =>?_⟩
   ·refine .ak (by decide +kernel) fun K hK =>?_;simp only[vu,J,simprocAttr];refine .done (hK _ ?_);clear hK K;refine U.ret ?_;simp only[bJ,al,J,simprocAttr];have hok:qF rs=false:=mM i hlt hr;simp[gQ,hm,hrl,hok,xl]
   ·cases h
  try simp only[J,simprocAttr]
  refine .done (hK _ ?_);clear hK K;refine .ak (by decide +kernel) fun K hK =>?_;simp only[sd,J,simprocAttr];refine .done (hK _ ?_);clear hK K;refine U.bx ?_;simp only[au,J,simprocAttr];refine ⟨fun h =>?_,fun h =>?_⟩
  ·cases h
  refine U.skip ?_;try simp only[al,simprocAttr]
  have hof:∀ j,j<i+1→fb (ez rs j)=true:=fun j hj=>by
   rcases Nat.lt_or_ge j i with h1 | h1
   ·exact hi.2 j h1
   ·have:j=i:=by omega
    subst this;exact hr
  refine .bd (by decide +kernel) fun K hK =>?_;simp only[vv,J,simprocAttr]
  try simp only[cv,cF,QB,Cn,qd,J,simprocAttr]
  refine .bU false [(7,40)] [] [enc (⟨m.c5,m.dh,ij m rs i⟩:bQ),enc (ez rs i)] (KQ 7 ⟨m.c5,m.dh,ij m rs i⟩ (ez rs i)) rfl (OJ ⟨m.c5,m.dh,ij m rs i⟩ (ez rs i) (fun g hg=>Kl hm g (agN hg)) (zv7 (J7 m rs i) hlen)) fS.nil ⟨.inl ⟨(jR _ _).symm,bA _ _,dz _⟩,.inl ⟨(jR _ _).symm,bA _ _,dz _⟩,trivial⟩ ?_ ?_
  ·rintro x os' (⟨_,rfl,rfl⟩ | ⟨k,rfl,rfl⟩)
   ·exact er.nil (fun _=>rfl) (fun h=>by cases h)
   ·exact er.sX (fun p=>mb p _) (fun h=>by cases h) rfl (fun h=>by cases h) rfl (by decide)
  ·rintro x os' (⟨hp,rfl,rfl⟩ | ⟨k,rfl,rfl⟩)
   ·try simp only[jR,jn,zy8,J,simprocAttr]
    refine .done (hK _ ?_);clear hK K;try simp only[al,bJ]
    refine .bd (by decide +kernel) fun K hK =>?_;simp only[sf,J,simprocAttr];refine .done (hK _ ?_);clear hK K;try simp only[al]
    refine ⟨i+1,⟨by omega,hof⟩,by omega,?_⟩;rw[cA _ (by omega) (by omega),J8,hp];refine aF.bY ?_ ?_ ?_ ?_ <;>simp[aV,bO,bM,br,aq,aW,ct,I.only,ah.only,bA]
   ·try simp only[iq,jn,iR,zy0,zy8,J,simprocAttr]
    refine .done (hK _ ?_);clear hK K;try simp only[al,bJ]
    refine .bd (by decide +kernel) fun K hK =>?_;simp only[sf,J,simprocAttr];refine .done (hK _ ?_);clear hK K;try simp only[al]
    refine ⟨i+1,⟨by omega,hof⟩,by omega,?_⟩;rw[cA _ (by omega) (by omega),J8];refine aF.nK (y:=enc (kG ⟨m.c5,m.dh,ij m rs i⟩ (ez rs i))) [40] 7 rfl ?_ ?_ ?_ ?_ ?_ ?_
    ·try simp only[iL,zw2,List.filter_nil,List.contains_cons,List.contains_nil,Nat.reduceBEq,Bool.or_false,BEq.rfl,r8 (α:=bZ) (sz:=7) rfl,yC,J,simprocAttr]
    ·simp[cW,br,ah.only,bA]
    ·simp[aV,fV,aW,I.only,bA]
    ·simp[bO,cW,ct]
    ·simp[bM,aq,ct,I.only,bA]
    ·simp[br,ah.only,bA]
 refine .ak (by decide +kernel) fun K hK =>?_;simp only[D7,J,simprocAttr]
 try simp only[cv,cF,J,simprocAttr]
 refine .bU false [(7,21)] [] [enc m.given] (uK m.given) rfl (yW m.given hlen) fS.nil ⟨.inl ⟨(jR _ _).symm,bA _ _,dz _⟩,trivial⟩ ?_ ?_
 ·rintro x os' (⟨_,h | h,rfl⟩ | ⟨_,k,rfl,rfl⟩)
  ·subst h;exact er.nil (fun _=>rfl) (fun h=>by cases h)
  ·subst h;exact er.nil (fun _=>rfl) (fun h=>by cases h)
  ·exact er.sX (fun p=>mb p _) (fun h=>by cases h) rfl (fun h=>by cases h) rfl (by decide)
 ·rintro x os' (⟨hn,h,rfl⟩ | ⟨hn,k,rfl,rfl⟩)
  ·have hren:∀ x:I,(x=.nils 7∨x=.c0 7)→x.aO (bD [(7,21)])=x:=by rintro x (rfl | rfl) <;>simp only[I.aO]
   rw[hren x h]
   try simp only[jn,zy8,J,simprocAttr]
   refine .done (hK _ ?_);clear hK K;refine U.sub (aF.nK (y:=enc m.given) [] 7 rfl ?_ ?_ ?_ ?_ ?_ ?_) (key _ rfl)
   ·rw[hn];rcases h with rfl | rfl <;>simp only[gE,zx2] <;>rfl
   ·simp[cW,br,ah.only,bA]
   ·simp[aV,fV,aW,I.only,bA]
   ·simp[bO,cW,ct]
   ·simp[bM,aq,ct,I.only,bA]
   ·simp[br,ah.only,bA]
  ·try simp only[iq,jn,iR,zy0,zy8,J,simprocAttr]
   refine .done (hK _ ?_);clear hK K;refine U.sub (aF.nK (y:=enc m.given) [21] 7 rfl ?_ ?_ ?_ ?_ ?_ ?_) (key _ rfl)
   ·try simp only[iL,zw2,List.filter_nil,List.contains_cons,List.contains_nil,Nat.reduceBEq,Bool.or_false,BEq.rfl,r8 (α:=bZ) (sz:=7) rfl,yC,J,simprocAttr]
   ·simp[cW,br,ah.only,bA]
   ·simp[aV,fV,aW,I.only,bA]
   ·simp[bO,cW,ct]
   ·simp[bM,aq,ct,I.only,bA]
   ·simp[br,ah.only,bA]
theorem CK(n:Nat)(ts:List (Nat×I)):∀ t,Abs.b9 (fV [n] ts) t=if (Abs.b9 ts t).only (fun j => ![n].contains j)=true then Abs.b9 ts t else .c8:=by
 intro t;simp only[fV]
 induction ts with
 |nil=>simp[Abs.b9]
 |cons q ts ih =>
  obtain ⟨k,v⟩:=q;simp only[zz9,Abs.b9];split
  ·rfl
  ·exact ih
theorem tV{p q:Nat→Bool}(h:∀ n,p n=true→q n=true){y:ah}(hy:y.only p=true):y.only q=true:=by
 cases y with
 |box x=>exact iN h _ hy
 |bT T sz es=>exact ik h _ hy
 |dD o=>rfl
 |cO T xs=>rfl
 |cq ks vs=>simp only[ah.only,zz2] at hy ⊢;exact ⟨ik h _ hy.1,ik h _ hy.2⟩
 |it ks vs l c=>simp only[ah.only,zz2] at hy ⊢;exact ⟨ik h _ hy.1,ik h _ hy.2⟩
theorem tg{n k:Nat} : ∀ {ts:List (Nat×I)},(∀ q∈ts,nh n k q.2)→∀ t,nh n k (Abs.b9 ts t)
 | [],_,_=>.inr rfl
 |(a,v)::ts,h,t=>by
  simp only[Abs.b9];split
  ·exact h (a,v) (by simp)
  ·exact tg (fun q hq=>h q (by simp[hq])) t
theorem th{p:Nat→Bool}{n k:Nat}(hp:p=fun j => ![n].contains j)(f:ah→ah)(hf:∀ y:ah,y.only p=true→f y=y):∀ {os:List (Nat×ah)},br p (cW [n] os)→br p (cW [n] (os.map fun q=>(q.1,f q.2)))
 | [],_=>trivial
 |(m,y)::os,h=>by
  simp only[zz9,cW,zw2] at h ⊢;split
  ·rename_i hm;rw[if_pos hm] at h;refine ⟨?_,th (k:=k) hp f hf h.2⟩;rw[hf y h.1];exact h.1
  ·rename_i hm;rw[if_neg hm] at h;exact th (k:=k) hp f hf h
theorem CN{ys q:List Int}{k:Nat}(hk:ys.length=k):l6 1 0 k (some ((ys++q).map enc))=some (enc ys):=by
 have h:(((ys++q).map (enc (α:=Int))).drop 0).take k=ys.map enc:=by
  rw[List.drop_zero,zx6,zw4 (by simp[hk]),zw6 (by simp[hk])]
 simp only[l6,h];rw[if_pos (kj ys),gE];rfl
theorem NJ{n k:Nat} : ∀ y:ah,y.only (fun j => ![n].contains j)=true→ir (ft n k) y=y:=fun y hy=>by
 cases y <;>try rfl
 simp only[ah.only] at hy;simp only[ir,qZ (iN (fun j hj=>by simpa using hj) _ hy)]
theorem NI{n:Nat} : ∀ y:ah,y.only (fun j => ![n].contains j)=true→ir (fr n) y=y:=fun y hy=>by
 cases y <;>try rfl
 simp only[ah.only] at hy;simp only[ir,yB (iN (fun j hj=>by simpa using hj) _ hy)]
theorem NG{ts ts':List (Nat×I)}(h:∀ q∈ts',Abs.b9 ts q.1=q.2):aV ts ts':=by
 induction ts' with
 |nil=>trivial
 |cons q ts' ih=>exact ⟨h q (by simp),ih fun q hq=>h q (by simp[hq])⟩
theorem U.Nn{W0:World}{D0:aL}{nn:Nat}{ow:Nat→Prop}{E1:aT}{Y:Value→List I→List (Nat×ah)→cR→Prop}{mz:Option Nat}{y:aM}{Q:Exit→ae→Prop}{ts:List (Nat×I)}{os:List (Nat×ah)}{a b d n:Nat}{xs:List Int}
  (hd:Abs.b9 ts d=.own n xs.length) (hn:aj os n=some (.cO 3 xs)) (hlt:n<1000000) (hl:xs.length≤60) (ht:∀ t,nh n xs.length (Abs.b9 ts t)) (ho:br (fun j => ![n].contains j) (cW [n] os))
  (ts':List (Nat×I)) (h1:∀ q∈ts',q.1≠a∧q.1≠b∧Abs.b9 ts q.1=q.2∧q.2.only (fun j=>j != n)=true)
  (hda:d≠a) (hdb:d≠b)
  (h:U ⟨Tryz.prog,W0,D0,nn,ow,E1,Y,mz⟩ y Q (ar ((d,enc (dZ xs))::ts') (cW [n] os))) :
  U ⟨Tryz.prog,W0,D0,nn,ow,E1,Y,mz⟩ (.seq (.b6 none [⟨some a,.mv (.t d),none⟩,⟨some b,.call 107 [.t a],none⟩]) y) Q (ar ts os):=by
 have hdrop:∀ m,aj (cW [n] os) m=if m=n then none else aj os m:=fun m=>by
  have:=m9 [n] os m;simpa using this
 have ho':∀ m y,aj os m=some y→m≠n→y.only (fun j=>j != n)=true:=fun m y hy hm=>by
  have:=xI ho m y (by rw[hdrop,if_neg hm];exact hy);exact tV (fun j hj=>by simpa using hj) this
 by_cases hx:xs=[]
 ·subst hx;refine U.sub (aF.NN hn (aF.refl _)) ?_;refine U.seq (U.b6 (cl:=[]) (by rfl) fun K hK =>?_);have hd':Abs.b9 (ts.map fun q=>(q.1,fr n q.2)) d=.nils 1:=by
   rw[pf _ rfl,hd];simp[fr]
  simp only[J,simprocAttr,hd'];refine .flat _ (Od _ (.inr rfl)) rfl ?_
  try simp only[J,simprocAttr]
  refine .done (hK _ ?_);clear hK K;refine U.sub ((aF.hZ [n] d (x:=.nils 1) (y:=enc ([]:List Int)) ?_ (by rfl) ?_).trans (aF.c4 ?_ fun m =>?_)) h
  ·simp only[Abs.b9,hda,hdb,if_false];exact hd'
  ·exact th (k:=0) rfl (ir (fr n)) NI ho
  ·refine ⟨by simp[Abs.b9,dZ],NG fun q hq =>?_⟩;obtain ⟨k1,k2,k3,k4⟩:=h1 q hq;have hqd:q.1≠d:=fun e=>by
    rw[e,hd] at k3;rw[←k3] at k4;simp[I.only] at k4
   have h5:Abs.b9 (ts.map fun p=>(p.1,fr n p.2)) q.1=q.2:=by
    rw[pf _ rfl,k3,yB k4]
   simp only[Abs.b9,CK,k1,k2,hqd,if_false,h5];rw[if_pos (iN (fun j hj=>by simpa using hj) _ k4)]
  ·rw[hdrop,m9,sM];by_cases hm:m=n
   ·simp[hm]
   ·cases h6:aj os m with
    |none=>simp[hm]
    |some y =>
     have h7:ir (fr n) y=y:=NI _ (tV (fun j hj=>by simpa using hj) (ho' _ _ h6 hm));simp[hm,h7]
 ·refine U.NM hn hx hlt ht (fun m y hy hm=>.inr (ho' m y hy hm)) fun q =>?_;refine U.seq (U.b6 (cl:=[]) (by rfl) fun K hK =>?_);have hd':Abs.b9 (ts.map fun p=>(p.1,ft n xs.length p.2)) d=.view n [] 1 0 xs.length:=by
   rw[pf _ rfl,hd];simp[ft]
  simp only[J,simprocAttr,hd'];refine .bU false [(1000000,n)] (cu 1000000 (xs++List.replicate q 0)) [.view 1000000 [] 1 0 xs.length] _ rfl (Oc xs _ (by omega)) ?_ ?_ ?_ ?_
  ·refine ⟨fun m y hy =>?_,fun m m' h h' _=>by rw[di.1 h,di.1 h']⟩;simp only[cu,aj] at hy;split at hy
   ·rename_i hm;cases hy;subst hm;exact ⟨by simp only[bD,if_true,aj,ah.aO,I.aO,iR],nT _ _,rfl⟩
   ·cases hy
  ·exact ⟨.inl ⟨by simp[I.aO,bD],di.2 rfl,rfl⟩,trivial⟩
  ·rintro ez os2 ⟨rfl,rfl⟩;refine ⟨fun m y hy =>?_,fun m m' h h' _=>by rw[di.1 h,di.1 h'],fun m hm=>by rw[di.1 hm];exact di.2 rfl,fun m a b=>by rw[di.1 a] at b;simp[cu,aq,aj] at b,rfl,fun _=>rfl⟩;simp only[cu,aj] at hy;split at hy
   ·cases hy;exact ⟨nT _ _,rfl,fun h=>by cases h⟩
   ·cases hy
  ·rintro ez os2 ⟨rfl,rfl⟩
   try simp only[cu,dJ,zz9,zx2,ah.aO,I.aO,iR,bD,reduceIte,zy0,zy8,I.cP,J,simprocAttr]
   refine .done (hK _ ?_);clear hK K;refine U.sub ((aF.hZ [n] d (x:=.view n [] 1 0 xs.length) (y:=enc (dZ xs)) ?_ ?_ ?_).trans (aF.c4 ?_ fun m =>?_)) h
   ·simp only[Abs.b9,hda,hdb,if_false];exact hd'
   ·have:aj (iL [n] ((n,ah.box (I.agg ((dZ xs++List.replicate q 0).map enc)))::(n,ah.box (I.agg ((xs++List.replicate q 0).map enc)))::os.map fun p=>(p.1,ir (ft n xs.length) p.2))) n=some (.box (.agg ((dZ xs++List.replicate q 0).map enc))):=by
     rw[nS];simp[aj]
    try simp only[this,J,simprocAttr]
    exact CN (by simp[dZ])
   ·have:=th (k:=0) rfl (ir (ft n xs.length)) NJ ho;simpa[cW] using this
   ·refine ⟨by simp[Abs.b9],NG fun q hq =>?_⟩;obtain ⟨k1,k2,k3,k4⟩:=h1 q hq;have hqd:q.1≠d:=fun e=>by
     rw[e,hd] at k3;rw[←k3] at k4;simp[I.only] at k4
    have h5:Abs.b9 (ts.map fun p=>(p.1,ft n xs.length p.2)) q.1=q.2:=by
     rw[pf _ rfl,k3,qZ k4]
    simp only[Abs.b9,CK,k1,k2,hqd,if_false,h5];rw[if_pos (iN (fun j hj=>by simpa using hj) _ k4)]
   ·rw[hdrop,m9];by_cases hm:m=n
    ·simp[hm]
    ·simp only[aj,if_neg hm,sM];cases h6:aj os m with
     |none=>simp[hm]
     |some y =>
      have h7:ir (ft n xs.length) y=y:=NJ _ (tV (fun j hj=>by simpa using hj) (ho' _ _ h6 hm));simp[hm,h7]
def fm(l:List aw)(o:List Nat)(i:Nat):List aR×List Nat:=(o.take i).foldl (mH eD l) ([],[])
theorem KN{l:List aw}{o:List Nat}{i:Nat}(h:i<o.length):fm l o (i+1)=mH eD l (fm l o i) (o.getD i 0):=by
 have e:o.getD i 0=o[i]:=by rw[zz1,zz8 h];rfl
 simp only[fm];rw[zy5 h,List.foldl_append,e];rfl
theorem KM(l:List aw)(o:List Nat):fm l o o.length=qK eD l o:=by simp only[fm,List.take_length];rfl
theorem PY{bs bs':List aR}{x:aw}{n:Nat}(hs:∀ b∈bs,b.bL.length≤n)(h:ef eD bs x=some bs'):bs'.length≤bs.length+1∧∀ b∈bs',b.bL.length≤n+1:=by
 simp only[ef] at h;split at h
 ·split at h
  ·simp only[u8] at h;subst h;refine ⟨by simp[eD],fun b hb =>?_⟩;simp only[eD,zy7,List.mem_singleton] at hb;rcases hb with hb | rfl
   ·exact Nat.le_succ_of_le (hs b hb)
   ·simp[fL]
  ·cases h
 ·split at h
  ·cases h
  ·rename_i b0 hb0;simp only[zz0] at h;obtain ⟨b',hb',rfl⟩:=h;refine ⟨by simp[lM],fun b hb =>?_⟩;simp only[lM,zx5] at hb;obtain ⟨c,hc,rfl⟩:=hb;split
   ·have h0:=hs b0 (Ja hb0).1;simp only[iY] at hb'
    repeat' split at hb'
    all_goals first
     |(cases hb';done)
     |(simp only[u8] at hb';subst hb';simp only[zz5,List.length_singleton];omega)
     |(simp only[u8] at hb';subst hb';simp only;omega)
   ·exact Nat.le_succ_of_le (hs c hc)
theorem xQ(l:List aw)(o:List Nat):∀ i,i≤o.length→((fm l o i).1.map (·.no)).Nodup∧(fm l o i).1.length≤i∧(∀ b∈(fm l o i).1,b.bL.length≤i)∧(fm l o i).2.length≤i
 |0,_=>⟨by simp[fm],by simp[fm],by simp[fm],by simp[fm]⟩
 |i+1,h=>by
  obtain ⟨h1,h2,h3,h4⟩:=xQ l o i (by omega);rw[KN (by omega)];simp only[mH];split
  ·rename_i bs hb;have:=PY h3 hb;exact ⟨PX PE h1 hb,by simp only;omega,this.2,by simp only;omega⟩
  ·exact ⟨h1,by simp only;omega,fun b hb=>Nat.le_succ_of_le (h3 b hb),by simp;omega⟩
theorem JK(B:Nat)(b:aR):∀ (bs:List aR) (i:Nat),eI B i (bs++[b])=eI B i bs++eI B (i+bs.length) [b]
 | [],i=>rfl
 |a::bs,i=>by
  simp only[zy0,eI,JK B b bs (i+1),zv5];rw[show i+1+bs.length=i+(bs.length+1) by omega]
theorem ahx(B n:Nat):dY B (n+1)=dY B n++[.ptr (B+2+2*n) []]:=by
 simp only[dY,List.range_succ,zx6,zz9,zx2]
theorem qm{bs:List aR}{n:Nat}(h:¬ (n=43∨n=41∨(2002≤n∧n<2002+2*bs.length))):aj (dP bs) n=none:=by
 have:=wD (bs:=bs) (n:=n);rw[decide_eq_false h] at this;simpa[aq] using this
theorem aeT{bs:List aR}{n:Nat}(h:n=43∨n=41∨(2002≤n∧n<2002+2*bs.length)):∃ y,aj (dP bs) n=some y:=by
 have:=wD (bs:=bs) (n:=n);rw[decide_eq_true h] at this;exact zw0.1 this
theorem wW{bs bs':List aR}{z y:ah}(h:bs.length≤bs'.length)(n:Nat):aj (dP bs'++((900,z)::(dP bs++[(3,y)]))) n=aj ((900,z)::(dP bs'++[(3,y)])) n:=by
 simp only[jY,aj];by_cases h1:n=43∨n=41∨(2002≤n∧n<2002+2*bs'.length)
 ·obtain ⟨ao,hu⟩:=aeT h1;have:n≠900:=by omega
  simp only[hu,this,if_false]
 ·have h2:aj (dP bs) n=none:=qm (by omega);simp only[qm h1,h2]
theorem afE{bs:List aR}{z z' y:ah}(n:Nat):aj ((900,z')::(dP bs++((900,z)::(dP bs++[(3,y)])))) n=aj ((900,z')::(dP bs++[(3,y)])) n:=by
 have h:=wW (bs:=bs) (bs':=bs) (z:=z) (y:=y) (zz6 _) n;by_cases hn:n=900
 ·simp only[aj,hn,if_true]
 ·simp only[aj,if_neg hn] at h ⊢;rw[h]
theorem afD{bs:List aR}{b:aR}{z y:ah}(hk:bs.length≤60)(hb:b.bL=[])(n:Nat) :
  aj ((2002+2*bs.length,.box (ec b (.own (2003+2*bs.length) 0)))::(2003+2*bs.length,.bT 66 6 [])::(mX bs b++((900,z)::(dP bs++[(3,y)])))) n=aj ((900,z)::(dP (bs++[b])++[(3,y)])) n:=by
 have hC:aj (dP (bs++[b])) n=if n=43 then some (.box (.agg [.mref 41])) else if n=41 then some (.cq (dc (bs++[b])) (dY 2000 bs.length++[.ptr (2002+2*bs.length) []])) else
   match aj (eI 2000 0 bs) n with
   |some ao=>some ao
   |none=>if n=2002+2*bs.length then some (.box (ec b (.own (2003+2*bs.length) 0))) else if n=2003+2*bs.length then some (.bT 66 6 []) else none:=by
  simp only[dP,aj,JK,jY,eI,hb,zx2,List.length_nil,zz5,List.length_singleton,ahx,zz4];rfl
 have hL:aj (dP bs) n=if n=43 then some (.box (.agg [.mref 41])) else if n=41 then some (.cq (dc bs) (dY 2000 bs.length)) else aj (eI 2000 0 bs) n:=rfl
 have hlow:n<2002→aj (eI 2000 0 bs) n=none:=fun h=>sI 2000 bs 0 n (by omega);have hhigh:2002+2*bs.length≤n→aj (eI 2000 0 bs) n=none:=fun h=>sG 2000 bs 0 n (by omega);simp only[aj,jY,mX,zy0,hC,hL];by_cases c1:n=2002+2*bs.length
 ·have d1:¬ n=900:=by omega
  have d2:¬ n=43:=by omega
  have d3:¬ n=41:=by omega
  rw[if_pos c1,if_neg d1,if_neg d2,if_neg d3,hhigh (by omega)];simp only[c1,if_true]
 by_cases c2:n=2003+2*bs.length
 ·have d1:¬ n=900:=by omega
  have d2:¬ n=43:=by omega
  have d3:¬ n=41:=by omega
  rw[if_neg c1,if_pos c2,if_neg d1,if_neg d2,if_neg d3,hhigh (by omega)];simp only[c2,if_true];rw[if_neg (by omega)]
 rw[if_neg c1,if_neg c2];by_cases c3:n=41
 ·have d1:¬ n=900:=by omega
  have d2:¬ n=43:=by omega
  rw[if_pos c3,if_neg d1,if_neg d2,if_pos c3]
 rw[if_neg c3,if_neg c1];by_cases jd:n=43
 ·have d1:¬ n=900:=by omega
  simp only[jd,if_true];simp
 rw[if_neg jd,if_neg jd];by_cases kU:n=900
 ·have:=hlow (by omega);subst kU;simp[this]
 ·cases hq:aj (eI 2000 0 bs) n with
  |some ao=>simp only[kU,c3,if_false]
  |none=>simp only[kU,c3,c1,c2,if_false]
theorem xJ{p:Nat→Bool}{ns:List Nat} : ∀ {os:List (Nat×ah)},br p os→br p (cW ns os)
 | [],_=>trivial
 |(m,y)::os,h=>by
  simp only[cW,zw2];split
  ·exact ⟨h.1,xJ h.2⟩
  ·exact xJ h.2
theorem Kv{p:Nat→Bool} : ∀ {os os':List (Nat×ah)},br p os→br p os'→br p (os++os')
 | [],_,_,h=>h
 |_::_,_,h,k=>⟨h.1,Kv h.2 k⟩
theorem JL{p:Nat→Bool}{B:Nat}(hp:∀ j,B≤j→p j=true):∀ (bs:List aR) (i:Nat),br p (eI B i bs)
 | [],_=>trivial
 |b::bs,i=>⟨by simp[ah.only,ec,I.only,I.b8,hp _ (show B≤B+3+2*i by omega)],fe _ _,JL hp bs (i+1)⟩
theorem aeS{p:Nat→Bool}(hp:∀ j,2000≤j→p j=true)(h41:p 41=true)(bs:List aR):br p (dP bs) :=
 ⟨by simp[ah.only,I.only,I.b8,h41],by simp only[ah.only,zz2];exact ⟨fe _ _,xL _ fun i _=>hp _ (by omega)⟩,JL hp bs 0⟩
def gl(bs:List aR):I:=.ref (.agg [.cL (dc bs) (bs.map fun b=>.ref (enc (⟨b⟩:eC)))])
theorem JU{f:I→Option I} : ∀ {xs ys:List I},xs.length=ys.length→(∀ (i:Nat) (x y:I),xs[i]?=some x→ys[i]?=some y→f x=some y)→fC f xs=some ys
 | [],[],_,_=>rfl
 |x::xs,y::ys,hl,h=>by
  have h1:=h 0 x y rfl rfl;have h2:=JU (f:=f) (xs:=xs) (ys:=ys) (by simpa using hl) fun i a b ha hb=>h (i+1) a b ha hb;simp only[fC,h1,h2]
theorem X7{A:ae}{bs:List aR}(hA:∀ m y,aj (dP bs) m=some y→A.o m=some y):bg true A (.ptr 43 [])=some (gl bs):=by
 have h43:A.o 43=some (.box (.agg [.mref 41])):=hA _ _ rfl;have h41:A.o 41=some (.cq (dc bs) (dY 2000 bs.length)):=hA _ _ rfl;have hl:∀ k,k<bs.length→2002+2*k≠43∧2002+2*k≠41∧2003+2*k≠43∧2003+2*k≠41:=fun k hk=>by omega
 have hm:fC (dS A 7) (dY 2000 bs.length)=some (bs.map fun b=>.ref (enc (⟨b⟩:eC))):=by
  refine JU (by simp[dY]) fun i x y hx hy =>?_;have hi:i<bs.length:=by
   have:=(zy4.1 hx).1;simpa[dY] using this
  rw[KR hi] at hx;simp only[zx7,zz8 hi,zy3,u8] at hx hy;subst hx hy;obtain ⟨q1,q2,q3,q4⟩:=hl i hi;have h1:A.o (2000+2+2*i)=some (.box (ec bs[i] (.own (2000+3+2*i) (bs[i]).bL.length))):=hA _ _ (by
   simp only[dP,aj];rw[if_neg (by omega),if_neg (by omega)];have:=sH 2000 bs 0 i hi
   rwa [zz4] at this)
  have h2:A.o (2000+3+2*i)=some (.bT 66 6 ((bs[i]).bL.map enc)):=hA _ _ (by
   simp only[dP,aj];rw[if_neg (by omega),if_neg (by omega)];have:=sJ 2000 bs 0 i hi
   rwa [zz4] at this)
  have h3:=l5 (m:=3) h2;have h4:cz A (.ptr (2000+2+2*i) [])=some (ec bs[i] (.own (2000+3+2*i) (bs[i]).bL.length)):=by
   simp only[cz,h1];exact oL _
  rw[dS];simp only[I.bp,zz7,if_false,h4];rw[h3];rfl
 have h5:dS A 8 (.mref 41)=some (.cL (dc bs) (bs.map fun b=>.ref (enc (⟨b⟩:eC)))):=by
  rw[dS];simp only[I.bp,zz7,if_false,h41];rw[if_pos (show I.bW (dc bs)=true from kj _),hm];rfl
 have h6:dS A 9 (.agg [.mref 41])=some (.agg [.cL (dc bs) (bs.map fun b=>.ref (enc (⟨b⟩:eC)))]):=by
  rw[dS];simp only[I.bp,I.bW,Bool.and_true,zz7,if_false,fC,h5,zy3]
 simp only[bg,cz,h43,if_true,oL,I.bp,I.bW,Bool.and_true,zz7,if_false,h6];rfl
def qJ(l:List aw)(day known:Int):I:=.tuple [gl (qK eD l (jm l day known)).1,enc (dZ (du (qK eD l (jm l day known)).2))]
def Py(l:List aw)(ord:List Int):ae:=ar [(3,.ptr 3 []),(9,.nils 1),(11,.ptr 43 []),(12,kl),(45,enc ord),(46,.int .i64 ord.length),(47,.int .i64 0)] [(43,.box (.agg [.mref 41])),(41,.cq [] []),(3,.box (enc l))]
def zg(l:List aw)(o:List Nat)(i:Nat):ae:=ar [(3,.ptr 3 []),(9,.own 900 (du (fm l o i).2).length),(11,.ptr 43 []),(12,kl),(45,enc (du o)),(46,.int .i64 (du o).length),(47,.int .i64 i)] ((900,.cO 3 (du (fm l o i).2))::(dP (fm l o i).1++[(3,.box (enc l))]))
theorem ae5{xs:List Int}{i:Nat}(h:i<xs.length)(A:ae):gP A 1 (i:Int) (enc xs)=some (.ref (.int .i64 (xs.getD i 0))):=by
 rw[fJ 1 (by omega) rfl,zz1,zz8 h];rfl
noncomputable abbrev B9 (W0:World) (D0:aL) (E1:aT):cI := { P:=Tryz.prog,eR:=W0,D0:=D0,n:=Tryz.f88.ntmps,own:=dm E1,dL:=E1,Y:=ig,mz:=none }
def NZ:aM:=((aM.b6 none sm).seq ((aM.cond (aH.t 48) aM.skip (aM.exit 2)).seq ((aM.block 3 ((aM.b6 none v8).seq ((aM.b6 Cb sq).seq (aM.cond (aH.t 64) (aM.b6 none II) aM.skip)))).seq (aM.b6 none IJ))))
def ajc:aM:=(aM.b6 none IK).seq ((aM.b6 none IL).seq aM.ret)
theorem zc(l:List aw)(day known:Int)(hok:dC l=true){W0:World}{D0:aL}{E1:aT} : U (B9 W0 D0 E1) (.block 2 (.loop NZ)) (al (fun B=>U (B9 W0 D0 E1) ajc (jq [.tmp 6,.tmp 7] (qJ l day known)) B) (jq [.tmp 6,.tmp 7] (qJ l day known))) (Py l (pA l day known)):=by
 have hl:=nY hok;have hmem:∀ i∈jm l day known,i<l.length∧(ab l i).kind≠0:=fun i hi=>by
  have h1:=ahn hi;refine ⟨Cl h1,?_⟩;have:=(zw5.1 h1).2;simp only[zz2,decide_eq_true_eq] at this;exact this.1
 have hol:(jm l day known).length≤60:=by rw[KH];exact zv7 (uX l day known) hl
 have hall:=KM l (jm l day known);simp only[qJ,pA,←hall];clear hall;generalize jm l day known=o at hmem hol ⊢;have htl:(du o).length=o.length:=by simp[du]
 refine U.block (U.loop (fun i:Nat=>zg l o i) (fun i=>i≤o.length) (fun i=>o.length-i) 0 (zv4 _) ?_ (fun i hi =>?_))
 ·refine aF.zk 9 900 3 1 rfl rfl ?_;refine aF.c4 ?_ (fun n =>?_)
  ·simp[aV,aW,fm,du]
  ·simp only[fm,du,List.take_zero,List.foldl_nil,zx2,dP,eI,dY,dc,List.length_nil,List.range_zero,zy0,zy8]
 obtain ⟨hnd,hbl,hsl,hvl⟩:=xQ l o i hi;simp only[zg,NZ];have n3:aj ((900,.cO 3 (du (fm l o i).2))::(dP (fm l o i).1++[(3,.box (enc l))])) 3=some (.box (enc l)):=by
  simp only[aj,jY];rw[qm (by omega)];rfl
 by_cases hlt:i<o.length
 ·have hc:decide ((i:Int)<((du o).length:Int))=true:=by rw[htl];exact gI hlt
  have hw:=gb (i:=i) (by omega);have hst:=KN (l:=l) hlt;generalize fm l o i=s at *;obtain ⟨bs,vd⟩:=s;simp only at hnd hbl hsl hvl n3 hst ⊢;obtain ⟨j,hj⟩:∃ j,j=o.getD i 0:=⟨_,rfl⟩
  have hjm:j∈o:=by
   rw[hj,zz1,zz8 hlt];exact zy6 hlt
  obtain ⟨hjl,hjk⟩:=hmem j hjm;rw[←hj] at hst;have he:=kz hjl;have hi2:∀ A,gP A 1 (i:Int) (enc (du o))=some (.ref (.int .i64 (j:Int))):=fun A=>by
   rw[ae5 (by omega),hj]
   congr 3
   simp[du,zz1,zz8 hlt]
  obtain ⟨f,hf1,hf2,hf3⟩:=uT (bs:=bs) (xC hok hjl) hjk hnd (fun b hb=>by have:=hsl b hb;omega);have hmo:∀ A,fX A kl=some (mS,mT):=fun A=>rfl;refine .ak (by decide +kernel) fun K hK =>?_;simp only[sm,J,simprocAttr];simp only[hc];refine .done (hK _ ?_);clear hK K;refine U.seq ?_;refine U.bx ?_;simp only[au,J,simprocAttr];refine ⟨fun h =>?_,fun h =>?_⟩
  case refine_2=>cases h
  refine U.skip ?_;try simp only[al,simprocAttr]
  refine U.seq (U.block ?_);refine .ak (by decide +kernel) fun K hK =>?_;simp only[v8,J,simprocAttr]
  try simp only[hi2,J,simprocAttr]
  refine .done (hK _ ?_);clear hK K;refine U.seq (U.tw (gs:=sq) [172,173,174,175,176,177] [] [0,1,2,3,4,5,6,7,8,9,10,11,12,13] (by decide +kernel) (eT.of trivial) fun K hK =>?_)
  try simp only[pC,sq,List.getD_cons_zero,List.getD_cons_succ,n3,he,hmo,hf1,eJ,ew,bl,J,simprocAttr]
  have hlo:∀ bs',bs.length≤bs'.length→aj (dP bs'++((900,.cO 3 (du vd))::(dP bs++[(3,.box (enc l))]))) 900=some (.cO 3 (du vd)):=fun bs' h=>by
   rw[wW h];rfl
  have htv:(du vd).length=vd.length:=by simp[du]
  have hap:=fun (A:ae) d rest=>um (A:=A) (d:=d) (e:=3) (bytes:=8) (n:=900) (l:=(du vd).length) (xs:=du vd) (y:=(j:Int)) (rest:=rest) rfl (by simp[du,maxLen];omega) (by simp[du];omega);refine cB.uT (by omega) hf2 hf3 rfl (fun hb =>?_) (fun bs' hb hk =>?_) (fun hb =>?_)
  ·have hs2:fm l o (i+1)=(bs,vd++[j]):=by rw[hst];simp only[mH,hb]
   have h900:=hlo bs (zz6 _)
   try simp only[J,simprocAttr]
   have R:=v6 @h900 (v6 @hap (v6 @eJ (v6 @bP (v6 @bl @J))))
   repeat' ((first |(with_reducible refine .guard (fun hb =>?_) (fun hb =>?_) <;>try simp only[hb])|refine U.aX (by decide +kernel) rfl fun K hK =>?_|(refine .aQ [0,1,2,3,4,6,7,8,9,10,11,12,14,17,18,33,45,46,47,48,64] hK ?_;clear hK K)|(with_reducible refine .done (hK _ ?_);clear hK K)|refine U.of rfl ?_|(with_reducible refine au.aU (fun h =>?_) (fun h =>?_) <;>try simp only[h])) <;>try simp only[aZ,R,simprocAttr])
   all_goals clear R
   refine ⟨i+1,by omega,by omega,?_⟩;rw[hs2,hw];have e:du (vd++[j])=du vd++[(j:Int)]:=by simp[du]
   simp only[e];refine aF.c4 ?_ (fun n=>afE n);simp[aV,aW]
  ·have hs2:fm l o (i+1)=(bs',vd):=by rw[hst];simp only[mH,hb]
   try simp only[J,simprocAttr]
   have R:=v6 @eJ (v6 @bP (v6 @bl @J))
   repeat' ((first |(with_reducible refine .guard (fun hb =>?_) (fun hb =>?_) <;>try simp only[hb])|refine U.aX (by decide +kernel) rfl fun K hK =>?_|(refine .aQ [0,1,2,3,4,6,7,8,9,10,11,12,14,17,18,33,45,46,47,48,64] hK ?_;clear hK K)|(with_reducible refine .done (hK _ ?_);clear hK K)|refine U.of rfl ?_|(with_reducible refine au.aU (fun h =>?_) (fun h =>?_) <;>try simp only[h])) <;>try simp only[aZ,R,simprocAttr])
   all_goals clear R
   refine ⟨i+1,by omega,by omega,?_⟩;rw[hs2,hw];refine aF.c4 ?_ (fun n=>wW (Nat.le_of_eq (uo hk hb).symm) n);simp[aV,aW]
  ·have hs2:fm l o (i+1)=(bs++[fL (ab l j)],vd):=by rw[hst];simp only[mH,hb]
   try simp only[J,simprocAttr]
   have R:=v6 @eJ (v6 @bP (v6 @bl @J))
   repeat' ((first |(with_reducible refine .guard (fun hb =>?_) (fun hb =>?_) <;>try simp only[hb])|refine U.aX (by decide +kernel) rfl fun K hK =>?_|(refine .aQ [0,1,2,3,4,6,7,8,9,10,11,12,14,17,18,33,45,46,47,48,64] hK ?_;clear hK K)|(with_reducible refine .done (hK _ ?_);clear hK K)|refine U.of rfl ?_|(with_reducible refine au.aU (fun h =>?_) (fun h =>?_) <;>try simp only[h])) <;>try simp only[aZ,R,simprocAttr])
   all_goals clear R
   refine ⟨i+1,by omega,by omega,?_⟩;rw[hs2,hw];refine aF.zj (2002+2*bs.length) (2003+2*bs.length) 66 6 6 [0,8] (ec (fL (ab l j)) (.nils 6)) ?_ rfl ?_ ?_ (by omega)
   ·have:¬ 2002+2*bs.length=41:=by omega
    simp[mX,aj,this]
   ·have h1:¬ 2003+2*bs.length=41:=by omega
    have h2:¬ 2003+2*bs.length=2002+2*bs.length:=by omega
    have h3:¬ 2003+2*bs.length=900:=by omega
    have h4:¬ 2003+2*bs.length=3:=by omega
    have h5:aj (dP bs) (2003+2*bs.length)=none:=qm (by omega);simp only[mX,zy0,aj,jY,h1,h2,h3,h4,h5,if_false]
   ·refine aF.c4 ?_ (fun n=>afD (by omega) rfl n);simp[aV,aW]
 ·have hio:i=o.length:=by omega
  subst hio;have hc:decide ((o.length:Int)<((du o).length:Int))=false:=by simp[htl]
  refine .ak (by decide +kernel) fun K hK =>?_;simp only[sm,J,simprocAttr]
  try simp only[hc,simprocAttr]
  refine .done (hK _ ?_);clear hK K;refine U.seq ?_;refine U.bx ?_;simp only[au,J,simprocAttr];refine ⟨fun h =>?_,fun h =>?_⟩
  case refine_1=>cases h
  refine U.exit ?_;try simp only[al,bJ,simprocAttr]
  generalize fm l o o.length=s at *;obtain ⟨bs,vd⟩:=s;simp only at hnd hbl hsl hvl ⊢;have htv:(du vd).length=vd.length:=by simp[du]
  have hw2:∀ t,nh 900 (du vd).length (Abs.b9 [(48,I.bool false),(3,.ptr 3 []),(9,.own 900 (du vd).length),(11,.ptr 43 []),(12,kl),(45,enc (du o)),(46,.int .i64 ((du o).length:Int)),(47,.int .i64 (o.length:Int))] t):=tg (by simp[nh,I.only,bA,kl,I.b8]);refine U.Nn (a:=70) (b:=71) (d:=9) (n:=900) (xs:=du vd) rfl rfl (by decide) (by omega) hw2 ?_ [(11,.ptr 43 [])] ?_ (by decide) (by decide) ?_
  ·refine xJ ⟨rfl,Kv (aeS (fun j hj=>by simp;omega) (by decide) bs) ⟨bA _ _,trivial⟩⟩
  ·simp[Abs.b9,I.only]
  ·have hfin:=fun (ts:List (Nat×I))=>X7 (A:=ar ts (cW [900] ((900,.cO 3 (du vd))::(dP bs++[(3,.box (enc l))])))) (bs:=bs) (fun m y hy=>by
    have:m≠900:=fun e=>by
     rw[e,qm (by omega)] at hy;cases hy
    simp only[ar,m9];simp[aj,this,jY,hy])
   have R:=v6 @hfin (v6 @bP (v6 @bl @J))
   repeat' ((first |(with_reducible refine .guard (fun hb =>?_) (fun hb =>?_) <;>try simp only[hb])|refine U.aX (by decide +kernel) rfl fun K hK =>?_|(refine .aQ [0,1,2,3,4,6,7,8,9,10,11,12,14,17,18,33,45,46,47,48,64] hK ?_;clear hK K)|(with_reducible refine .done (hK _ ?_);clear hK K)|refine U.of rfl ?_|(with_reducible refine au.aU (fun h =>?_) (fun h =>?_) <;>try simp only[h])) <;>try simp only[aZ,R,simprocAttr])
   all_goals clear R
theorem aiv{xs ys:List Int}(h:xs.Perm ys):dZ xs=dZ ys:=by
 unfold dZ;have hx:=List.pairwise_mergeSort (le:=fun x y:Int=>decide (x≤y)) (by intro a b c;simp;omega) (by intro a b;simp;omega) xs;have hy:=List.pairwise_mergeSort (le:=fun x y:Int=>decide (x≤y)) (by intro a b c;simp;omega) (by intro a b;simp;omega) ys;refine List.Perm.eq_of_pairwise (fun a b _ _ h k =>?_) hx hy ((List.mergeSort_perm _ _).trans (h.trans (List.mergeSort_perm _ _).symm));simp only[decide_eq_true_eq] at h k;omega
theorem aga{A:ae}{d:Option Nat}{n:Nat}{rest:List az}{ks vs:List I}{cur:Option Nat} : py A d n rest (some (.it ks vs [] cur))=aA rest (A.aK d (.tuple [.bool false])):=by
 simp only[py,if_true]
theorem bh.jk{P:Program}{Y:Value→List I→List (Nat×ah)→cR→Prop}{K:ae→Prop}{A:ae}{d:Option Nat}{n:Nat}{rest:List az}{ks vs:List I}{left:List Nat}{cur:Option Nat}(hl:left≠[])
  (h:∀ i,i∈left→∃ kk x,ks[i]?=some kk∧vs[i]?=some x∧bh P Y false K (aA rest ((A.aN n (.it ks vs (left.filter (· != i)) (some i))).aK d (.tuple [.bool true,kk,x])))) :
  bh P Y false K (py A d n rest (some (.it ks vs left cur))):=by
 simp only[py,if_neg hl];refine .any rfl fun i hi =>?_;obtain ⟨kk,x,h1,h2,h3⟩:=h i hi;simp only[h1,h2];exact h3
def iO(bs:List aR)(p:aR→Bool)(aQ:List Nat):List Int:=((aQ.map fun i=>bs.getD i default).filter p).map (·.no)
theorem aht(bs:List aR)(p:aR→Bool)(aQ:List Nat)(i:Nat):iO bs p (aQ++[i])=iO bs p aQ++if p (bs.getD i default) then [(bs.getD i default).no] else []:=by
 simp only[iO,zx6,List.filter_append,zz9,zx2,zw2,List.filter_nil]
 congr 1
 split <;>rfl
theorem KK(bs:List aR)(p:aR→Bool)(aQ:List Nat):(iO bs p aQ).length≤aQ.length:=by
 simp only[iO,zy1];exact zv7 (zv3 _ _) (by simp)
theorem ahs{bs:List aR}{p:aR→Bool}{aQ:List Nat}(h:aQ.Perm (List.range bs.length)):(iO bs p aQ).Perm ((bs.filter p).map (·.no)):=by
 have e:(List.range bs.length).map (fun i=>bs.getD i default)=bs:=by
  refine List.ext_getElem (by simp) fun i h1 h2 =>?_;simp[zz1,h2]
 simp only[iO];refine List.Perm.map _ ?_;have:=(h.map fun i=>bs.getD i default).filter p
 rwa [e] at this
theorem ahf(p:Nat→Bool)(bs:List aR):I.b8 p (bs.map fun b=>.ref (enc (⟨b⟩:eC)))=true:=by
 induction bs with
 |nil=>rfl
 |cons b bs ih=>simp only[zz9,I.b8,I.only,bA,ih,zw3]
def zf(bs:List aR)(p:aR→Bool)(f:FuncId)(caps:List I)(s:List Nat×List Nat×Option Nat):ae :=
 ar [(1,.func f caps),(5,.own 905 (iO bs p s.1).length),(12,.dj 12)] [(12,.it (dc bs) (bs.map fun b=>.ref (enc (⟨b⟩:eC))) s.2.1 s.2.2),(905,.cO 3 (iO bs p s.1))]
theorem ue(bs:List aR)(hn:bs.length≤60)(f:FuncId)(caps:List I)(hcaps:I.eG caps=true)(p:aR→Bool)(hf:∀ b∈bs,aC Tryz.prog f (.ref (enc (⟨b⟩:eC))::caps) (enc (p b))) :
  aC Tryz.prog 72 [gl bs,.func f caps] (enc (dZ ((bs.filter p).map (·.no)))):=by
 refine aC.bu Tryz.func72 Sf T6 V6 (t7 rfl) (fun hwf W0 D0 E1 =>?_);simp only[Bp,Mn,bj,zz4];clear hwf;have hcl:I.bW caps=true:=kp caps hcaps;have hfc:∀ aB A,bX aB A caps=some caps:=fun aB A=>kr aB A caps hcaps;have hon:∀ q,I.b8 q caps=true:=fun q=>j7 q caps hcl;refine .ak (by decide +kernel) fun K hK =>?_;simp only[H4,J,simprocAttr];refine .done (hK _ ?_);clear hK K;refine .ak (by decide +kernel) fun K hK =>?_;simp only[H5,J,simprocAttr];refine .done (hK _ ?_);clear hK K;refine U.seq (U.seq ?_);refine .bd (by decide +kernel) fun K hK =>?_;simp only[H6,J,simprocAttr]
 try simp only[gl,eJ,ew,bl,J,simprocAttr]
 refine .done (hK _ ?_);clear hK K;try simp only[al]
 refine U.block (U.loop (zf bs p f caps) (fun s=>(s.1++s.2.1).Perm (List.range bs.length)) (fun s=>s.2.1.length) ([],List.range bs.length,none) (by simp) ?_ ?_)
 ·refine aF.zk 5 905 3 1 rfl rfl ?_;refine aF.c4 ?_ (fun n =>?_)
  ·simp[aV,aW,iO]
  ·simp only[iO,zx2,List.filter_nil,ct,sL,dc,zy1]
   (repeat' split) <;>simp_all
 rintro ⟨aQ,left,cur⟩ hC;simp only at hC;have hlen:aQ.length+left.length=bs.length:=by simpa using hC.length_eq
 have hpl:=KK bs p aQ;simp only[zf];by_cases hl:left=[]
 ·subst hl;refine .ak (by decide +kernel) fun K hK =>?_;simp only[vZ,J,simprocAttr]
  try simp only[ew,aga,J,simprocAttr]
  refine .done (hK _ ?_);clear hK K;refine U.seq ?_;refine U.bx ?_;simp only[au,J,simprocAttr];refine ⟨fun h =>?_,fun h =>?_⟩
  case refine_1=>cases h
  refine U.exit ?_;try simp only[al,bJ,simprocAttr]
  have hdn:(iO bs p aQ).Perm ((bs.filter p).map (·.no)):=ahs (by simpa using hC);rw[←aiv hdn];generalize iO bs p aQ=xs at hpl;refine U.Nn (a:=25) (b:=26) (d:=5) (n:=905) (xs:=xs) rfl rfl (by decide) (by omega) (tg (by simp[nh,I.only,I.b8,hon])) (by simp only[cW,dc,zw2,List.filter_nil,List.contains_cons];simp[br,ah.only,fe,ahf,-List.map_map]) [] (by simp) (by decide) (by decide) ?_;have R:=v6 @bl @J
  repeat' ((first |refine U.aX (by decide +kernel) rfl fun K hK =>?_|(refine .aQ [0,1,4,5,6,7,12,14,20] hK ?_;clear hK K)|(with_reducible refine .done (hK _ ?_);clear hK K)|refine U.of rfl ?_|(with_reducible refine au.aU (fun h =>?_) (fun h =>?_) <;>try simp only[h])) <;>try simp only[aZ,R,simprocAttr])
  all_goals clear R
 ·refine .ak (by decide +kernel) fun K hK =>?_;simp only[vZ,J,simprocAttr]
  try simp only[ew,J,simprocAttr]
  refine bh.jk hl fun i hi =>?_;have hib:i<bs.length:=zx4.1 (hC.mem_iff.1 (by simp[hi]));refine ⟨enc (bs[i]).no,.ref (enc (⟨bs[i]⟩:eC)),by simp[dc,hib],by simp[hib],?_⟩;have hx:bs.getD i default=bs[i]:=by simp[zz1,hib]
  try simp only[J,simprocAttr]
  refine .done (hK _ ?_);clear hK K;refine U.seq ?_;refine U.bx ?_;simp only[au,J,simprocAttr];refine ⟨fun h =>?_,fun h =>?_⟩
  case refine_2=>cases h
  refine U.skip ?_;try simp only[al,simprocAttr]
  refine U.block ?_;have hent:oS (dc bs) (bs.map fun b=>.ref (enc (⟨b⟩:eC))) (some i)=some (.tuple [.int .i64 (bs[i]).no,.ref (enc (⟨bs[i]⟩:eC))]):=by
   simp[oS,dc,hib,jx]
  have hsn:=aht bs p aQ i;have hps:=KK bs p (aQ++[i]);have hpl2:(left.filter (· != i)).length<left.length:=by
   rcases Nat.lt_or_ge (left.filter (· != i)).length left.length with h | h
   ·exact h
   ·have:=List.filter_eq_self.1 (List.Sublist.eq_of_length_le List.filter_sublist h) i hi;simp at this
  have hnd:left.Nodup:=(List.nodup_append.1 (hC.nodup_iff.2 List.nodup_range)).2.1;have hC2:((aQ++[i])++left.filter (· != i)).Perm (List.range bs.length):=by
   have h1:left.Perm (i::left.filter (· != i)):=by
    have h2:(left.filter (· == i)).length=1:=by
     have:=List.nodup_iff_count.1 hnd i;have h3:=List.count_pos_iff.2 hi;have h4:left.count i=(left.filter (· == i)).length:=by rw[List.count,List.countP_eq_length_filter]
     omega
    have h5:left.filter (· == i)=[i]:=by
     obtain ⟨a,ha⟩:=List.length_eq_one_iff.1 h2;have:a∈left.filter (· == i):=by rw[ha];simp
     have:=(zw5.1 this).2;simp at this;rw[ha,this]
    have h6:=(List.filter_append_perm (· == i) left).symm;rw[h5] at h6;exact h6
   refine List.Perm.trans ?_ hC;rw[zz3];exact (h1.symm).append_left aQ
  refine .ak (by decide +kernel) fun K hK =>?_;simp only[H7,J,simprocAttr]
  try simp only[hent,ew,bl,J,simprocAttr]
  refine .done (hK _ ?_);clear hK K;refine .ak (by decide +kernel) fun K hK =>?_;simp only[H8,J,simprocAttr]
  try simp only[zy0,zy8,hfc,gZ,J,simprocAttr]
  refine .flat _ (hf _ (zy6 hib)) rfl ?_
  try simp only[J,simprocAttr]
  refine .done (hK _ ?_);clear hK K;have hap:=fun (A:ae) d rest=>um (A:=A) (d:=d) (e:=3) (bytes:=8) (n:=905) (l:=(iO bs p aQ).length) (xs:=iO bs p aQ) (y:=(bs[i]).no) (rest:=rest) rfl (by simp[maxLen];omega) (by omega);rw[hx] at hsn;rcases hpb:p bs[i]
  ·rw[hpb,if_neg (by decide),zw1] at hsn;have R:=v6 @hpb (v6 @bl @J)
   repeat' ((first |refine U.aX (by decide +kernel) rfl fun K hK =>?_|(refine .aQ [0,1,4,5,6,7,12,14,20] hK ?_;clear hK K)|(with_reducible refine .done (hK _ ?_);clear hK K)|refine U.of rfl ?_|(with_reducible refine au.aU (fun h =>?_) (fun h =>?_) <;>try simp only[h])) <;>try simp only[aZ,R,simprocAttr])
   all_goals clear R
   refine ⟨(aQ++[i],left.filter (· != i),some i),hC2,hpl2,?_⟩;simp only[hsn];refine aF.c4 ?_ (fun n =>?_)
   ·simp[aV,aW]
   ·simp only[ct,sL];(repeat' split) <;>simp_all
  ·rw[hpb,if_pos rfl] at hsn;have R:=v6 @hpb (v6 @hap (v6 @bl @J))
   repeat' ((first |refine U.aX (by decide +kernel) rfl fun K hK =>?_|(refine .aQ [0,1,4,5,6,7,12,14,20] hK ?_;clear hK K)|(with_reducible refine .done (hK _ ?_);clear hK K)|refine U.of rfl ?_|(with_reducible refine au.aU (fun h =>?_) (fun h =>?_) <;>try simp only[h])) <;>try simp only[aZ,R,simprocAttr])
   all_goals clear R
   refine ⟨(aQ++[i],left.filter (· != i),some i),hC2,hpl2,?_⟩;simp only[hsn];refine aF.c4 ?_ (fun n =>?_)
   ·simp[aV,aW]
   ·simp only[ct,sL];(repeat' split) <;>simp_all
theorem zu{aB:Bool}{A0:ae}{os:List (Nat×ah)} : ∀ xs:List I,(∀ x∈xs,x.only (aq os)=true∧x.cd=true)→jc aB A0 [] os xs xs
 | [],_=>trivial
 |x::xs,h=>⟨.inl ⟨(lH (ρ:=bD []) (fun _=>rfl) x).symm,(h x (by simp)).1,(h x (by simp)).2⟩,zu xs fun y hy=>h y (by simp[hy])⟩
theorem ah8(ts:List (Nat×I))(k:Nat)(a b:List Int):ar ts (cu k a++cu k b)=ar ts (cu k a):=by
 simp only[ar];congr 1;funext n;simp only[cu,zy0,zy8,aj];split <;>rfl
theorem bh.kJ{K:ae→Prop}{f:FuncId}{avs:List I}{a1 a2:Option (List I)}{dst:Option Nat}{rest:List az}{ts:List (Nat×I)}{ws:List Int}{post:cR}(hc:cC Tryz.prog f avs (cu 1000000 ws) post)(hav:∀ x∈avs,x.only (aq (cu 1000000 ws))=true∧x.cd=true)
  (h:∀ r os',post r os'→∃ ws',os'=cu 1000000 ws'∧r=.tuple []∧bh Tryz.prog ig false K (aA rest ((ar ts (cu 1000000 ws')).aK dst (.tuple [])))):bh Tryz.prog ig false K (.call f avs a1 a2 dst rest (ar ts (cu 1000000 ws))):=by
 refine .bU false [] (cu 1000000 ws) avs post rfl hc ⟨fun m y hy =>?_,fun m m' _ _ h=>h⟩ (zu avs hav) ?_ ?_
 ·rw[ah.lH (ρ:=bD []) (fun n=>rfl)];refine ⟨hy,?_⟩;simp only[cu,aj] at hy;split at hy
  ·cases hy;exact ⟨nT _ _,rfl⟩
  ·cases hy
 ·intro r os' hp;obtain ⟨ws',rfl,rfl,_⟩:=h r os' hp;refine ⟨fun m y hy =>?_,fun m m' _ _ h=>h,fun m hm=>by rw[di.1 hm];exact di.2 rfl,fun m a b=>by rw[di.1 a] at b;simp[cu,aq,aj] at b,rfl,fun h=>by cases h⟩;simp only[cu,aj] at hy;split at hy
  ·cases hy;exact ⟨nT _ _,rfl,fun h=>by cases h⟩
  ·cases hy
 ·intro r os' hp;obtain ⟨ws',rfl,rfl,hw⟩:=h r os' hp;rw[tx,ah8];exact hw
theorem ki(ws:List Int)(n:Nat)(f:FuncId)(caps:List I)(hcl:I.bW caps=true)(ay:List Int):∀ x∈.view 1000000 [] 1 0 n::(ay.map enc++[.func f caps]),x.only (aq (cu 1000000 ws))=true∧x.cd=true:=by
 intro x hx;simp only[zw9,zy7,zx5,List.not_mem_nil,or_false] at hx;rcases hx with rfl | ⟨y,_,rfl⟩ | rfl
 ·exact ⟨di.2 rfl,rfl⟩
 ·exact ⟨bA _ _,dz _⟩
 ·exact ⟨mj _ _ (by simpa[I.bp] using hcl),rfl⟩
structure Pu where
 p:List Int
 ao:List Int
 v:List Int
 q:List Int
theorem O7(p ao v q:List Int)(a m b n:Nat)(f:FuncId)(caps:List I)(hcl:I.bW caps=true)(ha:p.length=a)(hm:a+ao.length=m)(hb:m+v.length=b)(hu:0<ao.length)(hv:0<v.length)(hn:b≤n)(hN:n≤1000) :
  cC Tryz.prog 213 [.view 1000000 [] 1 0 n,enc (a:Int),enc (m:Int),enc (b:Int),.func f caps] (cu 1000000 (p++ao++v++q)) (x9 (p++v++ao++q)):=by
 refine cC.bu Tryz.func213 RW TL VN (t7 rfl) (t7 rfl) nq (fun hwf W0 D0 E1 =>?_);simp only[A6,L4,bj,zz4,Nat.reduceAdd];clear hwf;have w1:=iv (x:=m) (y:=a) (by omega) (by omega);have w2:=iv (x:=b) (y:=m) (by omega) (by omega);refine .ak (by decide +kernel) fun K hK =>?_;simp only[G0,J,simprocAttr]
 try simp only[w1,simprocAttr]
 refine .done (hK _ ?_);clear hK K;refine .ak (by decide +kernel) fun K hK =>?_;simp only[G1,J,simprocAttr]
 try simp only[w2,simprocAttr]
 refine .done (hK _ ?_);clear hK K;refine U.seq (U.block (U.loop (fun s:Pu=>ar [(0,.view 1000000 [] 1 0 n),(2,.int .i64 m),(4,.func f caps),(10,.int .i64 s.ao.length),(11,.int .i64 s.v.length)] (cu 1000000 (s.p++s.ao++s.v++s.q))) (fun s=>0<s.ao.length∧0<s.v.length∧s.p.length+s.ao.length=m∧m+s.v.length≤b∧s.p++s.v++s.ao++s.q=p++v++ao++q) (fun s=>s.ao.length+s.v.length) ⟨p,ao,v,q⟩ ⟨hu,hv,by simp only;omega,by simp only;omega,rfl⟩ ?_ ?_))
 ·have e1:m-a=ao.length:=by omega
  have e2:b-m=v.length:=by omega
  simp only[e1,e2];refine aF.c4 ?_ (fun n=>rfl);simp[aV,aW]
 rintro ⟨p1,u1,v1,q1⟩ ⟨g1,g2,g3,g4,g5⟩;simp only at g1 g2 g3 g4 g5 ⊢;refine U.seq (U.seq ?_);refine .bd (by decide +kernel) fun K hK =>?_;simp only[G2,J,simprocAttr];refine .done (hK _ ?_);clear hK K;try simp only[al]
 refine U.bx ?_;simp only[au,J,simprocAttr];refine ⟨fun h =>?_,fun h =>?_⟩
 ·have hne:u1.length≠v1.length:=fun e=>by rw[e] at h;simp at h
  refine U.skip ?_;try simp only[al,simprocAttr]
  refine U.block (U.seq ?_);refine .bd (by decide +kernel) fun K hK =>?_;simp only[G3,J,simprocAttr];refine .done (hK _ ?_);clear hK K;try simp only[al]
  refine U.bx ?_;simp only[au,J,simprocAttr];refine ⟨fun h =>?_,fun h =>?_⟩
  ·have hgt:v1.length<u1.length:=by simp at h;omega
   have w3:=iv (x:=m) (y:=u1.length) (by omega) (by omega);have w4:=iv (x:=u1.length) (y:=v1.length) (by omega) (by omega);have hs:u1=u1.take v1.length++u1.drop v1.length:=(zy9 _ _).symm;have ht:(u1.take v1.length).length=v1.length:=by rw[zx3];omega
   have hd:(u1.drop v1.length).length=u1.length-v1.length:=by rw[zx0]
   have hc:=uc p1 (u1.take v1.length) (u1.drop v1.length) v1 q1 (m-u1.length) m n v1.length (.func f caps) (by omega) (by omega) (by omega) (by omega) (by omega) hN;rw[zz3 p1,←hs] at hc;refine .ak (by decide +kernel) fun K hK =>?_;simp only[G4,J,simprocAttr]
   try simp only[w3,simprocAttr]
   refine bh.kJ hc (ki _ n f caps hcl [_,_,_]) ?_;rintro r os' ⟨rfl,rfl⟩;refine ⟨_,rfl,rfl,?_⟩
   try simp only[J,simprocAttr]
   refine .done (hK _ ?_);clear hK K;refine .bd (by decide +kernel) fun K hK =>?_;simp only[G5,J,simprocAttr]
   try simp only[w4,simprocAttr]
   refine .done (hK _ ?_);clear hK K;try simp only[al,bJ]
   refine ⟨⟨p1++v1,u1.drop v1.length,u1.take v1.length,q1⟩,⟨by simp only;omega,by simp only;omega,by simp only[zz5];omega,by simp only;omega,?_⟩,by simp only;omega,?_⟩
   ·simp only;rw[←g5]
    conv=>rhs;rw[hs]
    simp only[zz3]
   ·simp only[hd,ht];refine aF.c4 ?_ (fun n=>rfl);simp[aV,aW]
  ·have hlt:u1.length<v1.length:=by simp at h;omega
   have w3:=iv (x:=m) (y:=u1.length) (by omega) (by omega);have w4:=iv (x:=v1.length) (y:=u1.length) (by omega) (by omega);have w5:=kc m v1.length (by omega);have w6:=iv (x:=m+v1.length) (y:=u1.length) (by omega) (by omega);have hs:v1=v1.take (v1.length-u1.length)++v1.drop (v1.length-u1.length):=(zy9 _ _).symm;have ht:(v1.take (v1.length-u1.length)).length=v1.length-u1.length:=by rw[zx3];omega
   have hd:(v1.drop (v1.length-u1.length)).length=u1.length:=by rw[zx0];omega
   have hc:=uc p1 u1 (v1.take (v1.length-u1.length)) (v1.drop (v1.length-u1.length)) q1 (m-u1.length) (m+v1.length-u1.length) n u1.length (.func f caps) (by omega) (by omega) (by omega) (by omega) (by omega) hN;rw[zz3 (p1++u1),←hs] at hc;refine .ak (by decide +kernel) fun K hK =>?_;simp only[G6,J,simprocAttr]
   try simp only[w3,w5,w6,simprocAttr]
   refine bh.kJ hc (ki _ n f caps hcl [_,_,_]) ?_;rintro r os' ⟨rfl,rfl⟩;refine ⟨_,rfl,rfl,?_⟩
   try simp only[J,simprocAttr]
   refine .done (hK _ ?_);clear hK K;refine .bd (by decide +kernel) fun K hK =>?_;simp only[G7,J,simprocAttr]
   try simp only[w4,simprocAttr]
   refine .done (hK _ ?_);clear hK K;try simp only[al,bJ]
   refine ⟨⟨p1,v1.drop (v1.length-u1.length),v1.take (v1.length-u1.length),u1++q1⟩,⟨by simp only;omega,by simp only;omega,by simp only;omega,by simp only;omega,?_⟩,by simp only;omega,?_⟩
   ·simp only;rw[←g5]
    conv=>rhs;rw[hs]
    simp only[zz3]
   ·simp only[hd,ht];rw[←zz3 _ u1 q1];refine aF.c4 ?_ (fun n=>rfl);simp[aV,aW]
 ·have he:u1.length=v1.length:=by simp at h;omega
  refine U.exit ?_;try simp only[al,bJ,simprocAttr]
  have w3:=iv (x:=m) (y:=u1.length) (by omega) (by omega);have hc:=uc p1 u1 [] v1 q1 (m-u1.length) m n u1.length (.func f caps) (by omega) (by omega) (by simp;omega) rfl (by omega) hN;simp only[zw1] at hc;refine .bd (by decide +kernel) fun K hK =>?_;simp only[G8,J,simprocAttr]
  try simp only[w3,simprocAttr]
  refine bh.kJ hc (ki _ n f caps hcl [_,_,_]) ?_;rintro r os' ⟨rfl,rfl⟩;refine ⟨_,rfl,rfl,?_⟩
  try simp only[J,simprocAttr]
  refine .done (hK _ ?_);clear hK K;rw[lI];exact nj rfl g5 ⟨rfl,rfl⟩
theorem tJ{el:List aw}{s:List Int}(h:db el s){i j:Nat}(hij:i<j)(hj:j<s.length):dA el (s.getD i 0) (s.getD j 0):=by
 rw[zz1,zz1,zz8 (by omega),zz8 hj];exact List.pairwise_iff_getElem.1 h i j (by omega) hj hij
theorem pN{el:List aw}{s:List Int}(h:db el s){i j:Nat}(hij:i≤j)(hj:j<s.length){x:Int}(hx:dA el (s.getD j 0) x):dA el (s.getD i 0) x:=by
 rcases Nat.lt_or_ge i j with h1 | h1
 ·exact wX (tJ h h1 hj) hx
 ·have:i=j:=by omega
  rw[this];exact hx
theorem pM{el:List aw}{s:List Int}(h:db el s){i j:Nat}(hij:i≤j)(hj:j<s.length){x:Int}(hx:dA el x (s.getD i 0)):dA el x (s.getD j 0):=by
 rcases Nat.lt_or_ge i j with h1 | h1
 ·exact wX hx (tJ h h1 hj)
 ·have:i=j:=by omega
  rw[←this];exact hx
theorem sQ{s:List Int}{k:Nat}{x:Int}(h:x∈s.take k):∃ i,i<k∧i<s.length∧s.getD i 0=x:=by
 obtain ⟨i,hi,rfl⟩:=zv6 h;rw[zx3] at hi;exact ⟨i,by omega,by omega,by rw[zz1,zz8 (by omega),List.getElem_take];rfl⟩
theorem pg{s:List Int}{k:Nat}{x:Int}(h:x∈s.drop k):∃ i,k≤i∧i<s.length∧s.getD i 0=x:=by
 obtain ⟨i,hi,rfl⟩:=zv6 h;rw[zx0] at hi;exact ⟨k+i,by omega,by omega,by rw[zz1,zz8 (by omega),List.getElem_drop];rfl⟩
def rn(el:List aw)(l r:List Int)(k i:Nat):Prop:=∀ x∈l.take i++r.take (k-i),∀ y∈l.drop i++r.drop (k-i),dA el x y
theorem Wn{el:List aw}{l r:List Int}{k i lo hi:Nat}(hl:db el l)(hr:db el r)(h1:lo≤i)(h2:i≤hi)(hlo:lo=0∨lo+r.length=k)(hhi:hi=l.length∨hi=k)(hil:hi≤l.length)(hik:hi≤k)(hlr:k≤lo+r.length)
  (g1:∀ j,lo≤j→j<i→dA el (l.getD j 0) (r.getD (k-1-j) 0)) (g2:∀ j,i≤j→j<hi→dA el (r.getD (k-1-j) 0) (l.getD j 0)):rn el l r k i:=by
 intro x hx y hy;rcases zy7.1 hx with hx | hx
 ·obtain ⟨a,ha1,ha2,rfl⟩:=sQ hx;rcases zy7.1 hy with hy | hy
  ·obtain ⟨b,hb1,hb2,rfl⟩:=pg hy;exact tJ hl (by omega) hb2
  ·obtain ⟨b,hb1,hb2,rfl⟩:=pg hy;by_cases hli:lo<i
   ·have:=g1 (i-1) (by omega) (by omega);have e:k-1-(i-1)=k-i:=by omega
    rw[e] at this;refine pN hl (j:=i-1) (by omega) (by omega) ?_;exact pM hr (i:=k-i) (by omega) hb2 this
   ·omega
 ·obtain ⟨a,ha1,ha2,rfl⟩:=sQ hx;rcases zy7.1 hy with hy | hy
  ·obtain ⟨b,hb1,hb2,rfl⟩:=pg hy;by_cases hih:i<hi
   ·have:=g2 i (zz6 _) hih;refine pN hr (j:=k-1-i) (by omega) (by omega) ?_;exact pM hl (i:=i) (by omega) hb2 this
   ·omega
  ·obtain ⟨b,hb1,hb2,rfl⟩:=pg hy;exact tJ hr (by omega) hb2
theorem aix{el:List aw}{l r s1 s2:List Int}{k i:Nat}(hc:rn el l r k i)(h1:s1.Perm (l.take i++r.take (k-i)))(h2:s2.Perm (l.drop i++r.drop (k-i)))(k1:db el s1)(k2:db el s2):(s1++s2).Perm (l++r)∧db el (s1++s2):=by
 refine ⟨(h1.append h2).trans ?_,List.pairwise_append.2 ⟨k1,k2,fun x hx y hy=>hc x (h1.mem_iff.1 hx) y (h2.mem_iff.1 hy)⟩⟩;have e:l.take i++r.take (k-i)++(l.drop i++r.drop (k-i))=l.take i++(r.take (k-i)++l.drop i)++r.drop (k-i):=by simp only[zz3]
 rw[e];refine (((List.perm_append_comm (l₁:=r.take (k-i)) (l₂:=l.drop i)).append_left _).append_right _).trans ?_;have e2:l.take i++(l.drop i++r.take (k-i))++r.drop (k-i)=(l.take i++l.drop i)++(r.take (k-i)++r.drop (k-i)):=by simp only[zz3]
 rw[e2,zy9,zy9]
theorem Nr{el:List aw}{s:List Int}(h:db el s)(k:Nat):db el (s.take k):=h.sublist (List.take_sublist _ _)
theorem Nq{el:List aw}{s:List Int}(h:db el s)(k:Nat):db el (s.drop k):=h.sublist (List.drop_sublist _ _)
theorem wo{p l r q:List Int}{a i:Nat}(ha:p.length=a)(hi:i<l.length):(p++l++r++q).getD (a+i) 0=l.getD i 0:=by
 subst ha;rw[zz1,zz1,zz3,zz3,zx9 (by omega),Nat.add_sub_cancel_left,zx1 hi]
theorem wq{p l r q:List Int}{m i:Nat}(hm:p.length+l.length=m)(hi:i<r.length):(p++l++r++q).getD (m+i) 0=r.getD i 0:=by
 subst hm;rw[zz1,zz1,zz3 (p++l),zx9 (by rw[zz5];omega),zz5,Nat.add_sub_cancel_left,zx1 hi]
theorem ng(x:Nat):Int.fdiv (x:Int) (2^min (Int.toNat 1) IntKind.u64.bits)=((x / 2:Nat):Int):=by
 have:min (Int.toNat 1) IntKind.u64.bits=1:=rfl;rw[this]
 show Int.fdiv (x:Int) 2=_
 rw[Int.fdiv_eq_ediv_of_nonneg _ (by decide)];rfl
theorem mc{x:Nat}(h:x<9223372036854775807):IntKind.u64.wrap (x:Int)=(x:Int):=by
 simp only[IntKind.wrap,IntKind.bits,IntKind.signed];simp;omega
theorem nf:((0:Int)≤1)=True:=by simp
theorem U.ai3{c:cI}{Q:Exit→ae→Prop}{A:ae}{x:aM}{σ:Type}(T:σ→ae)(C:σ→Prop)(h1:U c x (al (fun B=>∃ s,C s∧Abs.aF B (T s)) fun _ _=>False) A)(h2:∀ s B,C s→Abs.aF B (T s)→Q .normal B):U c x Q A :=
 h1.mono fun e B hq=>by
  cases e <;>simp only[al] at hq <;>first
   |(obtain ⟨s,k1,k2⟩:=hq;exact h2 s B k1 k2)
   |exact hq.elim
theorem aiR{p r q:List Int}{x:Int}{a j:Nat}(ha:p.length=a)(hj:j<r.length):kb (dT p r q x j) (a+j) (a+j+1)=dT p r q x (j+1):=by
 have e1:dT p r q x (j+1)=(p++r.take j)++r[j]::x::(r.drop (j+1)++q):=by
  simp only[dT];rw[zy5 hj];simp only[zz3,zy0,zy8]
 have e2:dT p r q x j=(p++r.take j)++x::r[j]::(r.drop (j+1)++q):=by
  simp only[dT];rw[zv2 hj];simp only[zz3,zy0]
 rw[e1,e2];exact aiS (by rw[zz5,zx3];omega) rfl
theorem aeZ(p r q:List Int)(x:Int):dT p r q x 0=p++[x]++r++q:=by simp[dT]
theorem ae2(p r q:List Int)(x:Int):dT p r q x r.length=p++r++[x]++q:=by simp[dT]
theorem O1(el:List aw)(hd:lW el)(hel:el.length≤60)(p l r q:List Int)(a m b n:Nat)(hl0:0<l.length)(hr0:0<r.length)(ha:p.length=a)(hm:a+l.length=m)(hb:m+r.length=b)(hn:b≤n)(hnl:n≤(p++l++r++q).length)(hn1:n≤1000)(hsl:db el l)(hsr:db el r)(hlr:∀ x∈l,∀ y∈r,x<y)(hin:∀ x∈l++r,jg el x)(hl1:l.length=1) :
  cC Tryz.prog 204 [.view 1000000 [] 1 0 n,enc (a:Int),enc (m:Int),enc (b:Int),.func 138 [.ref (enc el)]] (cu 1000000 (p++l++r++q)) (mG el p (l++r) q):=by
 have hlen:(p++l++r++q).length=p.length+l.length+r.length+q.length:=by simp only[zz5]
 have mV:=fun i (hi:i<l.length)=>wo (p:=p) (l:=l) (r:=r) (q:=q) (i:=i) ha hi;have gr:=fun i (hi:i<r.length)=>wq (p:=p) (l:=l) (r:=r) (q:=q) (m:=m) (i:=i) (by omega) hi;have ml:=fun i (hi:i<l.length)=>(show l.getD i 0∈l by rw[zz1,zz8 hi];exact zy6 _)
 have mr:=fun i (hi:i<r.length)=>(show r.getD i 0∈r by rw[zz1,zz8 hi];exact zy6 _)
 refine cC.bu Tryz.func204 uD uF uR (t7 rfl) (t7 rfl) nq (fun hwf W0 D0 E1 =>?_);simp only[rO,tm,bj,zz4,Nat.reduceAdd];clear hwf;have eR:=iv (x:=m) (y:=a) (by omega) (by omega);refine U.seq (U.seq ?_);obtain ⟨x,rfl⟩:=List.length_eq_one_iff.1 hl1;obtain ⟨ws,hws⟩:∃ ws,ws=p++[x]++r++q:=⟨_,rfl⟩
 rw[←hws] at hnl hlen gr mV ⊢;have gx:ws.getD a 0=x:=by have:=mV 0 hl0;simpa using this
 have hxr:=hlr x (by simp);have hxS:=hin x (by simp);have hrS:=fun y (hy:y∈r)=>hin y (by simp[hy]);have h1:((m-a:Nat):Int)=1:=by omega
 refine .bd (by decide +kernel) fun K hK =>?_;simp only[sh,J,Nat.reduceEqDiff,reduceIte]
 try simp only[eR,h1,Int.reduceBEq]
 refine .done (hK _ ?_);clear hK K;try simp only[al]
 refine U.bx ?_
 try simp only[au,J,Nat.reduceEqDiff,reduceIte]
 refine ⟨fun _ =>?_,fun h =>?_⟩
 rotate_left
 ·simp at h
 refine .ak (by decide +kernel) fun K hK =>?_;simp only[Gx,J,Nat.reduceEqDiff,reduceIte];refine .done (hK _ ?_);clear hK K;refine .ak (by decide +kernel) fun K hK =>?_;simp only[GB,J,Nat.reduceEqDiff,reduceIte];refine .done (hK _ ?_);clear hK K;refine U.seq (U.block (U.loop (fun s:Nat×Nat=>ar [(0,.view 1000000 [] 1 0 n),(1,.int .i64 a),(2,.int .i64 m),(3,.int .i64 b),(4,.func 138 [.ref (enc el)]),(10,.int .i64 ((m+s.1:Nat):Int)),(11,.int .i64 ((m+s.2:Nat):Int))] (cu 1000000 ws))
  (fun s=>s.1≤s.2∧s.2≤r.length∧(∀ j,j<s.1→dA el (r.getD j 0) x)∧∀ j,s.2≤j→j<r.length→dA el x (r.getD j 0)) (fun s=>s.2-s.1) (0,r.length) ⟨zv4 _,zz6 _,fun j hj=>by omega,fun j h1 h2=>by simp only at h1;omega⟩ ?_ ?_))
 ·have e1:m+0=m:=rfl;simp only[e1,hb];refine aF.c4 ?_ (fun n=>rfl);simp[aV,aW]
 rintro ⟨i,j⟩ ⟨g1,g2,g3,g4⟩;simp only at g1 g2 g3 g4 ⊢;by_cases hij:i<j
 ·have hc:decide (((m+i:Nat):Int)<((m+j:Nat):Int))=true:=by simp;omega
  have w1:=kc (m+i) (m+j) (by omega);have w2:=mc (x:=m+i+(m+j)) (by omega);obtain ⟨c,hcd⟩:∃ c,c=(i+j) / 2:=⟨_,rfl⟩
  have hci:i≤c∧c<j:=by omega
  have w3:(m+i+(m+j)) / 2=m+c:=by omega
  have w4:=mc (x:=m+c) (by omega);have w5:=rj (n:=m+c) (by omega);have w6:=gb (i:=m+c) (by omega);have v1:=jh (n:=n) (i:=m+c) (by omega);have v2:=jh (n:=n) (i:=a) (by omega);have l1:=gA (xs:=ws) (i:=m+c) (by omega);have l2:=gA (xs:=ws) (i:=a) (by omega);rw[gr c (by omega)] at l1;rw[gx] at l2;have hrc:=mr c (by omega);have hcmp:=rq el hd hel (r.getD c 0) x (hrS _ hrc) hxS;have hlt:=sO (l:=el) (hxr _ hrc);simp only[cu];cases hdc:decide (fU el (r.getD c 0)-fU el x<0) with
  |true =>
   have hd1:dA el (r.getD c 0) x:=hlt.2 (by have:=of_decide_eq_true hdc;omega);have R:=v6 @hc (v6 @w1 (v6 @w2 (v6 @w3 (v6 @w4 (v6 @w5 (v6 @w6 (v6 @ng (v6 @nf (v6 @v1 (v6 @v2 (v6 @l1 (v6 @l2 (v6 @hdc (v6 @eB (v6 @dM (v6 @bl @J))))))))))))))))
   repeat' ((first |(with_reducible refine .guard (fun hb =>?_) (fun hb =>?_) <;>try simp only[hb])|refine U.aX (by decide +kernel) rfl fun K hK =>?_|refine .flat _ (hcmp) rfl ?_|(refine .aQ [0,1,2,3,4,10,11,12,13,14,15,16,17,18,19,20,21,22,23,24,28,33,50,58,80,85,103,110,140,151,171,185,199,213] hK ?_;clear hK K)|(with_reducible refine .done (hK _ ?_);clear hK K)|refine U.of rfl ?_|(with_reducible refine au.aU (fun h =>?_) (fun h =>?_) <;>try simp only[h])) <;>try simp only[aZ,R,zy0,Nat.reduceEqDiff,reduceIte,Nat.reduceBEq])
   all_goals clear R
   refine ⟨(c+1,j),⟨by simp only;omega,g2,fun k hk =>?_,g4⟩,by simp only;omega,?_⟩
   ·simp only at hk;exact pN hsr (j:=c) (by omega) (by omega) hd1
   ·refine aF.c4 ?_ (fun n=>rfl);simp[aV,aW];omega
  |false =>
   have hd1:dA el x (r.getD c 0):=sN (hxr _ hrc) (by have:=of_decide_eq_false hdc;omega);have R:=v6 @hc (v6 @w1 (v6 @w2 (v6 @w3 (v6 @w4 (v6 @w5 (v6 @w6 (v6 @ng (v6 @nf (v6 @v1 (v6 @v2 (v6 @l1 (v6 @l2 (v6 @hdc (v6 @eB (v6 @dM (v6 @bl @J))))))))))))))))
   repeat' ((first |(with_reducible refine .guard (fun hb =>?_) (fun hb =>?_) <;>try simp only[hb])|refine U.aX (by decide +kernel) rfl fun K hK =>?_|refine .flat _ (hcmp) rfl ?_|(refine .aQ [0,1,2,3,4,10,11,12,13,14,15,16,17,18,19,20,21,22,23,24,28,33,50,58,80,85,103,110,140,151,171,185,199,213] hK ?_;clear hK K)|(with_reducible refine .done (hK _ ?_);clear hK K)|refine U.of rfl ?_|(with_reducible refine au.aU (fun h =>?_) (fun h =>?_) <;>try simp only[h])) <;>try simp only[aZ,R,zy0,Nat.reduceEqDiff,reduceIte,Nat.reduceBEq])
   all_goals clear R
   refine ⟨(i,c),⟨by simp only;omega,by simp only;omega,g3,fun k hk hk2 =>?_⟩,by simp only;omega,?_⟩
   ·simp only at hk;exact pM hsr (i:=c) (by omega) hk2 hd1
   ·refine aF.c4 ?_ (fun n=>rfl);simp[aV,aW]
 ·have hc:decide (((m+i:Nat):Int)<((m+j:Nat):Int))=false:=by simp;omega
  have he:j=i:=by omega
  subst he;refine U.seq (U.seq ?_);refine .bd (by decide +kernel) fun K hK =>?_;simp only[GH,J,Nat.reduceEqDiff,reduceIte]
  try simp only[hc]
  refine .done (hK _ ?_);clear hK K;try simp only[al]
  refine U.bx ?_;simp only[au,J,Nat.reduceEqDiff,reduceIte];refine ⟨fun h =>?_,fun h =>?_⟩
  ·cases h
  refine U.exit ?_;try simp only[al,bJ,reduceIte]
  refine U.seq (U.seq ?_);refine .bd (by decide +kernel) fun K hK =>?_;simp only[GL,J,Nat.reduceEqDiff,reduceIte];refine .done (hK _ ?_);clear hK K;try simp only[al]
  have hi0:=aeZ p r q x;rw[hws,←hi0];refine U.block (U.loop (fun k:Nat=>ar [(0,.view 1000000 [] 1 0 n),(10,.int .i64 ((m+j:Nat):Int)),(13,.int .i64 ((a+k:Nat):Int))] (cu 1000000 (dT p r q x k))) (fun k=>k≤j) (fun k=>j-k) 0 (zv4 _) ?_ (fun k hk =>?_))
  ·refine aF.c4 ?_ (fun n=>rfl);simp[aV,aW]
  have ww:IntKind.i64.wrap (((m+j:Nat):Int)-1)=((a+j:Nat):Int):=by rw[cA _ (by omega) (by omega)];simp at hm;omega
  have hil:(dT p r q x k).length=p.length+r.length+1+q.length:=wK (by omega);by_cases hkj:k<j
  ·have hc2:decide (((a+k:Nat):Int)<((a+j:Nat):Int))=true:=by simp;omega
   have hstep:=aiR (p:=p) (r:=r) (q:=q) (x:=x) (j:=k) ha (by omega);generalize dT p r q x k=ws at hil hstep ⊢;obtain ⟨i1,hi1e⟩:∃ i1,i1=a+k:=⟨_,rfl⟩
   obtain ⟨j1,hj1e⟩:∃ j1,j1=a+k+1:=⟨_,rfl⟩
   rw[←hj1e,←hi1e] at hstep;have wk:IntKind.i64.wrap ((i1:Int)+1)=(j1:Int):=by rw[cA _ (by omega) (by omega)];omega
   rw[←hi1e] at hc2 ⊢;have hi1:i1<n:=by simp at hm;omega
   have hj1:j1<n:=by simp at hm;omega
   simp only[cu];have v1:=jh (n:=n) (i:=i1) hi1;have v2:=jh (n:=n) (i:=j1) hj1;have l1:=gA (xs:=ws) (i:=i1) (by omega);have l2:=gA (xs:=ws) (i:=j1) (by omega);have s1:=fun (A:ae) v ao rest=>nx (A:=A) (n:=1000000) (xs:=ws) (i:=i1) (by omega) v ao rest;obtain ⟨ws2,hws2⟩:∃ ws2,ws2=ws.set i1 (ws.getD j1 0):=⟨_,rfl⟩
   have hw2l:ws2.length=ws.length:=by rw[hws2];simp
   have s2:=fun (A:ae) v ao rest=>nx (A:=A) (n:=1000000) (xs:=ws2) (i:=j1) (by omega) v ao rest;have l3:=gA (xs:=ws2) (i:=j1) (by omega);have R:=v6 @ww (v6 @hc2 (v6 @wk (v6 @v1 (v6 @v2 (v6 @l1 (v6 @l2 (v6 @l3 (v6 @s1 (v6 @s2 (v6 @eB (v6 @bl @J)))))))))))
   repeat' ((first |(with_reducible refine .guard (fun hb =>?_) (fun hb =>?_) <;>try simp only[hb])|refine U.aX (by decide +kernel) rfl fun K hK =>?_|(refine .aQ [0,1,2,3,4,10,11,12,13,14,15,16,17,18,19,20,21,22,23,24,28,33,50,58,80,85,103,110,140,151,171,185,199,213] hK ?_;clear hK K)|(with_reducible refine .done (hK _ ?_);clear hK K)|refine U.of rfl ?_|(with_reducible refine au.aU (fun h =>?_) (fun h =>?_) <;>try simp only[h])) <;>try simp only[aZ,R,←hws2,Nat.reduceEqDiff,reduceIte,Nat.reduceBEq])
   all_goals clear R
   refine ⟨k+1,by omega,by omega,?_⟩;rw[←hstep];simp only[kb,←hws2];have e:a+(k+1)=j1:=by omega
   rw[e];refine aF.c4 ?_ (fun n =>?_)
   ·simp[aV,aW]
   ·simp only[aj];split <;>rfl
  ·have hc2:decide (((a+k:Nat):Int)<((a+j:Nat):Int))=false:=by simp;omega
   have hk2:k=j:=by omega
   subst hk2;have R:=v6 @ww (v6 @hc2 (v6 @bl (v6 @fD @J)))
   repeat' ((first |(with_reducible refine .guard (fun hb =>?_) (fun hb =>?_) <;>try simp only[hb])|refine U.aX (by decide +kernel) rfl fun K hK =>?_|(refine .aQ [0,1,2,3,4,10,11,12,13,14,15,16,17,18,19,20,21,22,23,24,28,33,50,58,80,85,103,110,140,151,171,185,199,213] hK ?_;clear hK K)|(with_reducible refine .done (hK _ ?_);clear hK K)|refine U.of rfl ?_|(with_reducible refine au.aU (fun h =>?_) (fun h =>?_) <;>try simp only[h])) <;>try simp only[aZ,R,Nat.reduceEqDiff,reduceIte,Nat.reduceBEq])
   all_goals clear R
   refine nj rfl rfl ⟨rfl,r.take k++x::r.drop k,?_,?_,?_⟩
   ·refine List.perm_middle.trans ?_;rw[zy9];exact .refl _
   ·refine yr hsr (fun y hy =>?_) (fun y hy =>?_)
    ·obtain ⟨i,h1,h2,rfl⟩:=sQ hy;exact g3 i h1
    ·obtain ⟨i,h1,h2,rfl⟩:=pg hy;exact g4 i h1 h2
   ·rfl
theorem O2(el:List aw)(hd:lW el)(hel:el.length≤60)(p l r q:List Int)(a m b n:Nat)(hl0:0<l.length)(hr0:0<r.length)(ha:p.length=a)(hm:a+l.length=m)(hb:m+r.length=b)(hn:b≤n)(hnl:n≤(p++l++r++q).length)(hn1:n≤1000)(hsl:db el l)(hsr:db el r)(hlr:∀ x∈l,∀ y∈r,x<y)(hin:∀ x∈l++r,jg el x)(hl1:¬ l.length=1)(hr1:r.length=1) :
  cC Tryz.prog 204 [.view 1000000 [] 1 0 n,enc (a:Int),enc (m:Int),enc (b:Int),.func 138 [.ref (enc el)]] (cu 1000000 (p++l++r++q)) (mG el p (l++r) q):=by
 have hlen:(p++l++r++q).length=p.length+l.length+r.length+q.length:=by simp only[zz5]
 have mV:=fun i (hi:i<l.length)=>wo (p:=p) (l:=l) (r:=r) (q:=q) (i:=i) ha hi;have gr:=fun i (hi:i<r.length)=>wq (p:=p) (l:=l) (r:=r) (q:=q) (m:=m) (i:=i) (by omega) hi;have ml:=fun i (hi:i<l.length)=>(show l.getD i 0∈l by rw[zz1,zz8 hi];exact zy6 _)
 have mr:=fun i (hi:i<r.length)=>(show r.getD i 0∈r by rw[zz1,zz8 hi];exact zy6 _)
 refine cC.bu Tryz.func204 uD uF uR (t7 rfl) (t7 rfl) nq (fun hwf W0 D0 E1 =>?_);simp only[rO,tm,bj,zz4,Nat.reduceAdd];clear hwf;have eR:=iv (x:=m) (y:=a) (by omega) (by omega);refine U.seq (U.seq ?_);have h1:(((m-a:Nat):Int)==1)=false:=by simp;omega
 obtain ⟨ws,hws⟩:∃ ws,ws=p++l++r++q:=⟨_,rfl⟩
 rw[←hws] at hnl hlen gr mV ⊢;have w0b:=iv (x:=b) (y:=m) (by omega) (by omega);refine .bd (by decide +kernel) fun K hK =>?_;simp only[sh,J,Nat.reduceEqDiff,reduceIte]
 try simp only[eR,h1]
 refine .done (hK _ ?_);clear hK K;try simp only[al]
 refine U.bx ?_
 try simp only[au,J,Nat.reduceEqDiff,reduceIte]
 refine ⟨fun h =>?_,fun _ =>?_⟩
 ·simp at h
 refine U.skip ?_;try simp only[al]
 refine U.seq (U.seq ?_);obtain ⟨x,rfl⟩:=List.length_eq_one_iff.1 hr1;have gx:ws.getD m 0=x:=by have:=gr 0 hr0;simpa using this
 have hlx:∀ y∈l,y<x:=fun y hy=>hlr y hy x (by simp);have hxS:=hin x (by simp);have hlS:=fun y (hy:y∈l)=>hin y (by simp[hy]);have h2:((b-m:Nat):Int)=1:=by omega
 refine .bd (by decide +kernel) fun K hK =>?_;simp only[vW,J,Nat.reduceEqDiff,reduceIte]
 try simp only[w0b,h2,Int.reduceBEq]
 refine .done (hK _ ?_);clear hK K;try simp only[al]
 refine U.bx ?_
 try simp only[au,J,Nat.reduceEqDiff,reduceIte]
 refine ⟨fun _ =>?_,fun h =>?_⟩
 rotate_left
 ·simp at h
 refine .ak (by decide +kernel) fun K hK =>?_;simp only[Gy,J,Nat.reduceEqDiff,reduceIte];refine .done (hK _ ?_);clear hK K;refine .ak (by decide +kernel) fun K hK =>?_;simp only[Gz,J,Nat.reduceEqDiff,reduceIte];refine .done (hK _ ?_);clear hK K;refine U.seq (U.block (U.loop (fun s:Nat×Nat=>ar [(0,.view 1000000 [] 1 0 n),(1,.int .i64 a),(2,.int .i64 m),(3,.int .i64 b),(4,.func 138 [.ref (enc el)]),(14,.int .i64 ((a+s.1:Nat):Int)),(15,.int .i64 ((a+s.2:Nat):Int))] (cu 1000000 ws))
  (fun s=>s.1≤s.2∧s.2≤l.length∧(∀ j,j<s.1→dA el (l.getD j 0) x)∧∀ j,s.2≤j→j<l.length→dA el x (l.getD j 0)) (fun s=>s.2-s.1) (0,l.length) ⟨zv4 _,zz6 _,fun j hj=>by omega,fun j h1 h2=>by simp only at h1;omega⟩ ?_ ?_))
 ·have e1:a+0=a:=rfl;simp only[e1,hm];refine aF.c4 ?_ (fun n=>rfl);simp[aV,aW]
 rintro ⟨i,j⟩ ⟨g1,g2,g3,g4⟩;simp only at g1 g2 g3 g4 ⊢;by_cases hij:i<j
 ·have hc:decide (((a+i:Nat):Int)<((a+j:Nat):Int))=true:=by simp;omega
  have w1:=kc (a+i) (a+j) (by omega);have w2:=mc (x:=a+i+(a+j)) (by omega);obtain ⟨c,hcd⟩:∃ c,c=(i+j) / 2:=⟨_,rfl⟩
  have hci:i≤c∧c<j:=by omega
  have w3:(a+i+(a+j)) / 2=a+c:=by omega
  have w4:=mc (x:=a+c) (by omega);have w5:=rj (n:=a+c) (by omega);have w6:=gb (i:=a+c) (by omega);have v1:=jh (n:=n) (i:=a+c) (by omega);have v2:=jh (n:=n) (i:=m) (by omega);have l1:=gA (xs:=ws) (i:=a+c) (by omega);have l2:=gA (xs:=ws) (i:=m) (by omega);rw[mV c (by omega)] at l1;rw[gx] at l2;have hrc:=ml c (by omega);have hcmp:=rq el hd hel x (l.getD c 0) hxS (hlS _ hrc);have hlt:=sO (l:=el) (hlx _ hrc);simp only[cu];cases hdc:decide (fU el x-fU el (l.getD c 0)<0) with
  |true =>
   have hd1:dA el x (l.getD c 0):=hlt.2 (by have:=of_decide_eq_true hdc;omega);have R:=v6 @hc (v6 @w1 (v6 @w2 (v6 @w3 (v6 @w4 (v6 @w5 (v6 @w6 (v6 @ng (v6 @nf (v6 @v1 (v6 @v2 (v6 @l1 (v6 @l2 (v6 @hdc (v6 @eB (v6 @dM (v6 @bl @J))))))))))))))))
   repeat' ((first |(with_reducible refine .guard (fun hb =>?_) (fun hb =>?_) <;>try simp only[hb])|refine U.aX (by decide +kernel) rfl fun K hK =>?_|refine .flat _ (hcmp) rfl ?_|(refine .aQ [0,1,2,3,4,10,11,12,13,14,15,16,17,18,19,20,21,22,23,24,28,33,50,58,80,85,103,110,140,151,171,185,199,213] hK ?_;clear hK K)|(with_reducible refine .done (hK _ ?_);clear hK K)|refine U.of rfl ?_|(with_reducible refine au.aU (fun h =>?_) (fun h =>?_) <;>try simp only[h])) <;>try simp only[aZ,R,zy0,Nat.reduceEqDiff,reduceIte,Nat.reduceBEq])
   all_goals clear R
   refine ⟨(i,c),⟨by simp only;omega,by simp only;omega,g3,fun k hk hk2 =>?_⟩,by simp only;omega,?_⟩
   ·simp only at hk;exact pM hsl (i:=c) (by omega) hk2 hd1
   ·refine aF.c4 ?_ (fun n=>rfl);simp[aV,aW]
  |false =>
   have hd1:dA el (l.getD c 0) x:=sN (hlx _ hrc) (by have:=of_decide_eq_false hdc;omega);have R:=v6 @hc (v6 @w1 (v6 @w2 (v6 @w3 (v6 @w4 (v6 @w5 (v6 @w6 (v6 @ng (v6 @nf (v6 @v1 (v6 @v2 (v6 @l1 (v6 @l2 (v6 @hdc (v6 @eB (v6 @dM (v6 @bl @J))))))))))))))))
   repeat' ((first |(with_reducible refine .guard (fun hb =>?_) (fun hb =>?_) <;>try simp only[hb])|refine U.aX (by decide +kernel) rfl fun K hK =>?_|refine .flat _ (hcmp) rfl ?_|(refine .aQ [0,1,2,3,4,10,11,12,13,14,15,16,17,18,19,20,21,22,23,24,28,33,50,58,80,85,103,110,140,151,171,185,199,213] hK ?_;clear hK K)|(with_reducible refine .done (hK _ ?_);clear hK K)|refine U.of rfl ?_|(with_reducible refine au.aU (fun h =>?_) (fun h =>?_) <;>try simp only[h])) <;>try simp only[aZ,R,zy0,Nat.reduceEqDiff,reduceIte,Nat.reduceBEq])
   all_goals clear R
   refine ⟨(c+1,j),⟨by simp only;omega,g2,fun k hk =>?_,g4⟩,by simp only;omega,?_⟩
   ·simp only at hk;exact pN hsl (j:=c) (by omega) (by omega) hd1
   ·refine aF.c4 ?_ (fun n=>rfl);simp[aV,aW];omega
 ·have hc:decide (((a+i:Nat):Int)<((a+j:Nat):Int))=false:=by simp;omega
  have he:j=i:=by omega
  subst he;refine U.seq (U.seq ?_);refine .bd (by decide +kernel) fun K hK =>?_;simp only[GA,J,Nat.reduceEqDiff,reduceIte]
  try simp only[hc]
  refine .done (hK _ ?_);clear hK K;try simp only[al]
  refine U.bx ?_;simp only[au,J,Nat.reduceEqDiff,reduceIte];refine ⟨fun h =>?_,fun h =>?_⟩
  ·cases h
  refine U.exit ?_;try simp only[al,bJ,reduceIte]
  refine U.seq (U.seq ?_);refine .bd (by decide +kernel) fun K hK =>?_;simp only[GC,J,Nat.reduceEqDiff,reduceIte];refine .done (hK _ ?_);clear hK K;try simp only[al]
  have hi0:=ae2 p l q x;rw[hws,←hi0];refine U.block (U.loop (fun k:Nat=>ar [(0,.view 1000000 [] 1 0 n),(14,.int .i64 ((a+j:Nat):Int)),(17,.int .i64 ((a+k:Nat):Int))] (cu 1000000 (dT p l q x k))) (fun k=>j≤k∧k≤l.length) (fun k=>k-j) l.length ⟨g2,zz6 _⟩ ?_ (fun k hk =>?_))
  ·rw[hm];refine aF.c4 ?_ (fun n=>rfl);simp[aV,aW]
  have hil:(dT p l q x k).length=p.length+l.length+1+q.length:=wK (by omega);by_cases hkj:j<k
  ·have hc2:decide (((a+j:Nat):Int)<((a+k:Nat):Int))=true:=by simp;omega
   obtain ⟨k',rfl⟩:∃ k',k=k'+1:=⟨k-1,by omega⟩
   have hstep:=Js (p:=p) (t:=l) (rest:=q) (x:=x) (c:=k') ha (by omega);generalize dT p l q x (k'+1)=ws at hil hstep ⊢;obtain ⟨i1,hi1e⟩:∃ i1,i1=a+(k'+1):=⟨_,rfl⟩
   obtain ⟨j1,hj1e⟩:∃ j1,j1=a+k':=⟨_,rfl⟩
   have hij:a+k'+1=i1:=by omega
   rw[hij,←hj1e] at hstep;have wk:IntKind.i64.wrap ((i1:Int)-1)=(j1:Int):=by rw[cA _ (by omega) (by omega)];omega
   rw[←hi1e] at hc2 ⊢;have hi1:i1<n:=by omega
   have hj1:j1<n:=by omega
   simp only[cu];have v1:=jh (n:=n) (i:=i1) hi1;have v2:=jh (n:=n) (i:=j1) hj1;have l1:=gA (xs:=ws) (i:=i1) (by omega);have l2:=gA (xs:=ws) (i:=j1) (by omega);have s1:=fun (A:ae) v ao rest=>nx (A:=A) (n:=1000000) (xs:=ws) (i:=i1) (by omega) v ao rest;obtain ⟨ws2,hws2⟩:∃ ws2,ws2=ws.set i1 (ws.getD j1 0):=⟨_,rfl⟩
   have hw2l:ws2.length=ws.length:=by rw[hws2];simp
   have s2:=fun (A:ae) v ao rest=>nx (A:=A) (n:=1000000) (xs:=ws2) (i:=j1) (by omega) v ao rest;have l3:=gA (xs:=ws2) (i:=j1) (by omega);have R:=v6 @hc2 (v6 @wk (v6 @v1 (v6 @v2 (v6 @l1 (v6 @l2 (v6 @l3 (v6 @s1 (v6 @s2 (v6 @eB (v6 @bl @J))))))))))
   repeat' ((first |(with_reducible refine .guard (fun hb =>?_) (fun hb =>?_) <;>try simp only[hb])|refine U.aX (by decide +kernel) rfl fun K hK =>?_|(refine .aQ [0,1,2,3,4,10,11,12,13,14,15,16,17,18,19,20,21,22,23,24,28,33,50,58,80,85,103,110,140,151,171,185,199,213] hK ?_;clear hK K)|(with_reducible refine .done (hK _ ?_);clear hK K)|refine U.of rfl ?_|(with_reducible refine au.aU (fun h =>?_) (fun h =>?_) <;>try simp only[h])) <;>try simp only[aZ,R,←hws2,Nat.reduceEqDiff,reduceIte,Nat.reduceBEq])
   all_goals clear R
   refine ⟨k',by omega,by omega,?_⟩;rw[←hstep];simp only[kb,←hws2,←hj1e];refine aF.c4 ?_ (fun n =>?_)
   ·simp[aV,aW]
   ·simp only[aj];split <;>rfl
  ·have hc2:decide (((a+j:Nat):Int)<((a+k:Nat):Int))=false:=by simp;omega
   have hk2:k=j:=by omega
   subst hk2;have R:=v6 @hc2 (v6 @bl (v6 @fD @J))
   repeat' ((first |(with_reducible refine .guard (fun hb =>?_) (fun hb =>?_) <;>try simp only[hb])|refine U.aX (by decide +kernel) rfl fun K hK =>?_|(refine .aQ [0,1,2,3,4,10,11,12,13,14,15,16,17,18,19,20,21,22,23,24,28,33,50,58,80,85,103,110,140,151,171,185,199,213] hK ?_;clear hK K)|(with_reducible refine .done (hK _ ?_);clear hK K)|refine U.of rfl ?_|(with_reducible refine au.aU (fun h =>?_) (fun h =>?_) <;>try simp only[h])) <;>try simp only[aZ,R,Nat.reduceEqDiff,reduceIte,Nat.reduceBEq])
   all_goals clear R
   refine nj rfl rfl ⟨rfl,l.take k++x::l.drop k,?_,?_,?_⟩
   ·refine List.perm_middle.trans ?_;rw[zy9];exact List.perm_append_comm (l₁:=[x])
   ·refine yr hsl (fun y hy =>?_) (fun y hy =>?_)
    ·obtain ⟨i,h1,h2,rfl⟩:=sQ hy;exact g3 i h1
    ·obtain ⟨i,h1,h2,rfl⟩:=pg hy;exact g4 i h1 h2
   ·rfl
theorem O3(el:List aw)(hd:lW el)(hel:el.length≤60)(N:Nat)(ih:∀ (p l r q:List Int) (a m b n:Nat),l.length+r.length≤N→0<l.length→0<r.length→p.length=a→a+l.length=m→m+r.length=b→b≤n→n≤(p++l++r++q).length→n≤1000→db el l→db el r→(∀ x∈l,∀ y∈r,x<y)→(∀ x∈l++r,jg el x) →
  cC Tryz.prog 204 [.view 1000000 [] 1 0 n,enc (a:Int),enc (m:Int),enc (b:Int),.func 138 [.ref (enc el)]] (cu 1000000 (p++l++r++q)) (mG el p (l++r) q)) (p l r q:List Int) (a m b n:Nat) (hl0:0<l.length) (hr0:0<r.length) (ha:p.length=a) (hm:a+l.length=m) (hb:m+r.length=b) (hn:b≤n) (hnl:n≤(p++l++r++q).length) (hn1:n≤1000) (hsl:db el l) (hsr:db el r) (hlr:∀ x∈l,∀ y∈r,x<y) (hin:∀ x∈l++r,jg el x) (hN:l.length+r.length≤N+1) (hl1:¬ l.length=1) (hr1:¬ r.length=1) :
  cC Tryz.prog 204 [.view 1000000 [] 1 0 n,enc (a:Int),enc (m:Int),enc (b:Int),.func 138 [.ref (enc el)]] (cu 1000000 (p++l++r++q)) (mG el p (l++r) q):=by
 have hlen:(p++l++r++q).length=p.length+l.length+r.length+q.length:=by simp only[zz5]
 have mV:=fun i (hi:i<l.length)=>wo (p:=p) (l:=l) (r:=r) (q:=q) (i:=i) ha hi;have gr:=fun i (hi:i<r.length)=>wq (p:=p) (l:=l) (r:=r) (q:=q) (m:=m) (i:=i) (by omega) hi;have ml:=fun i (hi:i<l.length)=>(show l.getD i 0∈l by rw[zz1,zz8 hi];exact zy6 _)
 have mr:=fun i (hi:i<r.length)=>(show r.getD i 0∈r by rw[zz1,zz8 hi];exact zy6 _)
 refine cC.bu Tryz.func204 uD uF uR (t7 rfl) (t7 rfl) nq (fun hwf W0 D0 E1 =>?_);simp only[rO,tm,bj,zz4,Nat.reduceAdd];clear hwf;have eR:=iv (x:=m) (y:=a) (by omega) (by omega);refine U.seq (U.seq ?_);have h1:(((m-a:Nat):Int)==1)=false:=by simp;omega
 obtain ⟨ws,hws⟩:∃ ws,ws=p++l++r++q:=⟨_,rfl⟩
 rw[←hws] at hnl hlen gr mV ⊢;have w0b:=iv (x:=b) (y:=m) (by omega) (by omega);refine .bd (by decide +kernel) fun K hK =>?_;simp only[sh,J,Nat.reduceEqDiff,reduceIte]
 try simp only[eR,h1]
 refine .done (hK _ ?_);clear hK K;try simp only[al]
 refine U.bx ?_
 try simp only[au,J,Nat.reduceEqDiff,reduceIte]
 refine ⟨fun h =>?_,fun _ =>?_⟩
 ·simp at h
 refine U.skip ?_;try simp only[al]
 refine U.seq (U.seq ?_);have h2:(((b-m:Nat):Int)==1)=false:=by simp;omega
 refine .bd (by decide +kernel) fun K hK =>?_;simp only[vW,J,Nat.reduceEqDiff,reduceIte]
 try simp only[w0b,h2]
 refine .done (hK _ ?_);clear hK K;try simp only[al]
 refine U.bx ?_
 try simp only[au,J,Nat.reduceEqDiff,reduceIte]
 refine ⟨fun h =>?_,fun _ =>?_⟩
 ·simp at h
 refine U.skip ?_;try simp only[al]
 obtain ⟨k,hk⟩:∃ k,k=(l.length+r.length) / 2:=⟨_,rfl⟩
 have w1:=kc a b (by omega);have w2:=mc (x:=a+b) (by omega);have w3:(a+b) / 2=a+k:=by omega
 have w4:=mc (x:=a+k) (by omega);have w5:=rj (n:=a+k) (by omega);have w6:=kc (a+k) m (by omega);refine .ak (by decide +kernel) fun K hK =>?_;simp only[GD,J,Nat.reduceEqDiff,reduceIte]
 try simp only[w1,w2,w3,w5,ng,nf,J,Nat.reduceEqDiff,reduceIte]
 refine .done (hK _ ?_);clear hK K;refine .ak (by decide +kernel) fun K hK =>?_;simp only[GF,J,Nat.reduceEqDiff,reduceIte]
 try simp only[w6]
 refine .done (hK _ ?_);clear hK K;refine .ak (by decide +kernel) fun K hK =>?_;simp only[GG,J];refine .done (hK _ ?_);clear hK K;obtain ⟨lo,hi,q1,q2,q3,q4,q5,q6,q7⟩:∃ lo hi,(if a+k<m then lo+r.length=k∧hi=k else lo=0∧hi=l.length)∧lo≤hi∧hi≤l.length∧hi≤k∧k≤lo+r.length∧(lo=0∨lo+r.length=k)∧(hi=l.length∨hi=k):=by
  by_cases h:a+k<m
  ·exact ⟨k-r.length,k,by rw[if_pos h];omega,by omega,by omega,by omega,by omega,by omega,by omega⟩
  ·exact ⟨0,l.length,by rw[if_neg h];omega,by omega,by omega,by omega,by omega,by omega,by omega⟩
 refine U.seq (U.yG (ar [(0,.view 1000000 [] 1 0 n),(1,.int .i64 a),(2,.int .i64 m),(3,.int .i64 b),(4,.func 138 [.ref (enc el)]),(18,.int .i64 ((a+k:Nat):Int)),(19,.int .i64 ((a+k+m:Nat):Int)),(20,.int .i64 ((a+lo:Nat):Int)),(21,.int .i64 ((a+hi:Nat):Int))] (cu 1000000 ws)) ?_ fun B hB=>U.sub hB ?_)
 ·by_cases h:a+k<m
  ·rw[if_pos h] at q1;have hc:decide (((a+k:Nat):Int)<(m:Int))=true:=by simp;omega
   have w7:=iv (x:=a+k+m) (y:=b) (by omega) (by omega);have e1:a+k+m-b=a+lo:=by omega
   have R:=v6 @hc (v6 @w7 (v6 @e1 (v6 @bl @J)))
   repeat' ((first |(with_reducible refine .guard (fun hb =>?_) (fun hb =>?_) <;>try simp only[hb])|refine U.aX (by decide +kernel) rfl fun K hK =>?_|(refine .aQ [0,1,2,3,4,10,11,12,13,14,15,16,17,18,19,20,21,22,23,24,28,33,50,58,80,85,103,110,140,151,171,185,199,213] hK ?_;clear hK K)|(with_reducible refine .done (hK _ ?_);clear hK K)|refine U.of rfl ?_|(with_reducible refine au.aU (fun h =>?_) (fun h =>?_) <;>try simp only[h])) <;>try simp only[aZ,R,Nat.reduceEqDiff,reduceIte,Nat.reduceBEq])
   all_goals clear R
   rw[q1.2];refine aF.c4 ?_ (fun n=>rfl);simp[aV,aW]
  ·rw[if_neg h] at q1;have hc:decide (((a+k:Nat):Int)<(m:Int))=false:=by simp;omega
   have R:=v6 @hc (v6 @bl @J)
   repeat' ((first |(with_reducible refine .guard (fun hb =>?_) (fun hb =>?_) <;>try simp only[hb])|refine U.aX (by decide +kernel) rfl fun K hK =>?_|(refine .aQ [0,1,2,3,4,10,11,12,13,14,15,16,17,18,19,20,21,22,23,24,28,33,50,58,80,85,103,110,140,151,171,185,199,213] hK ?_;clear hK K)|(with_reducible refine .done (hK _ ?_);clear hK K)|refine U.of rfl ?_|(with_reducible refine au.aU (fun h =>?_) (fun h =>?_) <;>try simp only[h])) <;>try simp only[aZ,R,Nat.reduceEqDiff,reduceIte,Nat.reduceBEq])
   all_goals clear R
   rw[q1.2,q1.1,hm];refine aF.c4 ?_ (fun n=>rfl);simp[aV,aW]
 clear q1 w1 w2 w3 w4 w5 w6 hl1 hr1 eR w0b;have hcrF:∀ i,lo≤i→i≤hi→(∀ j,lo≤j→j<i→dA el (l.getD j 0) (r.getD (k-1-j) 0))→(∀ j,i≤j→j<hi→dA el (r.getD (k-1-j) 0) (l.getD j 0))→rn el l r k i:=fun i a1 a2 a3 a4=>Wn hsl hsr a1 a2 q6 q7 q3 q4 q5 a3 a4;have hk2:2*k≤l.length+r.length:=by omega
 have hk3:1≤k:=by omega
 clear q6 q7 hk;have w8:IntKind.i64.wrap (((a+k+m:Nat):Int)-1)=((a+k+m-1:Nat):Int):=by rw[cA _ (by omega) (by omega)];omega
 refine .ak (by decide +kernel) fun K hK =>?_;simp only[GI,J,Nat.reduceEqDiff,reduceIte]
 try simp only[w8]
 refine .done (hK _ ?_);clear hK K;refine U.seq (U.block (U.loop (fun s:Nat×Nat=>ar [(0,.view 1000000 [] 1 0 n),(1,.int .i64 a),(2,.int .i64 m),(3,.int .i64 b),(4,.func 138 [.ref (enc el)]),(18,.int .i64 ((a+k:Nat):Int)),(19,.int .i64 ((a+k+m:Nat):Int)),(22,.int .i64 ((a+k+m-1:Nat):Int)),(20,.int .i64 ((a+s.1:Nat):Int)),(21,.int .i64 ((a+s.2:Nat):Int))] (cu 1000000 ws))
  (fun s=>lo≤s.1∧s.1≤s.2∧s.2≤hi∧(∀ j,lo≤j→j<s.1→dA el (l.getD j 0) (r.getD (k-1-j) 0))∧∀ j,s.2≤j→j<hi→dA el (r.getD (k-1-j) 0) (l.getD j 0)) (fun s=>s.2-s.1) (lo,hi) ⟨zz6 _,q2,zz6 _,fun j h1 h2=>by simp only at h2;omega,fun j h1 h2=>by simp only at h1;omega⟩ ?_ ?_))
 ·refine aF.c4 ?_ (fun n=>rfl);simp[aV,aW]
 rintro ⟨i,j⟩ ⟨fO,g1,g2,g3,g4⟩;simp only at fO g1 g2 g3 g4 ⊢;by_cases hij:i<j
 ·have hc:decide (((a+i:Nat):Int)<((a+j:Nat):Int))=true:=by simp;omega
  have w1:=kc (a+i) (a+j) (by omega);have w2:=mc (x:=a+i+(a+j)) (by omega);obtain ⟨c,hcd⟩:∃ c,c=(i+j) / 2:=⟨_,rfl⟩
  have hci:i≤c∧c<j:=by omega
  have w3:(a+i+(a+j)) / 2=a+c:=by omega
  have w4:=mc (x:=a+c) (by omega);have w5:=rj (n:=a+c) (by omega);have w6:=gb (i:=a+c) (by omega);have w9:=iv (x:=a+k+m-1) (y:=a+c) (by omega) (by omega);have e1:a+k+m-1-(a+c)=m+(k-1-c):=by omega
  have v1:=jh (n:=n) (i:=a+c) (by omega);have v2:=jh (n:=n) (i:=m+(k-1-c)) (by omega);have l1:=gA (xs:=ws) (i:=a+c) (by omega);have l2:=gA (xs:=ws) (i:=m+(k-1-c)) (by omega);rw[mV c (by omega)] at l1;rw[gr (k-1-c) (by omega)] at l2;have hlc:=ml c (by omega);have hrc:=mr (k-1-c) (by omega);have hcmp:=rq el hd hel (r.getD (k-1-c) 0) (l.getD c 0) (hin _ (by simp only[zy7];exact .inr hrc)) (hin _ (by simp only[zy7];exact .inl hlc));have hlt:=sO (l:=el) (hlr _ hlc _ hrc);simp only[cu];cases hdc:decide (fU el (r.getD (k-1-c) 0)-fU el (l.getD c 0)<0) with
  |true =>
   have hd1:dA el (r.getD (k-1-c) 0) (l.getD c 0):=hlt.2 (by have:=of_decide_eq_true hdc;omega);have R:=v6 @hc (v6 @w1 (v6 @w2 (v6 @w3 (v6 @w4 (v6 @w5 (v6 @w6 (v6 @w9 (v6 @e1 (v6 @ng (v6 @nf (v6 @v1 (v6 @v2 (v6 @l1 (v6 @l2 (v6 @hdc (v6 @eB (v6 @dM (v6 @bl @J))))))))))))))))))
   repeat' ((first |(with_reducible refine .guard (fun hb =>?_) (fun hb =>?_) <;>try simp only[hb])|refine U.aX (by decide +kernel) rfl fun K hK =>?_|refine .flat _ (hcmp) rfl ?_|(refine .aQ [0,1,2,3,4,10,11,12,13,14,15,16,17,18,19,20,21,22,23,24,28,33,50,58,80,85,103,110,140,151,171,185,199,213] hK ?_;clear hK K)|(with_reducible refine .done (hK _ ?_);clear hK K)|refine U.of rfl ?_|(with_reducible refine au.aU (fun h =>?_) (fun h =>?_) <;>try simp only[h])) <;>try simp only[aZ,R,zy0,Nat.reduceEqDiff,reduceIte,Nat.reduceBEq])
   all_goals clear R
   refine ⟨(i,c),⟨fO,by simp only;omega,by simp only;omega,g3,fun t ht ht2 =>?_⟩,by simp only;omega,?_⟩
   ·simp only at ht;exact pN hsr (j:=k-1-c) (by omega) (by omega) (pM hsl (i:=c) (by omega) (by omega) hd1)
   ·refine aF.c4 ?_ (fun n=>rfl);simp[aV,aW]
  |false =>
   have hd1:dA el (l.getD c 0) (r.getD (k-1-c) 0):=sN (hlr _ hlc _ hrc) (by have:=of_decide_eq_false hdc;omega);have R:=v6 @hc (v6 @w1 (v6 @w2 (v6 @w3 (v6 @w4 (v6 @w5 (v6 @w6 (v6 @w9 (v6 @e1 (v6 @ng (v6 @nf (v6 @v1 (v6 @v2 (v6 @l1 (v6 @l2 (v6 @hdc (v6 @eB (v6 @dM (v6 @bl @J))))))))))))))))))
   repeat' ((first |(with_reducible refine .guard (fun hb =>?_) (fun hb =>?_) <;>try simp only[hb])|refine U.aX (by decide +kernel) rfl fun K hK =>?_|refine .flat _ (hcmp) rfl ?_|(refine .aQ [0,1,2,3,4,10,11,12,13,14,15,16,17,18,19,20,21,22,23,24,28,33,50,58,80,85,103,110,140,151,171,185,199,213] hK ?_;clear hK K)|(with_reducible refine .done (hK _ ?_);clear hK K)|refine U.of rfl ?_|(with_reducible refine au.aU (fun h =>?_) (fun h =>?_) <;>try simp only[h])) <;>try simp only[aZ,R,zy0,Nat.reduceEqDiff,reduceIte,Nat.reduceBEq])
   all_goals clear R
   refine ⟨(c+1,j),⟨by simp only;omega,by simp only;omega,g2,fun t ht ht2 =>?_,g4⟩,by simp only;omega,?_⟩
   ·simp only at ht2;exact pN hsl (j:=c) (by omega) (by omega) (pM hsr (i:=k-1-c) (by omega) (by omega) hd1)
   ·refine aF.c4 ?_ (fun n=>rfl);simp[aV,aW];omega
 have hc:decide (((a+i:Nat):Int)<((a+j:Nat):Int))=false:=by simp;omega
 have he:j=i:=by omega
 subst he;have hcr:rn el l r k j:=hcrF _ fO g2 g3 g4;refine U.seq (U.seq ?_);refine .bd (by decide +kernel) fun K hK =>?_;simp only[GJ,J,Nat.reduceEqDiff,reduceIte]
 try simp only[hc]
 refine .done (hK _ ?_);clear hK K;try simp only[al]
 refine U.bx ?_;simp only[au,J,Nat.reduceEqDiff,reduceIte];refine ⟨fun h =>?_,fun h =>?_⟩
 ·cases h
 refine U.exit ?_;try simp only[al,bJ,reduceIte]
 have w10:=iv (x:=a+k+m) (y:=a+j) (by omega) (by omega);have e2:a+k+m-(a+j)=m+(k-j):=by omega
 refine .ak (by decide +kernel) fun K hK =>?_;simp only[GK,J,Nat.reduceEqDiff,reduceIte]
 try simp only[w10,e2]
 refine .done (hK _ ?_);clear hK K
 -- the four parts
 have hl12:l.take j++l.drop j=l:=zy9 _ _;have hr12:r.take (k-j)++r.drop (k-j)=r:=zy9 _ _;obtain ⟨l1,hl1e⟩:∃ l1,l1=l.take j:=⟨_,rfl⟩
 obtain ⟨l2,hl2e⟩:∃ l2,l2=l.drop j:=⟨_,rfl⟩
 obtain ⟨r1,hr1e⟩:∃ r1,r1=r.take (k-j):=⟨_,rfl⟩
 obtain ⟨dE,hr2e⟩:∃ dE,dE=r.drop (k-j):=⟨_,rfl⟩
 have ll1:l1.length=j:=by rw[hl1e,zx3];omega
 have ll2:l2.length=l.length-j:=by rw[hl2e,zx0]
 have lr1:r1.length=k-j:=by rw[hr1e,zx3];omega
 have lr2:dE.length=r.length-(k-j):=by rw[hr2e,zx0]
 have sl1:db el l1:=hl1e▸Nr hsl _;have sl2:db el l2:=hl2e▸Nq hsl _;have sr1:db el r1:=hr1e▸Nr hsr _;have sr2:db el dE:=hr2e▸Nq hsr _;have ml1:∀ x∈l1,x∈l:=fun x hx=>List.mem_of_mem_take (hl1e▸hx);have ml2:∀ x∈l2,x∈l:=fun x hx=>List.mem_of_mem_drop (hl2e▸hx);have mr1:∀ x∈r1,x∈r:=fun x hx=>List.mem_of_mem_take (hr1e▸hx);have mr2:∀ x∈dE,x∈r:=fun x hx=>List.mem_of_mem_drop (hr2e▸hx);rw[←hl1e,←hl2e] at hl12;rw[←hr1e,←hr2e] at hr12;have hws4:ws=(p++l1)++l2++r1++(dE++q):=by rw[hws,←hl12,←hr12];simp only[zz3]
 have e3:((a+j:Nat):Int)<m↔j<l.length:=by omega
 -- the parts change places
 refine U.seq (U.yG (ar [(0,.view 1000000 [] 1 0 n),(1,.int .i64 a),(3,.int .i64 b),(4,.func 138 [.ref (enc el)]),(18,.int .i64 ((a+k:Nat):Int)),(20,.int .i64 ((a+j:Nat):Int)),(24,.int .i64 ((m+(k-j):Nat):Int))] (cu 1000000 (p++l1++r1++(l2++dE++q)))) ?_ fun B hB=>U.sub hB ?_)
 ·by_cases h1:j<l.length
  ·have hc1:decide (((a+j:Nat):Int)<(m:Int))=true:=by simp;omega
   by_cases h2:j<k
   ·have hc2:decide ((m:Int)<((m+(k-j):Nat):Int))=true:=by simp;omega
    have hrot:=O7 (p++l1) l2 r1 (dE++q) (a+j) m (m+(k-j)) n 138 [.ref (enc el)] (by simp[I.bW,I.bp,dM]) (by rw[zz5];omega) (by omega) (by omega) (by omega) (by omega) (by omega) hn1;rw[←hws4] at hrot;have R:=v6 @hc1 (v6 @hc2 (v6 @bl @J))
    repeat' ((first |(with_reducible refine .guard (fun hb =>?_) (fun hb =>?_) <;>try simp only[hb])|refine U.aX (by decide +kernel) rfl fun K hK =>?_|(refine .aQ [0,1,2,3,4,10,11,12,13,14,15,16,17,18,19,20,21,22,23,24,28,33,50,58,80,85,103,110,140,151,171,185,199,213] hK ?_;clear hK K)|(with_reducible refine .done (hK _ ?_);clear hK K)|refine U.of rfl ?_|(with_reducible refine au.aU (fun h =>?_) (fun h =>?_) <;>try simp only[h])) <;>try simp only[aZ,R,Nat.reduceEqDiff,reduceIte,Nat.reduceBEq])
    all_goals clear R
    refine bh.kJ hrot (ki _ n 138 [.ref (enc el)] (by simp[I.bW,I.bp,dM]) [_,_,_]) ?_;rintro ez os' ⟨rfl,rfl⟩;refine ⟨_,rfl,rfl,?_⟩
    try simp only[J]
    refine .done (hK _ ?_);clear hK K;have e5:p++l1++r1++l2++(dE++q)=p++l1++r1++(l2++dE++q):=by simp only[zz3]
    rw[e5];refine aF.c4 ?_ (fun n=>rfl);simp[aV,aW]
   ·have hc2:decide ((m:Int)<((m+(k-j):Nat):Int))=false:=by simp;omega
    have hn0:r1=[]:=zv1.1 (by omega);have e5:ws=p++l1++r1++(l2++dE++q):=by rw[hws4,hn0];simp only[zz3,zw1]
    rw[e5];have R:=v6 @hc1 (v6 @hc2 (v6 @bl @J))
    repeat' ((first |(with_reducible refine .guard (fun hb =>?_) (fun hb =>?_) <;>try simp only[hb])|refine U.aX (by decide +kernel) rfl fun K hK =>?_|(refine .aQ [0,1,2,3,4,10,11,12,13,14,15,16,17,18,19,20,21,22,23,24,28,33,50,58,80,85,103,110,140,151,171,185,199,213] hK ?_;clear hK K)|(with_reducible refine .done (hK _ ?_);clear hK K)|refine U.of rfl ?_|(with_reducible refine au.aU (fun h =>?_) (fun h =>?_) <;>try simp only[h])) <;>try simp only[aZ,R,Nat.reduceEqDiff,reduceIte,Nat.reduceBEq])
    all_goals clear R
    refine aF.c4 ?_ (fun n=>rfl);simp[aV,aW]
  ·have hc1:decide (((a+j:Nat):Int)<(m:Int))=false:=by simp;omega
   have hn0:l2=[]:=zv1.1 (by omega);have e5:ws=p++l1++r1++(l2++dE++q):=by rw[hws4,hn0];simp only[zz3,zw1,zy8]
   rw[e5];have R:=v6 @hc1 (v6 @bl @J)
   repeat' ((first |(with_reducible refine .guard (fun hb =>?_) (fun hb =>?_) <;>try simp only[hb])|refine U.aX (by decide +kernel) rfl fun K hK =>?_|(refine .aQ [0,1,2,3,4,10,11,12,13,14,15,16,17,18,19,20,21,22,23,24,28,33,50,58,80,85,103,110,140,151,171,185,199,213] hK ?_;clear hK K)|(with_reducible refine .done (hK _ ?_);clear hK K)|refine U.of rfl ?_|(with_reducible refine au.aU (fun h =>?_) (fun h =>?_) <;>try simp only[h])) <;>try simp only[aZ,R,Nat.reduceEqDiff,reduceIte,Nat.reduceBEq])
   all_goals clear R
   refine aF.c4 ?_ (fun n=>rfl);simp[aV,aW]
 -- the lower half
 refine U.seq (U.ai3 (fun s1:List Int=>ar [(0,.view 1000000 [] 1 0 n),(3,.int .i64 b),(4,.func 138 [.ref (enc el)]),(18,.int .i64 ((a+k:Nat):Int)),(24,.int .i64 ((m+(k-j):Nat):Int))] (cu 1000000 (p++s1++l2++dE++q))) (fun s1=>s1.Perm (l1++r1)∧db el s1) ?_ fun s1 B hC hB=>U.sub hB ?_)
 ·by_cases h1:0<j
  ·have hc1:decide ((a:Int)<((a+j:Nat):Int))=true:=by simp;omega
   by_cases h2:j<k
   ·have hc2:decide (((a+j:Nat):Int)<((a+k:Nat):Int))=true:=by simp;omega
    have hrec:=ih p l1 r1 (l2++dE++q) a (a+j) (a+k) n (by omega) (by omega) (by omega) ha (by omega) (by omega) (by omega) (by simp only[zz5];omega) hn1 sl1 sr1 (fun x hx y hy=>hlr x (ml1 x hx) y (mr1 y hy)) (fun x hx=>hin x (by
     rcases zy7.1 hx with h | h
     ·exact zy7.2 (.inl (ml1 x h))
     ·exact zy7.2 (.inr (mr1 x h))))
    have R:=v6 @hc1 (v6 @hc2 (v6 @bl @J))
    repeat' ((first |(with_reducible refine .guard (fun hb =>?_) (fun hb =>?_) <;>try simp only[hb])|refine U.aX (by decide +kernel) rfl fun K hK =>?_|(refine .aQ [0,1,2,3,4,10,11,12,13,14,15,16,17,18,19,20,21,22,23,24,28,33,50,58,80,85,103,110,140,151,171,185,199,213] hK ?_;clear hK K)|(with_reducible refine .done (hK _ ?_);clear hK K)|refine U.of rfl ?_|(with_reducible refine au.aU (fun h =>?_) (fun h =>?_) <;>try simp only[h])) <;>try simp only[aZ,R,Nat.reduceEqDiff,reduceIte,Nat.reduceBEq])
    all_goals clear R
    refine bh.kJ hrec (ki _ n 138 [.ref (enc el)] (by simp[I.bW,I.bp,dM]) [_,_,_]) ?_;rintro ez os' ⟨rfl,s1,k1,k2,rfl⟩;refine ⟨_,rfl,rfl,?_⟩
    try simp only[J]
    refine .done (hK _ ?_);clear hK K;refine ⟨s1,⟨k1,k2⟩,?_⟩;have e5:p++s1++(l2++dE++q)=p++s1++l2++dE++q:=by simp only[zz3]
    rw[e5];refine aF.c4 ?_ (fun n=>rfl);simp[aV,aW]
   ·have hc2:decide (((a+j:Nat):Int)<((a+k:Nat):Int))=false:=by simp;omega
    have hn0:r1=[]:=zv1.1 (by omega);have R:=v6 @hc1 (v6 @hc2 (v6 @bl @J))
    repeat' ((first |(with_reducible refine .guard (fun hb =>?_) (fun hb =>?_) <;>try simp only[hb])|refine U.aX (by decide +kernel) rfl fun K hK =>?_|(refine .aQ [0,1,2,3,4,10,11,12,13,14,15,16,17,18,19,20,21,22,23,24,28,33,50,58,80,85,103,110,140,151,171,185,199,213] hK ?_;clear hK K)|(with_reducible refine .done (hK _ ?_);clear hK K)|refine U.of rfl ?_|(with_reducible refine au.aU (fun h =>?_) (fun h =>?_) <;>try simp only[h])) <;>try simp only[aZ,R,Nat.reduceEqDiff,reduceIte,Nat.reduceBEq])
    all_goals clear R
    refine ⟨l1++r1,⟨.refl _,by rw[hn0,zw1];exact sl1⟩,?_⟩;have e5:p++l1++r1++(l2++dE++q)=p++(l1++r1)++l2++dE++q:=by simp only[zz3]
    rw[e5];refine aF.c4 ?_ (fun n=>rfl);simp[aV,aW]
  ·have hc1:decide ((a:Int)<((a+j:Nat):Int))=false:=by simp;omega
   have hn0:l1=[]:=zv1.1 (by omega);have R:=v6 @hc1 (v6 @bl @J)
   repeat' ((first |(with_reducible refine .guard (fun hb =>?_) (fun hb =>?_) <;>try simp only[hb])|refine U.aX (by decide +kernel) rfl fun K hK =>?_|(refine .aQ [0,1,2,3,4,10,11,12,13,14,15,16,17,18,19,20,21,22,23,24,28,33,50,58,80,85,103,110,140,151,171,185,199,213] hK ?_;clear hK K)|(with_reducible refine .done (hK _ ?_);clear hK K)|refine U.of rfl ?_|(with_reducible refine au.aU (fun h =>?_) (fun h =>?_) <;>try simp only[h])) <;>try simp only[aZ,R,Nat.reduceEqDiff,reduceIte,Nat.reduceBEq])
   all_goals clear R
   refine ⟨l1++r1,⟨.refl _,by rw[hn0,zy8];exact sr1⟩,?_⟩;have e5:p++l1++r1++(l2++dE++q)=p++(l1++r1)++l2++dE++q:=by simp only[zz3]
   rw[e5];refine aF.c4 ?_ (fun n=>rfl);simp[aV,aW]
 -- the upper half
 obtain ⟨k1,k2⟩:=hC;have ls1:s1.length=k:=by rw[k1.length_eq,zz5];omega
 have done:∀ s2,s2.Perm (l2++dE)→db el s2→∀ ts ws',ws'=p++s1++s2++q→kQ [] (mG el p (l++r) q) (ar ts (cu 1000000 ws')):=fun s2 k3 k4 ts ws' he=>by
  obtain ⟨j1,j2⟩:=aix hcr (hl1e▸hr1e▸k1) (hl2e▸hr2e▸k3) k2 k4;exact nj rfl (he.trans (by simp only[zz3])) ⟨rfl,s1++s2,j1,j2,rfl⟩
 by_cases h1:j<l.length
 ·have hc1:decide (((a+k:Nat):Int)<((m+(k-j):Nat):Int))=true:=by simp;omega
  by_cases h2:k-j<r.length
  ·have hc2:decide (((m+(k-j):Nat):Int)<(b:Int))=true:=by simp;omega
   have hrec:=ih (p++s1) l2 dE q (a+k) (m+(k-j)) b n (by omega) (by omega) (by omega) (by rw[zz5];omega) (by omega) (by omega) hn (by simp only[zz5];omega) hn1 sl2 sr2 (fun x hx y hy=>hlr x (ml2 x hx) y (mr2 y hy)) (fun x hx=>hin x (by
    rcases zy7.1 hx with h | h
    ·exact zy7.2 (.inl (ml2 x h))
    ·exact zy7.2 (.inr (mr2 x h))))
   have R:=v6 @hc1 (v6 @hc2 (v6 @bl @J))
   repeat' ((first |(with_reducible refine .guard (fun hb =>?_) (fun hb =>?_) <;>try simp only[hb])|refine U.aX (by decide +kernel) rfl fun K hK =>?_|(refine .aQ [0,1,2,3,4,10,11,12,13,14,15,16,17,18,19,20,21,22,23,24,28,33,50,58,80,85,103,110,140,151,171,185,199,213] hK ?_;clear hK K)|(with_reducible refine .done (hK _ ?_);clear hK K)|refine U.of rfl ?_|(with_reducible refine au.aU (fun h =>?_) (fun h =>?_) <;>try simp only[h])) <;>try simp only[aZ,R,Nat.reduceEqDiff,reduceIte,Nat.reduceBEq])
   all_goals clear R
   refine bh.kJ hrec (ki _ n 138 [.ref (enc el)] (by simp[I.bW,I.bp,dM]) [_,_,_]) ?_;rintro ez os' ⟨rfl,s2,k3,k4,rfl⟩;refine ⟨_,rfl,rfl,?_⟩
   try simp only[J]
   refine .done (hK _ ?_);clear hK K;rw[lI];exact done s2 k3 k4 _ _ rfl
  ·have hc2:decide (((m+(k-j):Nat):Int)<(b:Int))=false:=by simp;omega
   have hn0:dE=[]:=zv1.1 (by omega);have R:=v6 @hc1 (v6 @hc2 (v6 @bl @J))
   repeat' ((first |(with_reducible refine .guard (fun hb =>?_) (fun hb =>?_) <;>try simp only[hb])|refine U.aX (by decide +kernel) rfl fun K hK =>?_|(refine .aQ [0,1,2,3,4,10,11,12,13,14,15,16,17,18,19,20,21,22,23,24,28,33,50,58,80,85,103,110,140,151,171,185,199,213] hK ?_;clear hK K)|(with_reducible refine .done (hK _ ?_);clear hK K)|refine U.of rfl ?_|(with_reducible refine au.aU (fun h =>?_) (fun h =>?_) <;>try simp only[h])) <;>try simp only[aZ,R,Nat.reduceEqDiff,reduceIte,Nat.reduceBEq])
   all_goals clear R
   rw[lI];exact done (l2++dE) (.refl _) (by rw[hn0,zw1];exact sl2) _ (p++s1++l2++dE++q) (by simp only[zz3])
 ·have hc1:decide (((a+k:Nat):Int)<((m+(k-j):Nat):Int))=false:=by simp;omega
  have hn0:l2=[]:=zv1.1 (by omega);have R:=v6 @hc1 (v6 @bl @J)
  repeat' ((first |(with_reducible refine .guard (fun hb =>?_) (fun hb =>?_) <;>try simp only[hb])|refine U.aX (by decide +kernel) rfl fun K hK =>?_|(refine .aQ [0,1,2,3,4,10,11,12,13,14,15,16,17,18,19,20,21,22,23,24,28,33,50,58,80,85,103,110,140,151,171,185,199,213] hK ?_;clear hK K)|(with_reducible refine .done (hK _ ?_);clear hK K)|refine U.of rfl ?_|(with_reducible refine au.aU (fun h =>?_) (fun h =>?_) <;>try simp only[h])) <;>try simp only[aZ,R,Nat.reduceEqDiff,reduceIte,Nat.reduceBEq])
  all_goals clear R
  rw[lI];exact done (l2++dE) (.refl _) (by rw[hn0,zy8];exact sr2) _ (p++s1++l2++dE++q) (by simp only[zz3])
theorem y7(el:List aw)(hd:lW el)(hel:el.length≤60):∀ (N:Nat) (p l r q:List Int) (a m b n:Nat),l.length+r.length≤N→0<l.length→0<r.length→p.length=a→a+l.length=m→m+r.length=b→b≤n→n≤(p++l++r++q).length→n≤1000→db el l→db el r→(∀ x∈l,∀ y∈r,x<y)→(∀ x∈l++r,jg el x) →
  cC Tryz.prog 204 [.view 1000000 [] 1 0 n,enc (a:Int),enc (m:Int),enc (b:Int),.func 138 [.ref (enc el)]] (cu 1000000 (p++l++r++q)) (mG el p (l++r) q):=by
 intro N
 induction N with
 |zero=>intro p l r q a m b n h1 h2;omega
 |succ N ih =>
  intro p l r q a m b n hN hl0 hr0 ha hm hb hn hnl hn1 hsl hsr hlr hin;by_cases hl1:l.length=1
  ·exact O1 el hd hel p l r q a m b n hl0 hr0 ha hm hb hn hnl hn1 hsl hsr hlr hin hl1
  by_cases hr1:r.length=1
  ·exact O2 el hd hel p l r q a m b n hl0 hr0 ha hm hb hn hnl hn1 hsl hsr hlr hin hl1 hr1
  ·exact O3 el hd hel N ih p l r q a m b n hl0 hr0 ha hm hb hn hnl hn1 hsl hsr hlr hin hN hl1 hr1
def dv(ws:List Int)(bs t:Nat):List Int:=(ws.drop (t*bs)).take bs
theorem BX(ws:List Int)(bs ao:Nat):dv ws (2*bs) ao=dv ws bs (2*ao)++dv ws bs (2*ao+1):=by
 simp only[dv];rw[show 2*bs=bs+bs by omega,List.take_add,List.drop_drop];have e1:ao*(bs+bs)=2*ao*bs:=by rw[Nat.mul_add,show 2*ao=ao+ao by omega,zv8]
 have e2:2*ao*bs+bs=(2*ao+1)*bs:=by rw[zv8];omega
 rw[e1,e2]
def lR(el:List aw)(bs:Nat)(o d:List Int):Prop:=o.length=d.length∧∀ t,(dv d bs t).Perm (dv o bs t)∧db el (dv d bs t)
theorem zh(el:List aw)(bs:Nat):lR el bs [] []:=⟨rfl,fun t=>by simp[dv,db]⟩
theorem BW{o b:List Int}{bs t t':Nat}(ho:o.length=t*bs)(hb:b.length≤bs):dv (o++b) bs t'=if t'<t then dv o bs t' else if t'=t then b else []:=by
 simp only[dv];by_cases h1:t'<t
 ·rw[if_pos h1];have h2:(t'+1)*bs≤t*bs:=Nat.mul_le_mul_right _ h1;rw[zv8,Nat.one_mul] at h2;rw[List.drop_append_of_le_length (by omega),zw4 (by rw[zx0];omega)]
 ·rw[if_neg h1];by_cases h2:t'=t
  ·subst h2;rw[if_pos rfl,←ho,List.drop_left,zw6 hb]
  ·rw[if_neg h2];have h3:(t+1)*bs≤t'*bs:=Nat.mul_le_mul_right _ (by omega);rw[zv8,Nat.one_mul] at h3;rw[zw7 (by rw[zz5];omega)];exact List.take_nil
theorem rC{el:List aw}{bs t:Nat}{o d b b':List Int}(h:lR el bs o d)(ho:o.length=t*bs)(hp:b'.Perm b)(hs:db el b')(hl:b.length≤bs):lR el bs (o++b) (d++b'):=by
 refine ⟨by rw[zz5,zz5,h.1,hp.length_eq],fun t' =>?_⟩;rw[BW (by rw[←h.1];exact ho) (by rw[hp.length_eq];exact hl),BW ho hl];split
 ·exact h.2 t'
 ·split
  ·exact ⟨hp,hs⟩
  ·exact ⟨.refl _,List.Pairwise.nil⟩
theorem Pw{el:List aw}{bs:Nat}{o d:List Int}(h:lR el bs o d)(hn:o.length≤bs):d.Perm o∧db el d:=by
 have:=h.2 0;simp only[dv,Nat.zero_mul,List.drop_zero] at this;rw[zw6 (by rw[←h.1];exact hn),zw6 hn] at this;exact this
theorem Uo{xs:List Int}(hx:xs.Pairwise (· < ·))(bs ao:Nat):∀ x∈dv xs bs (2*ao),∀ y∈dv xs bs (2*ao+1),x<y:=by
 have h:(dv xs (2*bs) ao).Pairwise (· < ·):=(hx.sublist (List.drop_sublist _ _)).sublist (List.take_sublist _ _);rw[BX,List.pairwise_append] at h;exact h.2.2
theorem uJ{xs:List Int}{bs t:Nat}{x:Int}(h:x∈dv xs bs t):x∈xs:=List.mem_of_mem_drop (List.mem_of_mem_take h)
theorem NL(xs:List Int)(bs t:Nat):xs.take ((t+1)*bs)=xs.take (t*bs)++dv xs bs t:=by
 rw[zv8,Nat.one_mul,List.take_add];rfl
theorem qc(xs:List Int)(bs t:Nat):xs.drop (t*bs)=dv xs bs t++xs.drop ((t+1)*bs):=by
 simp only[dv];rw[zv8,Nat.one_mul,←List.drop_drop,zy9]
theorem qb{xs:List Int}{bs t:Nat}(h:(t+1)*bs≤xs.length):(dv xs bs t).length=bs:=by
 rw[zv8,Nat.one_mul] at h;simp only[dv,zx3,zx0];omega
theorem ai9{x:Nat}(h:x<1000000):IntKind.i64.wrap (2*(x:Int))=((2*x:Nat):Int):=by rw[cA _ (by omega) (by omega)];omega
theorem aja{x:Nat}(h:x<1000000):IntKind.i64.wrap ((x:Int)*2)=((2*x:Nat):Int):=by rw[cA _ (by omega) (by omega)];omega
theorem JC{i n:Nat}(h:i≤n):decide ((i:Int)≤(n:Int))=true:=by simp;omega
theorem J5{i n:Nat}(h:¬ i≤n):decide ((i:Int)≤(n:Int))=false:=by simp;omega
structure Px where
 bs:Nat
 d:List Int
theorem OL(el:List aw)(hd:lW el)(hel:el.length≤60)(xs q:List Int)(hx:xs.Pairwise (· < ·))(hS:∀ x∈xs,jg el x)(hn:xs.length≤60) :
  cC Tryz.prog 171 [.view 1000000 [] 1 0 xs.length,enc (xs.length:Int),.func 138 [.ref (enc el)]] (cu 1000000 (xs++q)) (mG el [] xs q):=by
 refine cC.bu Tryz.func171 BK BS B6 (t7 rfl) (t7 rfl) nq (fun hwf W0 D0 E1 =>?_);simp only[uz,xY,bj,zz4,Nat.reduceAdd];clear hwf;have hcl:I.bW [.ref (enc el)]=true:=by simp[I.bW,I.bp,dM]
 refine .ak (by decide +kernel) fun K hK =>?_;simp only[vM,J,simprocAttr];refine .done (hK _ ?_);clear hK K;refine .ak (by decide +kernel) fun K hK =>?_;simp only[vN,J,simprocAttr];refine .done (hK _ ?_);clear hK K
 -- blocks of twenty
 refine U.seq (U.block (U.loop (fun s:Nat×List Int=>ar [(0,.view 1000000 [] 1 0 xs.length),(1,.int .i64 xs.length),(2,.func 138 [.ref (enc el)]),(6,.int .i64 20),(7,.int .i64 ((s.1*20:Nat):Int)),(8,.int .i64 (((s.1+1)*20:Nat):Int))] (cu 1000000 (s.2++xs.drop (s.1*20)++q)))
  (fun s=>s.1*20≤xs.length∧lR el 20 (xs.take (s.1*20)) s.2) (fun s=>xs.length-s.1*20) (0,[]) ⟨zv4 _,zh el 20⟩ ?_ ?_))
 ·refine aF.c4 ?_ (fun n=>rfl);simp[aV,aW]
 rintro ⟨t,d⟩ ⟨g1,g2⟩;simp only at g1 g2 ⊢;have ht:(xs.take (t*20)).length=t*20:=by rw[zx3];omega
 have hdl:d.length=t*20:=by rw[←g2.1,ht]
 by_cases hb:(t+1)*20≤xs.length
 ·have hc:=JC hb;have w1:IntKind.i64.wrap ((((t+1)*20:Nat):Int)+20)=(((t+1+1)*20:Nat):Int):=by rw[cA _ (by omega) (by omega)];omega
  have hcl2:=qb hb;have hins:=y6 el hd hel d (dv xs 20 t) (xs.drop ((t+1)*20)++q) (t*20) ((t+1)*20) xs.length hdl (by omega) hb (by simp only[zz5,zx0];omega) (by omega) ((hx.sublist (List.drop_sublist _ _)).sublist (List.take_sublist _ _)) (fun x hx=>hS x (uJ hx));have e1:d++dv xs 20 t++(xs.drop ((t+1)*20)++q)=d++xs.drop (t*20)++q:=by rw[qc xs 20 t];simp only[zz3]
  rw[e1] at hins;have R:=v6 @hc (v6 @bl @J)
  repeat' ((first |refine U.aX (by decide +kernel) rfl fun K hK =>?_|(refine .aQ [0,1,2,6,7,8,9,13,30,35,54] hK ?_;clear hK K)|(with_reducible refine .done (hK _ ?_);clear hK K)|refine U.of rfl ?_|(with_reducible refine au.aU (fun h =>?_) (fun h =>?_) <;>try simp only[h])) <;>try simp only[aZ,R,simprocAttr])
  all_goals clear R
  refine bh.kJ hins (ki _ xs.length 138 [.ref (enc el)] hcl [_,_]) ?_;rintro ez os' ⟨rfl,s',k1,k2,rfl⟩;refine ⟨_,rfl,rfl,?_⟩
  try simp only[J,simprocAttr]
  refine .done (hK _ ?_);clear hK K;have R:=v6 @w1 (v6 @bl @J)
  repeat' ((first |refine U.aX (by decide +kernel) rfl fun K hK =>?_|(refine .aQ [0,1,2,6,7,8,9,13,30,35,54] hK ?_;clear hK K)|(with_reducible refine .done (hK _ ?_);clear hK K)|refine U.of rfl ?_|(with_reducible refine au.aU (fun h =>?_) (fun h =>?_) <;>try simp only[h])) <;>try simp only[aZ,R,simprocAttr])
  all_goals clear R
  refine ⟨(t+1,d++s'),⟨hb,?_⟩,by simp only;omega,?_⟩
  ·simp only;rw[NL];exact rC g2 ht k1 k2 (by omega)
  ·simp only[←zz3];refine aF.c4 ?_ (fun n=>rfl);simp[aV,aW]
 have hc:=J5 hb;refine U.seq (U.seq ?_);refine .bd (by decide +kernel) fun K hK =>?_;simp only[FI,J,simprocAttr]
 try simp only[hc,simprocAttr]
 refine .done (hK _ ?_);clear hK K;try simp only[al]
 refine U.bx ?_;simp only[au,J,simprocAttr];refine ⟨fun h =>?_,fun h =>?_⟩
 ·cases h
 refine U.exit ?_;try simp only[al,bJ,simprocAttr]
 -- what is left
 have hins:=y6 el hd hel d (xs.drop (t*20)) q (t*20) xs.length xs.length hdl (by rw[zx0];omega) (zz6 _) (by simp only[zz5,zx0];omega) (by omega) (hx.sublist (List.drop_sublist _ _)) (fun x hx=>hS x (List.mem_of_mem_drop hx));refine .ak (by decide +kernel) fun K hK =>?_;simp only[FJ,J,simprocAttr];refine bh.kJ hins (ki _ xs.length 138 [.ref (enc el)] hcl [_,_]) ?_;rintro ez os' ⟨rfl,s',k1,k2,rfl⟩;refine ⟨_,rfl,rfl,?_⟩
 try simp only[J,simprocAttr]
 refine .done (hK _ ?_);clear hK K;have hSB:lR el 20 xs (d++s'):=by
  have:=rC g2 ht k1 k2 (by rw[zx0];omega)
  rwa [zy9] at this
 clear k1 k2 hins g2 ht hdl hb hc g1;generalize d++s'=d0 at hSB ⊢
 -- blocks are merged
 refine U.block (U.loop (fun s:Px=>ar [(0,.view 1000000 [] 1 0 xs.length),(1,.int .i64 xs.length),(2,.func 138 [.ref (enc el)]),(6,.int .i64 s.bs)] (cu 1000000 (s.d++q))) (fun s=>20≤s.bs∧s.bs≤120∧lR el s.bs xs s.d) (fun s=>200-s.bs) ⟨20,d0⟩ ⟨zz6 _,(by show 20≤120;omega),hSB⟩ ?_ ?_)
 ·refine aF.c4 ?_ (fun n=>rfl);simp[aV,aW]
 rintro ⟨bs,d1⟩ ⟨g1,g2,g3⟩;simp only at g1 g2 g3 ⊢;have hdl:=g3.1;by_cases hb:bs<xs.length
 case neg =>
  have hc:=ib hb;refine U.seq (U.seq ?_);refine .bd (by decide +kernel) fun K hK =>?_;simp only[vO,J,simprocAttr]
  try simp only[hc,simprocAttr]
  refine .done (hK _ ?_);clear hK K;try simp only[al]
  refine U.bx ?_;simp only[au,J,simprocAttr];refine ⟨fun h =>?_,fun h =>?_⟩
  ·cases h
  refine U.exit ?_;try simp only[al,bJ,simprocAttr]
  rw[lI];obtain ⟨k1,k2⟩:=Pw g3 (by omega);exact nj rfl rfl ⟨rfl,d1,k1,k2,rfl⟩
 have hc:=gI hb;have w1:=ai9 (x:=bs) (by omega);refine U.seq (U.seq ?_);refine .bd (by decide +kernel) fun K hK =>?_;simp only[vO,J,simprocAttr]
 try simp only[hc,simprocAttr]
 refine .done (hK _ ?_);clear hK K;try simp only[al]
 refine U.bx ?_;simp only[au,J,simprocAttr];refine ⟨fun h =>?_,fun h =>?_⟩
 rotate_left
 ·cases h
 refine U.skip ?_;try simp only[al,simprocAttr]
 refine U.block (U.seq ?_);refine .bd (by decide +kernel) fun K hK =>?_;simp only[FK,J,simprocAttr]
 try simp only[w1,simprocAttr]
 refine .done (hK _ ?_);clear hK K;try simp only[al]
 refine U.seq (U.block (U.loop (fun s:Nat×List Int=>ar [(0,.view 1000000 [] 1 0 xs.length),(1,.int .i64 xs.length),(2,.func 138 [.ref (enc el)]),(6,.int .i64 bs),(7,.int .i64 ((s.1*(2*bs):Nat):Int)),(8,.int .i64 (((s.1+1)*(2*bs):Nat):Int))] (cu 1000000 (s.2++d1.drop (s.1*(2*bs))++q)))
  (fun s=>s.1*(2*bs)≤xs.length∧lR el (2*bs) (xs.take (s.1*(2*bs))) s.2) (fun s=>xs.length-s.1*(2*bs)) (0,[]) ⟨by simp,by simp only[Nat.zero_mul,List.take_zero];exact zh el _⟩ ?_ ?_))
 ·simp only[Nat.zero_mul,zz4,Nat.one_mul,List.drop_zero,zy8];refine aF.c4 ?_ (fun n=>rfl);simp[aV,aW]
 rintro ⟨ao,e⟩ ⟨q1,q2⟩;simp only at q1 q2 ⊢;obtain ⟨A,hA⟩:∃ A,A=ao*(2*bs):=⟨_,rfl⟩
 have hA1:(ao+1)*(2*bs)=A+2*bs:=by rw[hA,zv8];omega
 have hA2:2*ao*bs=A:=by rw[hA,Nat.mul_comm 2 ao,Nat.mul_assoc]
 have hA3:(2*ao+1)*bs=A+bs:=by rw[zv8,hA2];omega
 have hA4:(2*ao+1+1)*bs=A+2*bs:=by rw[zv8,hA3];omega
 have ht:(xs.take A).length=A:=by rw[zx3,hA];omega
 have hel2:e.length=A:=by rw[←q2.1,←hA,ht]
 obtain ⟨kl1,kl2⟩:=g3.2 (2*ao);obtain ⟨kr1,kr2⟩:=g3.2 (2*ao+1);have hlt2:=Uo hx bs ao;have hd2:d1.drop A=dv d1 bs (2*ao)++d1.drop (A+bs):=by
  have:=qc d1 bs (2*ao)
  rwa [hA2,hA3] at this
 have hd3:d1.drop (A+bs)=dv d1 bs (2*ao+1)++d1.drop (A+2*bs):=by
  have:=qc d1 bs (2*ao+1)
  rwa [hA3,hA4] at this
 have hlr:∀ x∈dv d1 bs (2*ao),∀ y∈dv d1 bs (2*ao+1),x<y:=fun x h1 y h2=>hlt2 x (kl1.mem_iff.1 h1) y (kr1.mem_iff.1 h2);have hin:∀ x∈dv d1 bs (2*ao)++dv d1 bs (2*ao+1),jg el x:=fun x h1=>by
  rcases zy7.1 h1 with h1 | h1
  ·exact hS x (uJ (kl1.mem_iff.1 h1))
  ·exact hS x (uJ (kr1.mem_iff.1 h1))
 rw[hA1];rw[←hA] at q1 q2 ⊢;by_cases hb2:A+2*bs≤xs.length
 ·have hc2:=JC hb2;have w2:=kc A bs (by omega);have w3:IntKind.i64.wrap (((A+2*bs:Nat):Int)+((2*bs:Nat):Int))=((A+2*bs+2*bs:Nat):Int):=kc _ _ (by omega);have ll:(dv d1 bs (2*ao)).length=bs:=qb (by rw[hA3];omega);have lr:(dv d1 bs (2*ao+1)).length=bs:=qb (by rw[hA4];omega);have hm:=y7 el hd hel _ e (dv d1 bs (2*ao)) (dv d1 bs (2*ao+1)) (d1.drop (A+2*bs)++q) A (A+bs) (A+2*bs) xs.length (zz6 _) (by omega) (by omega) hel2 (by omega) (by omega) hb2 (by simp only[zz5,zx0];omega) (by omega) kl2 kr2 hlr hin;have e1:e++dv d1 bs (2*ao)++dv d1 bs (2*ao+1)++(d1.drop (A+2*bs)++q)=e++d1.drop A++q:=by rw[hd2,hd3];simp only[zz3]
  rw[e1] at hm;have R:=v6 @hc2 (v6 @w2 (v6 @bl @J))
  repeat' ((first |refine U.aX (by decide +kernel) rfl fun K hK =>?_|(refine .aQ [0,1,2,6,7,8,9,13,30,35,54] hK ?_;clear hK K)|(with_reducible refine .done (hK _ ?_);clear hK K)|refine U.of rfl ?_|(with_reducible refine au.aU (fun h =>?_) (fun h =>?_) <;>try simp only[h])) <;>try simp only[aZ,R,simprocAttr])
  all_goals clear R
  refine bh.kJ hm (ki _ xs.length 138 [.ref (enc el)] hcl [_,_,_]) ?_;rintro ez os' ⟨rfl,s',k1,k2,rfl⟩;refine ⟨_,rfl,rfl,?_⟩
  try simp only[J,simprocAttr]
  refine .done (hK _ ?_);clear hK K;try simp only[al]
  have R:=v6 @w1 (v6 @w3 (v6 @bl @J))
  repeat' ((first |refine U.aX (by decide +kernel) rfl fun K hK =>?_|(refine .aQ [0,1,2,6,7,8,9,13,30,35,54] hK ?_;clear hK K)|(with_reducible refine .done (hK _ ?_);clear hK K)|refine U.of rfl ?_|(with_reducible refine au.aU (fun h =>?_) (fun h =>?_) <;>try simp only[h])) <;>try simp only[aZ,R,simprocAttr])
  all_goals clear R
  refine ⟨(ao+1,e++s'),⟨by simp only;omega,?_⟩,by simp only;omega,?_⟩
  ·simp only;rw[NL,←hA];refine rC q2 (ht.trans hA) (k1.trans ?_) k2 (by rw[qb (by omega)];omega);rw[BX];exact kl1.append kr1
  ·have e2:(ao+1+1)*(2*bs)=A+2*bs+2*bs:=by rw[zv8,hA1];omega
   simp only[hA1,e2,←zz3];refine aF.c4 ?_ (fun n=>rfl);simp[aV,aW]
 have hc2:=J5 hb2;refine U.seq (U.seq ?_);refine .bd (by decide +kernel) fun K hK =>?_;simp only[FL,J,simprocAttr]
 try simp only[hc2,simprocAttr]
 refine .done (hK _ ?_);clear hK K;try simp only[al]
 refine U.bx ?_;simp only[au,J,simprocAttr];refine ⟨fun h =>?_,fun h =>?_⟩
 ·cases h
 refine U.exit ?_;try simp only[al,bJ,simprocAttr]
 have w2:=kc A bs (by omega);have w4:=aja (x:=bs) (by omega);have bg:∀ s',s'.Perm (xs.drop A)→db el s'→lR el (2*bs) xs (e++s'):=fun s' k1 k2=>by
  have:=rC q2 (ht.trans hA) k1 k2 (by rw[zx0];omega)
  rwa [zy9] at this
 have hx1:xs.drop A=dv xs bs (2*ao)++xs.drop (A+bs):=by
  have:=qc xs bs (2*ao)
  rwa [hA2,hA3] at this
 have hx2:xs.drop (A+bs)=dv xs bs (2*ao+1)++xs.drop (A+2*bs):=by
  have:=qc xs bs (2*ao+1)
  rwa [hA3,hA4] at this
 by_cases hb3:A+bs<xs.length
 ·have hc3:=gI hb3;have ll:(dv d1 bs (2*ao)).length=bs:=qb (by rw[hA3];omega);have hdn:d1.drop (A+2*bs)=[]:=zw7 (by omega);have hxn:xs.drop (A+2*bs)=[]:=zw7 (by omega);have lr:(dv d1 bs (2*ao+1)).length=xs.length-(A+bs):=by
   have:=congrArg List.length hd3;rw[hdn,zw1,zx0] at this;omega
  have hm:=y7 el hd hel _ e (dv d1 bs (2*ao)) (dv d1 bs (2*ao+1)) q A (A+bs) xs.length xs.length (zz6 _) (by omega) (by omega) hel2 (by omega) (by omega) (zz6 _) (by simp only[zz5];omega) (by omega) kl2 kr2 hlr hin;have e1:e++dv d1 bs (2*ao)++dv d1 bs (2*ao+1)++q=e++d1.drop A++q:=by rw[hd2,hd3,hdn];simp only[zz3,zw1]
  rw[e1] at hm;have R:=v6 @hc3 (v6 @w2 (v6 @bl @J))
  repeat' ((first |refine U.aX (by decide +kernel) rfl fun K hK =>?_|(refine .aQ [0,1,2,6,7,8,9,13,30,35,54] hK ?_;clear hK K)|(with_reducible refine .done (hK _ ?_);clear hK K)|refine U.of rfl ?_|(with_reducible refine au.aU (fun h =>?_) (fun h =>?_) <;>try simp only[h])) <;>try simp only[aZ,R,simprocAttr])
  all_goals clear R
  refine bh.kJ hm (ki _ xs.length 138 [.ref (enc el)] hcl [_,_,_]) ?_;rintro ez os' ⟨rfl,s',k1,k2,rfl⟩;refine ⟨_,rfl,rfl,?_⟩
  try simp only[J,simprocAttr]
  refine .done (hK _ ?_);clear hK K;try simp only[al]
  have R:=v6 @w4 (v6 @bl @J)
  repeat' ((first |refine U.aX (by decide +kernel) rfl fun K hK =>?_|(refine .aQ [0,1,2,6,7,8,9,13,30,35,54] hK ?_;clear hK K)|(with_reducible refine .done (hK _ ?_);clear hK K)|refine U.of rfl ?_|(with_reducible refine au.aU (fun h =>?_) (fun h =>?_) <;>try simp only[h])) <;>try simp only[aZ,R,simprocAttr])
  all_goals clear R
  refine ⟨⟨2*bs,e++s'⟩,⟨by simp only;omega,by simp only;omega,bg s' (k1.trans ?_) k2⟩,by simp only;omega,?_⟩
  ·rw[hx1,hx2,hxn,zw1];exact kl1.append kr1
  ·refine aF.c4 ?_ (fun n=>rfl);simp[aV,aW]
 ·have hc3:=ib hb3;have hdn:d1.drop (A+bs)=[]:=zw7 (by omega);have hxn:xs.drop (A+bs)=[]:=zw7 (by omega);rw[hdn,zw1] at hd2;rw[hxn,zw1] at hx1;have R:=v6 @hc3 (v6 @w2 (v6 @w4 (v6 @bl @J)))
  repeat' ((first |refine U.aX (by decide +kernel) rfl fun K hK =>?_|(refine .aQ [0,1,2,6,7,8,9,13,30,35,54] hK ?_;clear hK K)|(with_reducible refine .done (hK _ ?_);clear hK K)|refine U.of rfl ?_|(with_reducible refine au.aU (fun h =>?_) (fun h =>?_) <;>try simp only[h])) <;>try simp only[aZ,R,simprocAttr])
  all_goals clear R
  refine ⟨⟨2*bs,e++d1.drop A⟩,⟨by simp only;omega,by simp only;omega,bg _ (by rw[hd2,hx1];exact kl1) (by rw[hd2];exact kl2)⟩,by simp only;omega,?_⟩;refine aF.c4 ?_ (fun n=>rfl);simp[aV,aW]
theorem Oq(el:List aw)(hd:lW el)(hel:el.length≤60)(xs q:List Int)(hx:xs.Pairwise (· < ·))(hS:∀ x∈xs,jg el x)(hn:xs.length≤60) :
  cC Tryz.prog 137 [.view 1000000 [] 1 0 xs.length,.func 138 [.ref (enc el)]] (cu 1000000 (xs++q)) (mG el [] xs q):=by
 refine cC.bu Tryz.func137 BI BR B5 (t7 rfl) (t7 rfl) nq (fun hwf W0 D0 E1 =>?_);simp only[uy,xX,bj,zz4];clear hwf;refine .bd (by decide +kernel) fun K hK =>?_;simp only[Em,J,simprocAttr]
 try simp only[eB,J,simprocAttr]
 refine bh.kJ (OL el hd hel xs q hx hS hn) (ki _ xs.length 138 [.ref (enc el)] (by simp[I.bW,I.bp,dM]) [_]) ?_;rintro ez os' ⟨rfl,s',k1,k2,rfl⟩;refine ⟨_,rfl,rfl,?_⟩
 try simp only[J,simprocAttr]
 refine .done (hK _ ?_);clear hK K;rw[lI];exact nj rfl rfl ⟨rfl,s',k1,k2,rfl⟩
def iW(l:List aw)(day:Int)(xs:List Int):List (Nat×ah):=[(1000008,.box (.own 1000080 xs.length)),(1000080,.cO 3 xs),(1000003,.box (enc l)),(1000004,.box (enc day))]
theorem aiG(l:List aw)(day:Int)(xs ys:List Int):fh (iW l day xs) (iW l day ys):=by
 refine ⟨fun n=>by simp only[iW,aq,aj];(repeat' split) <;>rfl,fun n x h =>?_,fun n h =>?_⟩
 ·simp only[iW,aj] at h
  repeat' split at h
  all_goals first | (cases h;done) | (simp only[u8] at h;subst h;exact ⟨by simp[iW,aq,aj,ah.only,bA,I.only],rfl⟩)
 ·simp only[iW,aq,aj] at h
  repeat' split at h
  all_goals first | omega | (simp at h;done)
def qt(l:List aw)(day:Int)(i:Nat):Bool:=decide ((ab l i).kind≠0)&&decide ((ab l i).day≤day)
def lg(l:List aw)(day known:Int)(k:Nat):List Nat:=((gv l known).take k).filter (qt l day)
theorem XI{l:List aw}{day known:Int}{k:Nat}(hk:k<(gv l known).length):lg l day known (k+1)=lg l day known k++(if qt l day ((gv l known).getD k 0) then [(gv l known).getD k 0] else []):=by
 have e:(gv l known).getD k 0=(gv l known)[k]:=by rw[zz1,zz8 hk];rfl
 simp only[lg];rw[zy5 hk,List.filter_append,e];simp only[zw2,List.filter_nil]
theorem XG(l:List aw)(day known:Int):lg l day known (gv l known).length=iA l day known:=by
 simp only[lg,List.take_length];rfl
theorem XH(l:List aw)(day known:Int)(k:Nat):(lg l day known k).length≤l.length:=by
 have h1:=zv3 (qt l day) ((gv l known).take k);have h2:((gv l known).take k).length≤(gv l known).length:=by rw[zx3];omega
 have h3:(gv l known).length≤l.length:=by
  have:=zv3 (fun i=>(iX l known).getD i false) (List.range l.length)
  rwa [List.length_range] at this
 exact zv7 h1 (zv7 h2 h3)
theorem aiF:(∀ (A:ae) n b m k m' k' rest,dO A none n [] b (.own m k) rest (some (.own m' k'))=aA rest (A.aN n (.box (.own m k)))) :=
 fun _ _ _ m k m' k' _=>by rw[eg (s:=none) (v:=.own m k) (old:=.own m' k') rfl rfl rfl,fR]
theorem NH:(∀ n k,ft n k (.own n k)=.view n [] 1 0 k)∧(∀ n k m p,ft n k (.ptr m p)=.ptr m p)∧(∀ n k z,ft n k (.nils z)=.nils z)∧(∀ {α:Type} [Enc α] n k (x:α),ft n k (enc x)=enc x)∧(∀ n k i (x:Int),ft n k (.int i x)=.int i x)∧(∀ n k f xs,ft n k (.func f xs)=.func f xs)∧(∀ n k ks vs,ft n k (.cL ks vs)=.cL ks vs)∧(∀ n k b,ft n k (.bool b)=.bool b) ∧
  (∀ n,fr n (.own n 0)=.nils 1)∧(∀ n m p,fr n (.ptr m p)=.ptr m p)∧(∀ n z,fr n (.nils z)=.nils z)∧(∀ {α:Type} [Enc α] n (x:α),fr n (enc x)=enc x)∧(∀ n i (x:Int),fr n (.int i x)=.int i x)∧(∀ n f xs,fr n (.func f xs)=.func f xs)∧(∀ n ks vs,fr n (.cL ks vs)=.cL ks vs)∧(∀ n b,fr n (.bool b)=.bool b) ∧
  (∀ f v,ir f (.box v)=.box (f v))∧(∀ f T xs,ir f (.cO T xs)=.cO T xs)∧(∀ f ks vs,ir f (.cq ks vs)=.cq ks vs) :=
 ⟨fun _ _=>by simp[ft],fun _ _ _ _=>rfl,fun _ _ _=>rfl,fun _ _ x=>qZ (bA _ x),fun _ _ _ _=>rfl,fun _ _ _ _=>rfl,fun _ _ _ _=>rfl,fun _ _ _=>rfl,fun _=>by simp[fr],fun _ _ _=>rfl,fun _ _=>rfl,fun _ x=>yB (bA _ x),fun _ _ _=>rfl,fun _ _ _=>rfl,fun _ _ _=>rfl,fun _ _=>rfl,fun _ _=>rfl,fun _ _ _=>rfl,fun _ _ _=>rfl⟩
theorem ry(l:List aw)(day known:Int)(hok:dC l=true):aC Tryz.prog 88 [enc l,enc day,enc known] (qJ l day known):=by
 have hl:=nY hok;have hd:lW l:=fun i hi=>agT (xC hok hi);refine aC.bu Tryz.func88 Sq Ug Wg (t7 rfl) (fun hwf W0 D0 E1 =>?_);simp only[BA,Mx,bj,zz4,Nat.reduceAdd];clear hwf;refine .ak (by decide +kernel) fun K hK =>?_;simp only[IG,J,simprocAttr];refine .done (hK _ ?_);clear hK K;refine .ak (by decide +kernel) fun K hK =>?_;simp only[IH,J,simprocAttr];refine .done (hK _ ?_);clear hK K;refine U.seq (U.seq ?_);refine .bd (by decide +kernel) fun K hK =>?_;simp only[IM,J,simprocAttr]
 try simp only[eJ,bl,J,simprocAttr]
 refine .lead _ (Ob l known hl) ?_
 try simp only[J,simprocAttr]
 refine .done (hK _ ?_);clear hK K;try simp only[al]
 refine U.sub (aF.PJ 8 80 3 1 [] _ rfl rfl rfl (B:=ar [(3,.ptr 3 []),(4,.ptr 4 []),(8,.ptr 8 []),(9,.nils 1),(17,.func 146 [.ref (enc l),.ref (enc (iX l known))])] [(8,.box (.own 80 0)),(80,.cO 3 []),(3,.box (enc l)),(4,.box (enc day))]) ?_) ?_
 ·simp only[fR];refine aF.bY ?_ ?_ ?_ ?_ <;>simp[aV,bO,bM,br,aq,aW,ct,I.only,I.b8,ah.only,bA,jx]
 refine U.block (U.kH (osb0:=iW l day []) (tsR:=[(3,.ptr 1000003 []),(4,.ptr 1000004 []),(8,.ptr 1000008 [])]) (ρ:=[(1999999,999999),(1000003,3),(1000004,4),(1000008,8),(1000080,80)])
  (fun k os=>os=iW l day (du (lg l day known k)))
  (fun _ _=>False)
  rfl (t7 rfl) (by simp only[J,simprocAttr]) (by simp[I.bW,I.bp,dM]) BJ (Ox l (iX l known) hl (NA l known)) (fun _=>rfl) rfl rfl rfl (fun o=>⟨?_,?_⟩) ?_ ?_ ?_ ?_ ?_ ?_ ?_)
 ·intro n x hx;simp only[dy,iW,aj] at hx
  repeat' split at hx
  all_goals first | (cases hx;done) | (subst_vars;simp only[u8] at hx;subst hx;simp[dy,iW,aq,bD,aj,ah.aO,I.aO,jR,ah.only,I.only,bA,ah.eH,jx])
 ·intro a b ha hb;simp only[dy,iW,aq,aj] at ha hb
  repeat' split at ha
  all_goals first | (simp at ha;done) | skip
  all_goals (repeat' split at hb)
  all_goals first | (simp at hb;done) | (subst_vars;simp[bD])
 ·simp[mF,aW,I.aO,bD,I.only,iW,aq,aj]
 ·rintro k os rfl;exact aiG ..
 ·rintro e os h;exact h.elim
 ·simp[iW,lg,du]
 ·rintro k osb hk rfl W1 D1 E1 afp o1 o2;have hk':k<(gv l known).length:=hk;have hdl:=XH l day known k;have hsu:=XI (day:=day) hk';generalize lg l day known k=dk at hsu hdl ⊢;obtain ⟨i,hi⟩:∃ i,i=(gv l known).getD k 0:=⟨_,rfl⟩
  have hil:i<l.length:=by
   rw[hi,zz1,zz8 hk'];exact NC (zy6 hk')
  have hit:((iZ (fun i=>(iX l known).getD i false) l.length).getD k 0)=i:=hi.symm;rw[←hi] at hsu;have he:=kz hil;simp only[hit,qN,dy,iW];have R:=v6 @bl @J
  repeat' ((first |(with_reducible refine .guard (fun hb =>?_) (fun hb =>?_) <;>try simp only[hb])|refine U.aX (by decide +kernel) rfl fun K hK =>?_|(refine .aQ [0,1,2,3,4,6,7,8,9,10,11,12,14,17,18,33,45,46,47,48,64] hK ?_;clear hK K)|(with_reducible refine .done (hK _ ?_);clear hK K)|refine U.of rfl ?_|(with_reducible refine au.aU (fun h =>?_) (fun h =>?_) <;>try simp only[h])) <;>try simp only[aZ,R,simprocAttr])
  all_goals clear R
  refine ⟨by simp[],?_⟩;have hap:=fun (A:ae) d rest=>um (A:=A) (d:=d) (e:=3) (bytes:=8) (n:=1000080) (l:=(du dk).length) (xs:=du dk) (y:=(i:Int)) (rest:=rest) rfl (by simp[du,maxLen];omega) (by simp[du];omega);rcases h1:((ab l i).kind != 0) <;>rcases h2:decide ((ab l i).day≤day)
  all_goals
   have R:=v6 @h1 (v6 @h2 (v6 @he (v6 @hap (v6 @eJ (v6 @aiF (v6 @ew (v6 @bP (v6 @bl @J))))))))
   repeat' ((first |(with_reducible refine .guard (fun hb =>?_) (fun hb =>?_) <;>try simp only[hb])|refine U.aX (by decide +kernel) rfl fun K hK =>?_|(refine .aQ [0,1,2,3,4,6,7,8,9,10,11,12,14,17,18,33,45,46,47,48,64] hK ?_;clear hK K)|(with_reducible refine .done (hK _ ?_);clear hK K)|refine U.of rfl ?_|(with_reducible refine au.aU (fun h =>?_) (fun h =>?_) <;>try simp only[h])) <;>try simp only[aZ,R,simprocAttr])
   all_goals clear R
  all_goals
   have hdue:qt l day i=(((ab l i).kind != 0)&&decide ((ab l i).day≤day)):=by simp only[qt,bne,ne_eq,decide_not];rfl
   rw[h1,h2] at hdue;rw[hdue] at hsu;refine ⟨_,?_,rfl⟩;rw[hsu];intro n x hx;simp only[dy,aj,if_true,zz7,zw3,Bool.and_true,Bool.and_false,if_false,zw1] at hx
   (repeat' split at hx) <;>first
    |(cases hx;done)
    |(subst_vars;simp only[u8] at hx;subst hx;simp[dy,aq,ar,aj,ah.only,I.only,bA,ah.eH,du])
 ·rintro os rfl;have eN:lg l day known (iZ (fun i=>(iX l known).getD i false) l.length).length=iA l day known:=XG l day known;simp only[eN,iW,dJ,zz9,zx2,bD,ah.aO,I.aO,jR,al,bJ,reduceIte,Nat.reduceEqDiff,zy0,zy8];refine U.sub (B:=ar [(3,.ptr 3 []),(8,.ptr 8 []),(9,.nils 1)] [(8,.box (.own 80 (lf l day known).length)),(80,.cO 3 (lf l day known)),(3,.box (enc l))]) ?_ ?_
  ·refine aF.bY ?_ ?_ ?_ ?_ <;>simp[*,aV,bO,bM,br,aq,aW,ct,I.only,ah.only,bA,jx,lf]
  have hlen:(lf l day known).length≤60:=by simp only[lf,du,zy1];exact zv7 (uX l day known) hl
  have hris:=XF l day known;have hin:=XE (l:=l) (day:=day) (known:=known);have heq:=fun s=>ahl (l:=l) (day:=day) (known:=known) (s:=s);generalize lf l day known=xs at hlen hris hin heq ⊢;by_cases hx0:xs=[]
  ·subst hx0;have ho0:pA l day known=[]:=(heq [] (List.Perm.refl _) List.Pairwise.nil).symm;refine U.sub (aF.NN (n:=80) (T:=3) rfl (B:=ar [(3,.ptr 3 []),(8,.ptr 8 []),(9,.nils 1)] [(8,.box (.nils 1)),(3,.box (enc l))]) ?_) ?_
   ·simp only[zz9,zx2,NH,List.length_nil];refine aF.bY ?_ ?_ ?_ ?_ <;>simp[aV,bO,bM,br,aq,aW,ct,I.only,ah.only,bA]
   refine .ak (by decide +kernel) fun K hK =>?_;simp only[wa,J,simprocAttr]
   try simp only[pj,gZ,J,simprocAttr]
   refine .flat _ (Ot l) rfl ?_
   try simp only[J,simprocAttr]
   refine .done (hK _ ?_);clear hK K;refine .ak (by decide +kernel) fun K hK =>?_;simp only[wb,J,simprocAttr]
   try simp only[ew,J,simprocAttr]
   refine .done (hK _ ?_);clear hK K;refine .ak (by decide +kernel) fun K hK =>?_;simp only[wc,J,simprocAttr];refine .lead _ yR ?_
   try simp only[J,simprocAttr]
   refine .done (hK _ ?_);clear hK K;refine U.seq (U.seq ?_);refine .bd (by decide +kernel) fun K hK =>?_;simp only[we,J,simprocAttr]
   try simp only[eJ,eB,bP,ew,J,simprocAttr]
   refine .done (hK _ ?_);clear hK K;try simp only[al]
   have hF:=zc l day known hok (W0:=W0) (D0:=D0) (E1:=E1);rw[ho0] at hF;refine U.sub (aF.nK [8] 45 (x:=.nils 1) (y:=enc ([]:List Int)) rfl (by rfl) ?_ ?_ ?_ ?_ ?_) hF
   ·simp[cW,br,ah.only,I.only,I.b8,bA]
   ·simp[aV,fV,aW,I.only,I.b8,kl]
   ·simp[bO,cW,aj]
   ·simp[bM,aq,aj,I.only,I.b8,bA,kl]
   ·simp[br,aq,aj,ah.only,I.only,I.b8,bA]
  ·refine U.NM (n:=80) rfl hx0 (by omega) (tg (by simp[nh,I.only])) ?_ (fun q =>?_)
   ·intro m y hy hm;simp only[aj] at hy
    repeat' split at hy
    all_goals first | (cases hy;done) | (exact absurd (by assumption) hm) | (simp only[u8] at hy;subst hy;first | exact .inl rfl | exact .inr (by simp[ah.only,bA]))
   simp only[zz9,zx2,NH];refine .ak (by decide +kernel) fun K hK =>?_;simp only[wa,J,simprocAttr]
   try simp only[eJ,pj,gZ,J,simprocAttr]
   refine .bU true [(1000000,80)] (cu 1000000 (xs++List.replicate q 0)) [.view 1000000 [] 1 0 xs.length,.func 138 [.ref (enc l)]] _ rfl (Oq l hd hl xs _ hris hin hlen) ?_ ?_ ?_ ?_
   ·refine ⟨fun m y hy =>?_,fun m m' h h' _=>by rw[di.1 h,di.1 h']⟩;simp only[cu,aj] at hy;split at hy
    ·rename_i hm;cases hy;subst hm;exact ⟨by simp only[bD,if_true,aj,ah.aO,I.aO,iR],nT _ _,rfl⟩
    ·cases hy
   ·refine ⟨.inl ⟨by simp[I.aO,bD],di.2 rfl,rfl⟩,.inr ?_,trivial⟩;simp[bg,bX,cz,ar,cW,jC,cu,bD,aj,dM,oL]
   ·rintro ez os' ⟨rfl,s',k1,k2,rfl⟩;refine ⟨fun m y hy =>?_,fun m m' h h' _=>by rw[di.1 h,di.1 h'],fun m hm=>by rw[di.1 hm];exact di.2 rfl,fun m a b=>by rw[di.1 a] at b;simp[cu,aq,aj] at b,rfl,fun _=>rfl⟩;simp only[cu,aj] at hy;split at hy
    ·cases hy;exact ⟨nT _ _,rfl,fun _=>afH _⟩
    ·cases hy
   ·rintro ez os' ⟨rfl,s',k1,k2,rfl⟩;have hs':=heq s' k1 k2;have hsl:xs.length=s'.length:=k1.length_eq.symm
    try simp only[cu,dJ,zz9,zx2,ah.aO,I.aO,iR,bD,reduceIte,zy0,zy8,I.cP,J,simprocAttr]
    refine .done (hK _ ?_);clear hK K;refine .ak (by decide +kernel) fun K hK =>?_;simp only[wb,J,simprocAttr]
    try simp only[ew,J,simprocAttr]
    refine .done (hK _ ?_);clear hK K;refine .ak (by decide +kernel) fun K hK =>?_;simp only[wc,J,simprocAttr];refine .lead _ yR ?_
    try simp only[J,simprocAttr]
    refine .done (hK _ ?_);clear hK K;refine U.seq (U.seq ?_);refine .bd (by decide +kernel) fun K hK =>?_;simp only[we,J,simprocAttr]
    try simp only[eJ,eB,J,simprocAttr]
    refine .done (hK _ ?_);clear hK K;try simp only[al]
    have hF:=zc l day known hok (W0:=W0) (D0:=D0) (E1:=E1);rw[←hs'] at hF;refine U.sub (aF.nK [80,8] 45 (x:=.view 80 [] 1 0 xs.length) (y:=enc s') rfl ?_ ?_ ?_ ?_ ?_ ?_) hF
    ·have:aj (iL [80,8] [(43,ah.box (I.agg ([I.raw (Value.map none)].set 0 (I.mref 41)))),(41,ah.cq [] []),(80,ah.box (I.agg ((s'++List.replicate q 0).map enc))),(80,ah.box (I.agg ((xs++List.replicate q 0).map enc))),(8,ah.box (I.view 80 [] 1 0 xs.length)),(80,ah.cO 3 xs),(3,ah.box (enc l))]) 80=some (.box (.agg ((s'++List.replicate q 0).map enc))):=by
      rw[nS];simp[aj]
     try simp only[this,J,simprocAttr]
     exact CN hsl.symm
    ·simp[cW,br,ah.only,I.only,I.b8,bA]
    ·simp[aV,fV,aW,I.only,I.b8,kl,hsl]
    ·simp[bO,cW,aj]
    ·simp[bM,aq,aj,I.only,I.b8,bA,kl]
    ·simp[br,aq,aj,ah.only,I.only,I.b8,bA]
 ·rintro e os h;exact h.elim
theorem Oh(n:Int):aC Tryz.prog 126 [enc n] (enc (!cm 0 100000 n)):=by
 refine aC.bu Tryz.func126 Q4 SQ UT (t7 rfl) (fun hwf W0 D0 E1 =>?_);simp only[z8,K9,bj];have R:=v6 @bl @J
 repeat' ((first |refine U.aX (by decide +kernel) rfl fun K hK =>?_|refine .flat _ (tZ _) rfl ?_|(refine .aQ [0,2] hK ?_;clear hK K)|(with_reducible refine .done (hK _ ?_);clear hK K)|refine U.of rfl ?_|(with_reducible refine au.aU (fun h =>?_) (fun h =>?_) <;>try simp only[h])) <;>try simp only[aZ,R,simprocAttr])
 all_goals clear R
abbrev kg:=aI 2 Int
def fk(a b:Int):kg:=⟨[a,b],rfl⟩
def fN(l:List aw)(ns:List kg)(ds:List Int):Int:=if dC l then (if ns.all (fun n=>cm 1 (n.g 1) (n.g 0)) then (if ds.any (fun d => !cm 0 100000 d) then 6 else 0) else 1) else 41
theorem Nv{A:ae}{n:Nat}{b:I}{x:kg}{ao v:Int}{rest:List az} : dO A (some 2) n [] b (enc x) rest (some (.agg [.int .i64 ao,.int .i64 v]))=aA rest (A.aN n (.box (enc x))):=by
 have:=eg (A:=A) (n:=n) (p:=[]) (b:=b) (v:=enc x) (old:=.agg [.int .i64 ao,.int .i64 v]) (rest:=rest) (s:=some 2) (dz _) (by rw[fx];rfl) (ev x);rw[this,fR]
theorem JJ :
  (∀ (x:kg) y,iH (0:Int) 2 (iG 2 1 (x.l.map enc) y)=y)∧(∀ (x:kg) y,iH (1:Int) 2 (iG 2 1 (x.l.map enc) y)=y)∧(∀ x:kg,(x.l.map (enc (α:=Int)))[0]?=some (I.int .i64 (x.g 0)))∧(∀ x:kg,(x.l.map (enc (α:=Int)))[1]?=some (I.int .i64 (x.g 1))) ∧
  (∀ x:kg,(enc x:I).dg=some (x.l.map enc))∧(∀ x:kg,bV (some 2) (enc x)=true)∧((0:Int).toNat=0)∧((1:Int).toNat=1) :=
 ⟨fun x y=>ky 1 x (by decide) rfl,fun x y=>ky 1 x (by decide) rfl,fun x=>qk x (by decide),fun x=>qk x (by decide),fun _=>rfl,fun x=>by rw[fx];rfl,rfl,rfl⟩
theorem pW(l:List aw)(ns:List kg)(ds:List Int):aC Tryz.prog 67 [enc l,enc ns,enc ds] (enc (fN l ns ds)):=by
 refine aC.bu Tryz.func67 Sc T3 V3 (t7 rfl) (fun hwf W0 D0 E1 =>?_);simp only[Bm,Mk,bj,zz4,Nat.reduceAdd];have hnl:ns.length≤maxLen:=((kM ns).1 hwf.2.1).1;simp only[maxLen] at hnl;have hF64:=za l;simp only[fN];rcases hok:dC l
 ·rw[hok,if_neg (by decide)] at hF64;have R:=v6 @hok (v6 @bP (v6 @bl @J))
  repeat' ((first |refine U.aX (by decide +kernel) rfl fun K hK =>?_|refine .flat _ (hF64) rfl ?_|(refine .aQ [0,1,2,6,7,9,13,15,16,17,18,26,29] hK ?_;clear hK K)|(with_reducible refine .done (hK _ ?_);clear hK K)|refine U.of rfl ?_|(with_reducible refine au.aU (fun h =>?_) (fun h =>?_) <;>try simp only[h])) <;>try simp only[aZ,R,simprocAttr])
  all_goals clear R
 rw[hok,if_pos rfl] at hF64;have R:=v6 @hok (v6 @bP (v6 @bl @J))
 repeat' ((first |refine U.aX (by decide +kernel) rfl fun K hK =>?_|refine .flat _ (hF64) rfl ?_|(refine .aQ [0,1,2,6,7,9,13,15,16,17,18,26,29] hK ?_;clear hK K)|(with_reducible refine .done (hK _ ?_);clear hK K)|refine U.of rfl ?_|(with_reducible refine au.aU (fun h =>?_) (fun h =>?_) <;>try simp only[h])) <;>try simp only[aZ,R,simprocAttr])
 all_goals clear R
 refine U.loop (fun i:Nat=>ar [(2,enc ds),(15,enc ns),(16,.int .i64 ns.length),(17,.int .i64 i)] []) (fun i=>i≤ns.length∧∀ k,(h:k<ns.length)→k<i→cm 1 ((ns[k]).g 1) ((ns[k]).g 0)=true) (fun i=>ns.length-i) 0 ⟨zv4 _,fun k _ hk=>by omega⟩ ?_ (fun i hi =>?_)
 ·refine aF.bY ?_ ?_ ?_ ?_ <;>simp[aV,bO,bM,br,aW,I.only,bA]
 obtain ⟨hi1,hi2⟩:=hi;by_cases hlt:i<ns.length
 ·have hc:=gI hlt;have he:=fun A=>fJ (A:=A) 2 hlt rfl;have hw:=gb (i:=i) (by omega);obtain ⟨x,hx⟩:∃ x,x=ns[i]:=⟨_,rfl⟩
  rw[←hx] at he;rcases hp:cm 1 (x.g 1) (x.g 0)
  ·have hall:(ns.all fun n=>cm 1 (n.g 1) (n.g 0))=false:=by
    rw[List.all_eq_false];exact ⟨x,hx▸zy6 hlt,by rw[hp];decide⟩
   have R:=v6 @hc (v6 @he (v6 @hp (v6 @hall (v6 @Nv (v6 @JJ (v6 @bP @J))))))
   repeat' ((first |refine U.aX (by decide +kernel) rfl fun K hK =>?_|refine .flat _ (lP _ _ _) rfl ?_|(refine .aQ [0,1,2,6,7,9,13,15,16,17,18,26,29] hK ?_;clear hK K)|(with_reducible refine .done (hK _ ?_);clear hK K)|refine U.of rfl ?_|(with_reducible refine au.aU (fun h =>?_) (fun h =>?_) <;>try simp only[h])) <;>try simp only[aZ,R,simprocAttr])
   all_goals clear R
  ·have R:=v6 @hc (v6 @he (v6 @hp (v6 @hw (v6 @Nv (v6 @JJ (v6 @bP @J))))))
   repeat' ((first |refine U.aX (by decide +kernel) rfl fun K hK =>?_|refine .flat _ (lP _ _ _) rfl ?_|(refine .aQ [0,1,2,6,7,9,13,15,16,17,18,26,29] hK ?_;clear hK K)|(with_reducible refine .done (hK _ ?_);clear hK K)|refine U.of rfl ?_|(with_reducible refine au.aU (fun h =>?_) (fun h =>?_) <;>try simp only[h])) <;>try simp only[aZ,R,simprocAttr])
   all_goals clear R
   refine ⟨i+1,⟨by omega,fun k hk hki =>?_⟩,by omega,?_⟩
   ·by_cases e:k=i
    ·subst e;rw[←hx];exact hp
    ·exact hi2 k hk (by omega)
   ·refine aF.bY ?_ ?_ ?_ ?_ <;>simp[aV,bO,bM,br,aW,bA,I.only]
 ·have hc:=ib hlt;have hall:(ns.all fun n=>cm 1 (n.g 1) (n.g 0))=true:=by
   rw[zy2];intro x hx;obtain ⟨k,hk,rfl⟩:=zv6 hx;exact hi2 k hk (by omega)
  have hF:=tY ds 126 [] rfl (fun d => !cm 0 100000 d) (fun x _=>Oh x);rcases hd:ds.any fun d => !cm 0 100000 d
  all_goals
   rw[hd] at hF;have R:=v6 @hc (v6 @hall (v6 @hd (v6 @bP (v6 @bl @J))))
   repeat' ((first |refine U.aX (by decide +kernel) rfl fun K hK =>?_|refine .flat _ (hF) rfl ?_|(refine .aQ [0,1,2,6,7,9,13,15,16,17,18,26,29] hK ?_;clear hK K)|(with_reducible refine .done (hK _ ?_);clear hK K)|refine U.of rfl ?_|(with_reducible refine au.aU (fun h =>?_) (fun h =>?_) <;>try simp only[h])) <;>try simp only[aZ,R,simprocAttr])
   all_goals clear R
def dw(l:List aw)(day known:Int):List aR:=(qK eD l (jm l day known)).1
def ai4(l:List aw)(day known:Int):List Int:=dZ (du (qK eD l (jm l day known)).2)
theorem tl(l:List aw)(day known:Int):qJ l day known=.tuple [gl (dw l day known),enc (ai4 l day known)]:=rfl
theorem wE{l:List aw}(hok:dC l=true)(day known:Int):((dw l day known).map (·.no)).Nodup∧(dw l day known).length≤60∧∀ b∈dw l day known,b.bL.length≤60:=by
 have h:=xQ l (jm l day known) _ (zz6 _);rw[KM] at h;have h2:(jm l day known).length≤60:=by rw[KH];exact zv7 (uX l day known) (nY hok)
 exact ⟨h.1,by simp only[dw];omega,fun b hb=>by have:=h.2.2.1 b hb;omega⟩
theorem sK(bs:List aR)(no:Int):fW (.i .i64) .nilp (.int .i64 no) (dc bs) (bs.map fun b=>.ref (enc (⟨b⟩:eC)))=match dp bs no with
  |some b=>some (.ref (enc (⟨b⟩:eC)),true)
  |none=>some (.nilp,false):=by
 have h1:=wj (bs:=bs) (no:=no);have h2:=wU u6 .nilp no (bs.map (·.no)) (bs.map fun b=>.ref (enc (⟨b⟩:eC)));rw[jx] at h2;unfold dc;rw[h2];cases h:(bs.map (·.no)).findIdx? fun x=>decide (no=x) with
 |none=>rw[h] at h1;simp only at h1;rw[h1]
 |some i =>
  rw[h] at h1;obtain ⟨hi,g1,g2⟩:=h1;rw[g1];simp[hi]
theorem Uz(bs:List aR):I.bW (bs.map fun b=>.ref (enc (⟨b⟩:eC)))=true:=by
 induction bs with
 |nil=>rfl
 |cons b bs ih=>simp only[zz9,I.bW,I.bp,dM,ih,zw3]
theorem Ut(bs:List aR):(I.cL (dc bs) (bs.map fun b=>.ref (enc (⟨b⟩:eC)))).bp=true:=by
 simp only[I.bp,Uz,Bool.and_true];exact kj _
theorem nM:(∀ bs,(gl bs).bp=true)∧(∀ aB A bs,bg aB A (gl bs)=some (gl bs))∧(∀ bs,(gl bs).cd=true)∧(∀ bs,bV none (gl bs)=true)∧(∀ p bs,(gl bs).only p=true)∧(∀ x:eC,(enc x:I).bp=true)∧(∀ bs,mg (gl bs)=some (gl bs)) ∧
  (∀ A bs,lp A 0 0 (gl bs)=some (.ref (.cL (dc bs) (bs.map fun b=>.ref (enc (⟨b⟩:eC))))))∧(∀ x:eC,mg (.ref (enc x))=some (.ref (enc x))) :=
 have h:∀ bs,(I.agg [.cL (dc bs) (bs.map fun b=>.ref (enc (⟨b⟩:eC)))]).bp=true:=fun bs=>by simp only[I.bp,I.bW,Bool.and_true];exact Ut bs
 ⟨fun bs=>by simp only[gl,I.bp];exact h bs,fun aB A bs=>by simp only[gl,bg,h bs,if_true],fun _=>rfl,fun _=>rfl,fun p bs=>mj p _ (by simp only[gl,I.bp];exact h bs),fun x=>dM x,fun _=>rfl,
  fun A bs=>by simp[gl,lp,I.dg,qj,oV,dB,I.sizes],fun _=>rfl⟩
theorem NP:(∀ k n,(I.int k n).cd=true)∧(∀ b,(I.bool b).cd=true):=⟨fun _ _=>rfl,fun _=>rfl⟩
theorem nF{l:List aw}{ns:List kg}{ds:List Int}(h:fN l ns ds=0):dC l=true:=by
 simp only[fN] at h;split at h
 ·assumption
 ·cases h
theorem pn{a:Int}(h:a=0):(a != 0)=false:=by simp[h]
theorem po{a:Int}(h:¬ a=0):(a != 0)=true:=by simp[h]
theorem qa(a b:Int):gY 1 (some [.int .i64 a,.int .i64 b])=some (enc [a,b]):=mO (ys:=[a,b]) 1 rfl
theorem ru(l:List aw)(known:Int)(hok:dC l=true):aC Tryz.prog 68 [enc l,enc known] (gl (dw l 100000 known)):=by
 refine aC.bu Tryz.func68 Sd T4 V4 (t7 rfl) (fun hwf W0 D0 E1 =>?_);simp only[Bn,Ml,bj,zz4];have hF:=ry l 100000 known hok;rw[tl] at hF;have R:=v6 @nM (v6 @bl @J)
 repeat' ((first |refine U.aX (by decide +kernel) rfl fun K hK =>?_|refine .lead _ (hF) ?_|(refine .aQ [0,1,4,5] hK ?_;clear hK K)|(with_reducible refine .done (hK _ ?_);clear hK K)|refine U.of rfl ?_|(with_reducible refine au.aU (fun h =>?_) (fun h =>?_) <;>try simp only[h])) <;>try simp only[aZ,R,simprocAttr])
 all_goals clear R
theorem Pp(b:aR):aC Tryz.prog 89 [.ref (enc (⟨b⟩:eC))] (enc (!decide (0≤b.eW))):=by
 refine aC.bu Tryz.func89 Sr Uh Wh (t7 rfl) (fun hwf W0 D0 E1 =>?_);simp only[BB,My,bj];have R:=v6 @nM (v6 @bl @J)
 repeat' ((first |refine U.aX (by decide +kernel) rfl fun K hK =>?_|refine .flat _ (jb _) rfl ?_|(refine .aQ [0,2] hK ?_;clear hK K)|(with_reducible refine .done (hK _ ?_);clear hK K)|refine U.of rfl ?_|(with_reducible refine au.aU (fun h =>?_) (fun h =>?_) <;>try simp only[h])) <;>try simp only[aZ,R,simprocAttr])
 all_goals clear R
def pZ(l:List aw)(day known:Int):List Int×Int:=if fN l [] [day,known]=0 then (dZ (((dw l day known).filter fun b => !decide (0≤b.eW)).map (·.no)),0) else ([],fN l [] [day,known])
theorem O9(l:List aw)(day known:Int):aC Tryz.prog 26 [enc l,enc day,enc known] (.tuple [enc (pZ l day known).1,enc (pZ l day known).2]):=by
 refine aC.bu Tryz.func26 R1 TQ VS (t7 rfl) (fun hwf W0 D0 E1 =>?_);simp only[Bb,L9,bj,zz4,Nat.reduceAdd];clear hwf;have hC:=pW l [] [day,known];simp only[pZ];generalize hc:fN l [] [day,known]=e at hC ⊢;by_cases he:e=0
 ·have hn:=pn he;subst he;have hok:=nF hc;have hF:=ry l day known hok;rw[tl] at hF;have hb:=wE hok day known;have hN:=ue (dw l day known) hb.2.1 89 [] rfl (fun b => !decide (0≤b.eW)) (fun b _=>Pp b);have R:=v6 @hn (v6 @qa (v6 @nM (v6 @gZ (v6 @bl @J))))
  repeat' ((first |refine U.aX (by decide +kernel) rfl fun K hK =>?_|refine .flat _ (hC) rfl ?_|refine .lead _ (hF) ?_|refine .lead _ (hN) ?_|(refine .aQ [0,1,2,6,7,8,9,17] hK ?_;clear hK K)|(with_reducible refine .done (hK _ ?_);clear hK K)|refine U.of rfl ?_|(with_reducible refine au.aU (fun h =>?_) (fun h =>?_) <;>try simp only[h])) <;>try simp only[aZ,R,simprocAttr])
  all_goals clear R
  all_goals rfl
 ·have hn:=po he;have R:=v6 @hn (v6 @he (v6 @qa (v6 @bl @J)))
  repeat' ((first |refine U.aX (by decide +kernel) rfl fun K hK =>?_|refine .flat _ (hC) rfl ?_|(refine .aQ [0,1,2,6,7,8,9,17] hK ?_;clear hK K)|(with_reducible refine .done (hK _ ?_);clear hK K)|refine U.of rfl ?_|(with_reducible refine au.aU (fun h =>?_) (fun h =>?_) <;>try simp only[h])) <;>try simp only[aZ,R,simprocAttr])
  all_goals clear R
  all_goals rfl
def sx(l:List aw)(no day known:Int):Int×Int:=if fN l [fk no 9999] [day,known]=0 then (match dp (dw l day known) no with
 |none=>(0,42)
 |some b=>if 0≤b.eW then (0,0) else (b.b5,0)) else (0,fN l [fk no 9999] [day,known])
theorem zL(a b:Int):gY 2 (some [.agg [.int .i64 a,.int .i64 b]])=some (enc [fk a b]):=mO (ys:=[fk a b]) 2 rfl
theorem zM(a b c d:Int):gY 2 (some [.agg [.int .i64 a,.int .i64 b],.agg [.int .i64 c,.int .i64 d]])=some (enc [fk a b,fk c d]):=mO (ys:=[fk a b,fk c d]) 2 rfl
theorem eX:(type_of% @bl)∧(type_of% @gw)∧(type_of% @nM)∧(type_of% @gZ)∧(type_of% @ew)∧(type_of% @eJ)∧(type_of% @bP)∧(type_of% @qa)∧(type_of% @zL)∧(type_of% @zM)∧(type_of% @zJ)∧(type_of% @NP)∧(type_of% @J):=⟨@bl,@gw,@nM,@gZ,@ew,@eJ,@bP,@qa,@zL,@zM,@zJ,@NP,@J⟩
theorem Pa(l:List aw)(no day known:Int):aC Tryz.prog 27 [enc l,enc no,enc day,enc known] (.tuple [enc (sx l no day known).1,enc (sx l no day known).2]):=by
 refine aC.bu Tryz.func27 R2 TR VT (t7 rfl) (fun hwf W0 D0 E1 =>?_);simp only[Bc,Ma,bj,zz4,Nat.reduceAdd];clear hwf;have hC:=pW l [fk no 9999] [day,known];simp only[sx];generalize hc:fN l [fk no 9999] [day,known]=e at hC ⊢;by_cases he:e=0
 ·have hn:=pn he;subst he;have hok:=nF hc;have hF:=ry l day known hok;rw[tl] at hF;have hk:=sK (dw l day known) no;cases hg:dp (dw l day known) no with
  |none =>
   rw[hg] at hk;have R:=v6 @hn (v6 @hk eX)
   repeat' ((first |refine U.aX (by decide +kernel) rfl fun K hK =>?_|refine .flat _ (hC) rfl ?_|refine .lead _ (hF) ?_|(refine .aQ [0,1,2,3,8,9,10,11,13,23,38,41] hK ?_;clear hK K)|(with_reducible refine .done (hK _ ?_);clear hK K)|refine U.of rfl ?_|(with_reducible refine au.aU (fun h =>?_) (fun h =>?_) <;>try simp only[h])) <;>try simp only[aZ,R,simprocAttr])
   all_goals clear R
  |some b =>
   rw[hg] at hk;rcases hd:decide (0≤b.eW)
   all_goals
    have R:=v6 @hn (v6 @hk (v6 @hd eX))
    repeat' ((first |refine U.aX (by decide +kernel) rfl fun K hK =>?_|refine .flat _ (hC) rfl ?_|refine .lead _ (hF) ?_|refine .flat _ (jb _) rfl ?_|(refine .aQ [0,1,2,3,8,9,10,11,13,23,38,41] hK ?_;clear hK K)|(with_reducible refine .done (hK _ ?_);clear hK K)|refine U.of rfl ?_|(with_reducible refine au.aU (fun h =>?_) (fun h =>?_) <;>try simp only[h])) <;>try simp only[aZ,R,simprocAttr])
    all_goals clear R
    simp only[decide_eq_true_eq,decide_eq_false_iff_not] at hd;simp[hd]
 ·have hn:=po he;have R:=v6 @hn (v6 @he eX)
  repeat' ((first |refine U.aX (by decide +kernel) rfl fun K hK =>?_|refine .flat _ (hC) rfl ?_|(refine .aQ [0,1,2,3,8,9,10,11,13,23,38,41] hK ?_;clear hK K)|(with_reducible refine .done (hK _ ?_);clear hK K)|refine U.of rfl ?_|(with_reducible refine au.aU (fun h =>?_) (fun h =>?_) <;>try simp only[h])) <;>try simp only[aZ,R,simprocAttr])
  all_goals clear R
  all_goals rfl
theorem Pq(b:aR)(o s:Int):aC Tryz.prog 91 [.ref (enc (⟨b⟩:eC)),.ref (enc o),.ref (enc s)] (enc (!decide (0≤b.eW)&&(b.b5==o&&b.fg==s))):=by
 refine aC.bu Tryz.func91 St Uj Wj (t7 rfl) (fun hwf W0 D0 E1 =>?_);simp only[BD,MA,bj,zz4,Nat.reduceAdd];have R:=eX
 repeat' ((first |(with_reducible refine .guard (fun hb =>?_) (fun hb =>?_) <;>try simp only[hb])|refine U.aX (by decide +kernel) rfl fun K hK =>?_|refine .flat _ (jb _) rfl ?_|(refine .aQ [0,1,2,4] hK ?_;clear hK K)|(with_reducible refine .done (hK _ ?_);clear hK K)|refine U.of rfl ?_|(with_reducible refine au.aU (fun h =>?_) (fun h =>?_) <;>try simp only[h])) <;>try simp only[aZ,R,simprocAttr])
 all_goals clear R
 all_goals simp_all
def rS(l:List aw)(o s day known:Int):Int×Int:=if fN l [fk o 99,fk s 9] [day,known]=0 then ((((dw l day known).filter fun b => !decide (0≤b.eW)&&(b.b5==o&&b.fg==s)).length:Int),0) else (0,fN l [fk o 99,fk s 9] [day,known])
theorem Pb(l:List aw)(o s day known:Int):aC Tryz.prog 28 [enc l,enc o,enc s,enc day,enc known] (.tuple [enc (rS l o s day known).1,enc (rS l o s day known).2]):=by
 refine aC.bu Tryz.func28 R3 TS VU (t7 rfl) (fun hwf W0 D0 E1 =>?_);simp only[Bd,Mb,bj,zz4,Nat.reduceAdd];clear hwf;have hC:=pW l [fk o 99,fk s 9] [day,known];simp only[rS];generalize hc:fN l [fk o 99,fk s 9] [day,known]=e at hC ⊢;by_cases he:e=0
 ·have hn:=pn he;subst he;have hok:=nF hc;have hF:=ry l day known hok;rw[tl] at hF;have hb:=wE hok day known;have hN:=ue (dw l day known) hb.2.1 91 [.ref (enc o),.ref (enc s)] rfl (fun b => !decide (0≤b.eW)&&(b.b5==o&&b.fg==s)) (fun b _=>Pq b o s);have R:=v6 @hn (v6 @pj eX)
  repeat' ((first |refine U.aX (by decide +kernel) rfl fun K hK =>?_|refine .flat _ (hC) rfl ?_|refine .lead _ (hF) ?_|(refine .aQ [0,1,2,3,4,6,7,10,11,12,13,26] hK ?_;clear hK K)|(with_reducible refine .done (hK _ ?_);clear hK K)|refine U.of rfl ?_|(with_reducible refine au.aU (fun h =>?_) (fun h =>?_) <;>try simp only[h])) <;>try simp only[aZ,R,simprocAttr])
  all_goals clear R
  refine .hZ [6,7] _ rfl hN ?_ ?_ ?_
  ·simp[bg,bX,cz,ar,iL,aj,oL,nM,I.bp];exact ⟨rfl,rfl⟩
  ·simp[br,cW]
  ·have hlen:(dZ (((dw l day known).filter fun b => !decide (0≤b.eW)&&(b.b5==o&&b.fg==s)).map (·.no))).length=((dw l day known).filter fun b => !decide (0≤b.eW)&&(b.b5==o&&b.fg==s)).length:=by simp[dZ]
   try simp only[fV,zz9,zx2,hlen,eX,J,simprocAttr]
   have R:=v6 @hlen eX
   repeat' ((first |refine U.aX (by decide +kernel) rfl fun K hK =>?_|(refine .aQ [0,1,2,3,4,6,7,10,11,12,13,26] hK ?_;clear hK K)|(with_reducible refine .done (hK _ ?_);clear hK K)|refine U.of rfl ?_|(with_reducible refine au.aU (fun h =>?_) (fun h =>?_) <;>try simp only[h])) <;>try simp only[aZ,R,simprocAttr])
   all_goals clear R
 ·have hn:=po he;have R:=v6 @hn (v6 @he eX)
  repeat' ((first |refine U.aX (by decide +kernel) rfl fun K hK =>?_|refine .flat _ (hC) rfl ?_|(refine .aQ [0,1,2,3,4,6,7,10,11,12,13,26] hK ?_;clear hK K)|(with_reducible refine .done (hK _ ?_);clear hK K)|refine U.of rfl ?_|(with_reducible refine au.aU (fun h =>?_) (fun h =>?_) <;>try simp only[h])) <;>try simp only[aZ,R,simprocAttr])
  all_goals clear R
  all_goals rfl
theorem fc(m:bQ):bV (some 7) (enc m)=true:=by rw[fx];rfl
theorem rv(m:bQ)(b:aR):aC Tryz.prog 69 [enc m,.ref (enc (⟨b⟩:eC))] (enc (gQ m b.bL).1):=by
 refine aC.bu Tryz.func69 Se T5 V5 (t7 rfl) (fun hwf W0 D0 E1 =>?_);simp only[Bo,Mm,bj,zz4];clear hwf;have hC:=Oi m b.bL;have R:=v6 @fc eX
 repeat' ((first |refine U.aX (by decide +kernel) rfl fun K hK =>?_|refine .lead _ (hC) ?_|(refine .aQ [0,1,2,4,5] hK ?_;clear hK K)|(with_reducible refine .done (hK _ ?_);clear hK K)|refine U.of rfl ?_|(with_reducible refine au.aU (fun h =>?_) (fun h =>?_) <;>try simp only[h])) <;>try simp only[aZ,R,simprocAttr])
 all_goals clear R
theorem Ol(l:List Int)(n:Int):aC Tryz.prog 131 [enc l,enc n] (enc (m7 (fun x=>n==x) l)):=by
 refine aC.bu Tryz.func131 Q8 SV UY (t7 rfl) (fun hwf W0 D0 E1 =>?_);simp only[Ad,Ld,bj,zz4];have hlen:l.length≤maxLen:=((kM l).1 hwf.1).1;simp only[maxLen] at hlen;clear hwf;have R:=v6 @bP @J
 repeat' ((first |refine U.aX (by decide +kernel) rfl fun K hK =>?_|(refine .aQ [0,1,4,5,7,8,9,16] hK ?_;clear hK K)|(with_reducible refine .done (hK _ ?_);clear hK K)|refine U.of rfl ?_|(with_reducible refine au.aU (fun h =>?_) (fun h =>?_) <;>try simp only[h])) <;>try simp only[aZ,R,simprocAttr])
 all_goals clear R
 refine U.loop (fun i:Nat=>ar [(0,enc l),(1,.int .i64 n),(7,.int .i64 l.length),(8,.int .i64 i)] []) (fun i=>i≤l.length∧∀ x∈l.take i,(n==x)=false) (fun i=>l.length-i) 0 ⟨zv4 _,by simp⟩ ?_ (fun i hi =>?_)
 ·refine aF.bY ?_ ?_ ?_ ?_ <;>simp[aV,bO,bM,br,aW,I.only,bA]
 obtain ⟨hi1,hi2⟩:=hi;by_cases hlt:i<l.length
 ·have hc:=gI hlt;have he:=fun A=>fJ (A:=A) 1 hlt rfl;have hw:=gb (i:=i) (by omega);rcases hp:(n==l[i])
  ·have R:=v6 @hc (v6 @he (v6 @hp (v6 @hw (v6 @kC (v6 @bP @J)))))
   repeat' ((first |refine U.aX (by decide +kernel) rfl fun K hK =>?_|(refine .aQ [0,1,4,5,7,8,9,16] hK ?_;clear hK K)|(with_reducible refine .done (hK _ ?_);clear hK K)|refine U.of rfl ?_|(with_reducible refine au.aU (fun h =>?_) (fun h =>?_) <;>try simp only[h])) <;>try simp only[aZ,R,simprocAttr])
   all_goals clear R
   refine ⟨i+1,⟨by omega,fun x hm =>?_⟩,by omega,?_⟩
   ·rw[zy5 hlt] at hm;rcases zy7.1 hm with hm | hm
    ·exact hi2 x hm
    ·simp at hm;rw[hm];exact hp
   ·refine aF.bY ?_ ?_ ?_ ?_ <;>simp[aV,bO,bM,br,aW,I.only,bA]
  ·have R:=v6 @hc (v6 @he (v6 @hp (v6 @kC (v6 @bP @J))))
   repeat' ((first |refine U.aX (by decide +kernel) rfl fun K hK =>?_|(refine .aQ [0,1,4,5,7,8,9,16] hK ?_;clear hK K)|(with_reducible refine .done (hK _ ?_);clear hK K)|refine U.of rfl ?_|(with_reducible refine au.aU (fun h =>?_) (fun h =>?_) <;>try simp only[h])) <;>try simp only[aZ,R,simprocAttr])
   all_goals clear R
   simp[m7,vl hlt hi2 hp]
 ·have hc:=ib hlt;have hge:i=l.length:=by omega
  have R:=v6 @hc (v6 @bP @J)
  repeat' ((first |refine U.aX (by decide +kernel) rfl fun K hK =>?_|(refine .aQ [0,1,4,5,7,8,9,16] hK ?_;clear hK K)|(with_reducible refine .done (hK _ ?_);clear hK K)|refine U.of rfl ?_|(with_reducible refine au.aU (fun h =>?_) (fun h =>?_) <;>try simp only[h])) <;>try simp only[aZ,R,simprocAttr])
  all_goals clear R
  subst hge;rw[List.take_length] at hi2;simp[m7,vk hi2]
theorem Ph(l:List Int)(n:Int):aC Tryz.prog 74 [enc l,enc n] (enc (decide (n∈l))):=by
 refine aC.bu Tryz.func74 Sh T8 V8 (t7 rfl) (fun hwf W0 D0 E1 =>?_);simp only[Br,Mp,bj,zz4];clear hwf;have R:=v6 @bl @J
 repeat' ((first |refine U.aX (by decide +kernel) rfl fun K hK =>?_|refine .flat _ (Ol _ _) rfl ?_|(refine .aQ [0,1,4] hK ?_;clear hK K)|(with_reducible refine .done (hK _ ?_);clear hK K)|refine U.of rfl ?_|(with_reducible refine au.aU (fun h =>?_) (fun h =>?_) <;>try simp only[h])) <;>try simp only[aZ,R,simprocAttr])
 all_goals clear R
 rw[Jn]
 congr 1
 rw[Bool.eq_iff_iff];simp[List.any_eq_true]
theorem Pg(m:bQ)(b:aR):aC Tryz.prog 73 [.ref (enc (⟨b⟩:eC)),.ref (enc m)] (enc (decide (0<b.ju) && !decide (b.ju∈(gQ m b.bL).1))):=by
 refine aC.bu Tryz.func73 Sg T7 V7 (t7 rfl) (fun hwf W0 D0 E1 =>?_);simp only[Bq,Mo,bj,zz4];clear hwf;have hC:=rv m b;have R:=v6 @fc eX
 repeat' ((first |(with_reducible refine .guard (fun hb =>?_) (fun hb =>?_) <;>try simp only[hb])|refine U.aX (by decide +kernel) rfl fun K hK =>?_|refine .lead _ (hC) ?_|refine .flat _ (Ph _ _) rfl ?_|(refine .aQ [0,1,3] hK ?_;clear hK K)|(with_reducible refine .done (hK _ ?_);clear hK K)|refine U.of rfl ?_|(with_reducible refine au.aU (fun h =>?_) (fun h =>?_) <;>try simp only[h])) <;>try simp only[aZ,R,simprocAttr])
 all_goals clear R
 all_goals first | (simp_all;done) | (simp_all;intro h;omega)
def jv(m:bQ)(l:List aw)(no known:Int):List Int×Int:=if ed m then (if fN l [fk no 9999] [known]=0 then (match dp (dw l 100000 known) no with
 |none=>([],42)
 |some b=>((gQ m b.bL).1,0)) else ([],fN l [fk no 9999] [known])) else ([],13)
theorem QI(a:Int):gY 1 (some [.int .i64 a])=some (enc [a]):=mO (ys:=[a]) 1 rfl
theorem pV(m:bQ)(l:List aw)(no known:Int):aC Tryz.prog 14 [enc m,enc l,enc no,enc known] (.tuple [enc (jv m l no known).1,enc (jv m l no known).2]):=by
 refine aC.bu Tryz.func14 Rg S2 U5 (t7 rfl) (fun hwf W0 D0 E1 =>?_);simp only[Ak,Lk,bj,zz4,Nat.reduceAdd];clear hwf;have hM:=ud m;have hC:=pW l [fk no 9999] [known];simp only[jv];rcases hm:ed m
 ·rw[hm,if_neg (by decide)] at hM;have R:=v6 @fc eX
  repeat' ((first |refine U.aX (by decide +kernel) rfl fun K hK =>?_|refine .flat _ (hM) rfl ?_|(refine .aQ [0,1,2,3,4,8,9,10,11,12,16,26,37] hK ?_;clear hK K)|(with_reducible refine .done (hK _ ?_);clear hK K)|refine U.of rfl ?_|(with_reducible refine au.aU (fun h =>?_) (fun h =>?_) <;>try simp only[h])) <;>try simp only[aZ,R,simprocAttr])
  all_goals clear R
  all_goals rfl
 rw[hm,if_pos rfl] at hM;generalize hc:fN l [fk no 9999] [known]=e at hC ⊢;by_cases he:e=0
 ·have hn:=pn he;subst he;have hok:=nF hc;have hF:=ru l known hok;have hk:=sK (dw l 100000 known) no;cases hg:dp (dw l 100000 known) no with
  |none =>
   rw[hg] at hk;have R:=v6 @hn (v6 @hk (v6 @fc eX))
   repeat' ((first |refine U.aX (by decide +kernel) rfl fun K hK =>?_|refine .flat _ (hM) rfl ?_|refine .flat _ (hC) rfl ?_|refine .lead _ (hF) ?_|(refine .aQ [0,1,2,3,4,8,9,10,11,12,16,26,37] hK ?_;clear hK K)|(with_reducible refine .done (hK _ ?_);clear hK K)|refine U.of rfl ?_|(with_reducible refine au.aU (fun h =>?_) (fun h =>?_) <;>try simp only[h])) <;>try simp only[aZ,R,simprocAttr])
   all_goals clear R
   all_goals rfl
  |some b =>
   rw[hg] at hk;have hB:=rv m b;have R:=v6 @hn (v6 @hk (v6 @fc eX))
   repeat' ((first |refine U.aX (by decide +kernel) rfl fun K hK =>?_|refine .flat _ (hM) rfl ?_|refine .flat _ (hC) rfl ?_|refine .lead _ (hF) ?_|refine .lead _ (hB) ?_|(refine .aQ [0,1,2,3,4,8,9,10,11,12,16,26,37] hK ?_;clear hK K)|(with_reducible refine .done (hK _ ?_);clear hK K)|refine U.of rfl ?_|(with_reducible refine au.aU (fun h =>?_) (fun h =>?_) <;>try simp only[h])) <;>try simp only[aZ,R,simprocAttr])
   all_goals clear R
 ·have hn:=po he;have R:=v6 @hn (v6 @he (v6 @fc eX))
  repeat' ((first |refine U.aX (by decide +kernel) rfl fun K hK =>?_|refine .flat _ (hM) rfl ?_|refine .flat _ (hC) rfl ?_|(refine .aQ [0,1,2,3,4,8,9,10,11,12,16,26,37] hK ?_;clear hK K)|(with_reducible refine .done (hK _ ?_);clear hK K)|refine U.of rfl ?_|(with_reducible refine au.aU (fun h =>?_) (fun h =>?_) <;>try simp only[h])) <;>try simp only[aZ,R,simprocAttr])
  all_goals clear R
  all_goals rfl
def rl(m:bQ)(l:List aw)(known:Int):List Int×Int:=if ed m then (if fN l [] [known]=0 then
 (dZ (((dw l 100000 known).filter fun b=>decide (0<b.ju) && !decide (b.ju∈(gQ m b.bL).1)).map (·.no)),0) else ([],fN l [] [known])) else ([],13)
theorem OC(m:bQ)(l:List aw)(known:Int):aC Tryz.prog 16 [enc m,enc l,enc known] (.tuple [enc (rl m l known).1,enc (rl m l known).2]):=by
 refine aC.bu Tryz.func16 Rr Te Vh (t7 rfl) (fun hwf W0 D0 E1 =>?_);simp only[Ax,Lw,bj,zz4,Nat.reduceAdd];clear hwf;have hM:=ud m;have hC:=pW l [] [known];simp only[rl];rcases hm:ed m
 ·rw[hm,if_neg (by decide)] at hM;have R:=v6 @fc eX
  repeat' ((first |refine U.aX (by decide +kernel) rfl fun K hK =>?_|refine .flat _ (hM) rfl ?_|(refine .aQ [0,1,2,3,6,7,8,9,13,20] hK ?_;clear hK K)|(with_reducible refine .done (hK _ ?_);clear hK K)|refine U.of rfl ?_|(with_reducible refine au.aU (fun h =>?_) (fun h =>?_) <;>try simp only[h])) <;>try simp only[aZ,R,simprocAttr])
  all_goals clear R
  all_goals rfl
 rw[hm,if_pos rfl] at hM;generalize hc:fN l [] [known]=e at hC ⊢;by_cases he:e=0
 ·have hn:=pn he;subst he;have hok:=nF hc;have hF:=ru l known hok;have hb:=wE hok 100000 known;have hN:=ue (dw l 100000 known) hb.2.1 73 [.ref (enc m)] (by simp[I.eG,I.done,dM]) (fun b=>decide (0<b.ju) && !decide (b.ju∈(gQ m b.bL).1)) (fun b _=>Pg m b);have R:=v6 @hn (v6 @fc (v6 @pj eX))
  repeat' ((first |refine U.aX (by decide +kernel) rfl fun K hK =>?_|refine .flat _ (hM) rfl ?_|refine .flat _ (hC) rfl ?_|refine .lead _ (hF) ?_|(refine .aQ [0,1,2,3,6,7,8,9,13,20] hK ?_;clear hK K)|(with_reducible refine .done (hK _ ?_);clear hK K)|refine U.of rfl ?_|(with_reducible refine au.aU (fun h =>?_) (fun h =>?_) <;>try simp only[h])) <;>try simp only[aZ,R,simprocAttr])
  all_goals clear R
  refine .hZ [3] _ rfl hN ?_ ?_ ?_
  ·simp[bg,bX,cz,ar,iL,aj,oL,nM,dM]
  ·simp[br,cW]
  ·try simp only[fV,zz9,zx2,eX,J,simprocAttr]
   have R:=eX
   repeat' ((first |refine U.aX (by decide +kernel) rfl fun K hK =>?_|(refine .aQ [0,1,2,3,6,7,8,9,13,20] hK ?_;clear hK K)|(with_reducible refine .done (hK _ ?_);clear hK K)|refine U.of rfl ?_|(with_reducible refine au.aU (fun h =>?_) (fun h =>?_) <;>try simp only[h])) <;>try simp only[aZ,R,simprocAttr])
   all_goals clear R
 ·have hn:=po he;have R:=v6 @hn (v6 @he (v6 @fc eX))
  repeat' ((first |refine U.aX (by decide +kernel) rfl fun K hK =>?_|refine .flat _ (hM) rfl ?_|refine .flat _ (hC) rfl ?_|(refine .aQ [0,1,2,3,6,7,8,9,13,20] hK ?_;clear hK K)|(with_reducible refine .done (hK _ ?_);clear hK K)|refine U.of rfl ?_|(with_reducible refine au.aU (fun h =>?_) (fun h =>?_) <;>try simp only[h])) <;>try simp only[aZ,R,simprocAttr])
  all_goals clear R
  all_goals rfl
end Go.Proofs.YtcldiigclhgafaaGreat
namespace Go.Proofs.YtcldiigclhgafaaGreat
open Go Go.Abs Go.ChangeShapes Go.WideShapes Go.RowKit
open Go.Abs.Enc (enc)
theorem Tryz.own:ownKnob Tryz.prog.godebug=none:=by kernel_rfl
theorem Tryz.afq:laidOutB Tryz.prog=true:=by kernel_rfl
theorem xp:pY Tryz.prog 3 Int:=ahk (by kernel_rfl) (by kernel_rfl)
end Go.Proofs.YtcldiigclhgafaaGreat
namespace Go.Proofs.YtcldiigclhgafaaGreat
open Go Go.Abs
open Go.Abs.Enc (enc)
theorem er.ahe{aB:Bool}{ρ:List (Nat×Nat)}{k:Nat}{x:ah}{os0:List (Nat×ah)}{r c:I}(h1:∀ p,c.only p=true)(h2:aB=true→c.cS=true)(h3:r.only (aq [(k,.box c)])=true)(h4:aB=true→r.cS=true):er aB ρ [(k,x)] os0 r [(k,.box c)]:=by
 refine ⟨fun m x h =>?_,fun m m' h h' _ =>?_,fun m h =>?_,fun m h h' =>?_,h3,h4⟩
 ·simp only[aj] at h;split at h
  ·simp only[u8] at h;subst h;exact ⟨h1 _,rfl,h2⟩
  ·cases h
 ·rw[di.1 h,di.1 h']
 ·rw[di.1 h];exact di.2 rfl
 ·rw[di.1 h] at h';have:aq [(k,x)] k=true:=di.2 rfl;rw[this] at h';cases h'
theorem w0(p:Nat→Bool)(l:List aw):(I.agg (l.map enc)).only p=true:=by simp only[I.only];exact fe p l
theorem zb(l:List aw)(i:Nat)(hi:i<l.length)(hlen:l.length≤60):aC Tryz.prog 78 [enc l,enc (i:Int)] (enc (dX l i)):=by
 have hne:l≠[]:=fun e=>by rw[e] at hi;simp at hi
 have hdl:=Cf hi;refine aC.bu Tryz.func78 Si T9 V9 (t7 rfl) (fun hwf W0 D0 E1 =>?_);simp only[Bt,Mq,bj,zz4];clear hwf;refine .ak (by decide +kernel) fun K hK =>?_;simp only[H9,J,simprocAttr];refine .done (hK _ ?_);clear hK K;refine .ak (by decide +kernel) fun K hK =>?_;simp only[Ia,J,simprocAttr];refine .bU false [(7,6)] [] [enc l] (BZ l) rfl (Oo l (by omega)) fS.nil ⟨.inl ⟨(jR _ _).symm,bA _ _,dz _⟩,trivial⟩ ?_ ?_
 ·rintro x os' (⟨_,h | h,rfl⟩ | ⟨_,k,rfl,rfl⟩)
  ·subst h;exact er.nil (fun _=>rfl) (fun h=>by cases h)
  ·subst h;exact er.nil (fun _=>rfl) (fun h=>by cases h)
  ·exact er.sX (fun p=>w0 p _) (fun h=>by cases h) rfl (fun h=>by cases h) rfl (by decide)
 ·rintro x os' (⟨hn,_,_⟩ | ⟨hn,k,rfl,rfl⟩)
  ·exact absurd hn hne
  try simp only[kI,jn,iR,zy0,zy8,J,simprocAttr]
  rw[cA _ (by omega) (by omega)];have hp1:(i:Int)+1=((i+1:Nat):Int):=by omega
  simp only[hp1];refine .bU false [(1000000,6)] (kI 1000000 l k) [.view 1000000 [] 17 0 l.length,enc (i:Int),enc ((i+1:Nat):Int)] (Cc l i) rfl (On l i k hi (by omega)) ⟨?_,?_⟩ ⟨.inl ⟨?_,?_,rfl⟩,.inl ⟨rfl,rfl,rfl⟩,.inl ⟨rfl,rfl,rfl⟩,trivial⟩ ?_ ?_
  ·intro n x h;simp only[kI,aj] at h;split at h
   ·rename_i hn';subst hn';simp only[u8] at h;subst h;exact ⟨by simp only[jn,iR,J,simprocAttr],w0 _ _,rfl⟩
   ·cases h
  ·intro a b ha hb _;rw[di.1 ha,di.1 hb]
  ·try simp only[jn,simprocAttr]
  ·exact di.2 rfl
  ·rintro x os' ⟨q,rfl,rfl⟩;exact er.ahe (fun p=>w0 p _) (fun h=>by cases h) rfl (fun h=>by cases h)
  ·rintro x os' ⟨q,rfl,rfl⟩;rw[←hdl];generalize hL:dX l i=ay at hdl ⊢
   try simp only[kI,jn,iR,zy0,zy8,J,simprocAttr]
   refine .done (hK _ ?_);clear hK K;refine U.ret ?_;simp only[J,simprocAttr]
   try simp only[r8 (α:=aw) (sz:=17) rfl,J,simprocAttr]
   rw[hL];simp
theorem Om(a b:List Int):aC Tryz.prog 134 [enc a,enc b] (enc (decide (a=b))):=by
 refine aC.bu Tryz.func134 Ra SX U0 (t7 rfl) (fun hwf W0 D0 E1 =>?_);simp only[Af,Lf,bj,zz4];have hlen:a.length≤maxLen:=((kM a).1 hwf.1).1;simp only[maxLen] at hlen;clear hwf;by_cases hl:a.length=b.length
 case neg =>
  have hn:((a.length:Int) != (b.length:Int))=true:=by simp;omega
  have R:=v6 @hn (v6 @bP (v6 @bl @J))
  repeat' ((first |refine U.aX (by decide +kernel) rfl fun K hK =>?_|(refine .aQ [0,1,4,5,10,12,13,14,24] hK ?_;clear hK K)|(with_reducible refine .done (hK _ ?_);clear hK K)|refine U.of rfl ?_|(with_reducible refine au.aU (fun h =>?_) (fun h =>?_) <;>try simp only[h])) <;>try simp only[aZ,R,simprocAttr])
  all_goals clear R
  have:¬ a=b:=fun e=>hl (by rw[e]);simp[this]
 have hn:((a.length:Int) != (b.length:Int))=false:=by simp;omega
 have R:=v6 @hn (v6 @bP (v6 @bl @J))
 repeat' ((first |refine U.aX (by decide +kernel) rfl fun K hK =>?_|(refine .aQ [0,1,4,5,10,12,13,14,24] hK ?_;clear hK K)|(with_reducible refine .done (hK _ ?_);clear hK K)|refine U.of rfl ?_|(with_reducible refine au.aU (fun h =>?_) (fun h =>?_) <;>try simp only[h])) <;>try simp only[aZ,R,simprocAttr])
 all_goals clear R
 refine U.loop (fun i:Nat=>ar [(0,enc a),(1,enc b),(12,.int .i64 a.length),(13,.int .i64 i)] []) (fun i=>i≤a.length∧∀ k,k<i→a[k]?=b[k]?) (fun i=>a.length-i) 0 ⟨zv4 _,fun k h=>by omega⟩ ?_ (fun i hi =>?_)
 ·refine aF.bY ?_ ?_ ?_ ?_ <;>simp[aV,bO,bM,br,aW,I.only,bA]
 obtain ⟨hi1,hi2⟩:=hi;by_cases hlt:i<a.length
 ·have hc:=gI hlt;have he:=fun A=>fJ (A:=A) 1 hlt rfl;have hlt2:i<b.length:=by omega
  have he2:=fun A=>fJ (A:=A) 1 hlt2 rfl;have hw:=gb (i:=i) (by omega);rcases hp:(a[i] != b[i])
  ·have R:=v6 @hc (v6 @he (v6 @he2 (v6 @hp (v6 @hw (v6 @kC (v6 @bP @J))))))
   repeat' ((first |refine U.aX (by decide +kernel) rfl fun K hK =>?_|(refine .aQ [0,1,4,5,10,12,13,14,24] hK ?_;clear hK K)|(with_reducible refine .done (hK _ ?_);clear hK K)|refine U.of rfl ?_|(with_reducible refine au.aU (fun h =>?_) (fun h =>?_) <;>try simp only[h])) <;>try simp only[aZ,R,simprocAttr])
   all_goals clear R
   refine ⟨i+1,⟨by omega,fun k hk =>?_⟩,by omega,?_⟩
   ·by_cases e:k=i
    ·subst e;have:a[k]=b[k]:=by simpa using hp
     simp[hlt,hlt2,this]
    ·exact hi2 k (by omega)
   ·refine aF.bY ?_ ?_ ?_ ?_ <;>simp[aV,bO,bM,br,aW,I.only,bA]
  ·have R:=v6 @hc (v6 @he (v6 @he2 (v6 @hp (v6 @kC (v6 @bP @J)))))
   repeat' ((first |refine U.aX (by decide +kernel) rfl fun K hK =>?_|(refine .aQ [0,1,4,5,10,12,13,14,24] hK ?_;clear hK K)|(with_reducible refine .done (hK _ ?_);clear hK K)|refine U.of rfl ?_|(with_reducible refine au.aU (fun h =>?_) (fun h =>?_) <;>try simp only[h])) <;>try simp only[aZ,R,simprocAttr])
   all_goals clear R
   have:¬ a=b:=fun e=>by subst e;simp at hp
   simp[this]
 ·have hc:=ib hlt;have R:=v6 @hc (v6 @bP @J)
  repeat' ((first |refine U.aX (by decide +kernel) rfl fun K hK =>?_|(refine .aQ [0,1,4,5,10,12,13,14,24] hK ?_;clear hK K)|(with_reducible refine .done (hK _ ?_);clear hK K)|refine U.of rfl ?_|(with_reducible refine au.aU (fun h =>?_) (fun h =>?_) <;>try simp only[h])) <;>try simp only[aZ,R,simprocAttr])
  all_goals clear R
  have:a=b:=List.ext_getElem? fun k=>by
   by_cases hk:k<i
   ·exact hi2 k hk
   ·rw[List.getElem?_eq_none (by omega),List.getElem?_eq_none (by omega)]
  simp[this]
def rK(b:aR):aI 8 Int:=⟨[b.no,b.fg,b.eV,b.b5,b.ju,b.born,b.eW,if b.found then 1 else 0],rfl⟩
theorem Qu(a b c d e f g h:Int):(dR [.int .i64 0,.int .i64 0,.int .i64 0,.int .i64 0,.int .i64 0,.int .i64 0,.int .i64 0,.int .i64 0] [(0,.int .i64 a),(1,.int .i64 b),(2,.int .i64 c),(3,.int .i64 d),(4,.int .i64 e),(5,.int .i64 f),(6,.int .i64 g),(7,.int .i64 h)])=some [.int .i64 a,.int .i64 b,.int .i64 c,.int .i64 d,.int .i64 e,.int .i64 f,.int .i64 g,.int .i64 h]:=by simp[dR,I.cd,I.size]
theorem aiA{A:ae}{n:Nat}{w:I}{a b c d e f g h a' b' c' d' e' f' g' h':Int}{rest:List az} : dO A (some 8) n [] w (.agg [.int .i64 a,.int .i64 b,.int .i64 c,.int .i64 d,.int .i64 e,.int .i64 f,.int .i64 g,.int .i64 h]) rest (some (.agg [.int .i64 a',.int .i64 b',.int .i64 c',.int .i64 d',.int .i64 e',.int .i64 f',.int .i64 g',.int .i64 h'])) =
  aA rest (A.aN n (.box (.agg [.int .i64 a,.int .i64 b,.int .i64 c,.int .i64 d,.int .i64 e,.int .i64 f,.int .i64 g,.int .i64 h]))):=by
 refine (eg (s:=some 8) (by rfl) (by rfl) (by rfl)).trans ?_;rw[fR]
theorem ahb{a b c d e f g h:Int} : bV (some 8) (.agg [.int .i64 a,.int .i64 b,.int .i64 c,.int .i64 d,.int .i64 e,.int .i64 f,.int .i64 g,.int .i64 h])=true:=rfl
theorem yQ(b:aR):aC Tryz.prog 133 [.ref (enc (⟨b⟩:eC))] (enc (rK b)):=by
 refine aC.bu Tryz.func133 Q9 SW UZ (t7 rfl) (fun hwf W0 D0 E1 =>?_);simp only[Ae,Le,bj];clear hwf;rcases hf:b.found
 all_goals
  have R:=v6 @hf (v6 @Qu (v6 @aiA (v6 @ahb eX)))
  repeat' ((first |refine U.aX (by decide +kernel) rfl fun K hK =>?_|(refine .aQ [0,2,3,8] hK ?_;clear hK K)|(with_reducible refine .done (hK _ ?_);clear hK K)|refine U.of rfl ?_|(with_reducible refine au.aU (fun h =>?_) (fun h =>?_) <;>try simp only[h])) <;>try simp only[aZ,R,simprocAttr])
  all_goals clear R
  simp[rK,hf];rfl
def jD:Option aR→I
 |none=>.nilp
 |some b=>.ref (enc (⟨b⟩:eC))
def oi(m:bQ):Option aR→Option aR→Bool
 |some a,some b=>decide ((rK a).l=(rK b).l)&&decide ((gQ m a.bL).1=(gQ m b.bL).1)
 |none,none=>true
 |_,_=>false
theorem xT:mn false (some true) (some false)=some (.bool false):=rfl
theorem Pj(m:bQ)(x y:Option aR):aC Tryz.prog 77 [enc m,jD x,jD y] (enc (oi m x y)):=by
 rcases x with _ | a
 ·rcases y with _ | b
  all_goals
   simp only[jD,oi];refine aC.bu Tryz.func77 uE uG uS (t7 rfl) (fun hwf W0 D0 E1 =>?_);simp only[rP,tn,bj,zz4,Nat.reduceAdd];clear hwf;have R:=v6 @xT (v6 @r3 (v6 @fc eX))
   repeat' ((first |(with_reducible refine .guard (fun hb =>?_) (fun hb =>?_) <;>try simp only[hb])|refine U.aX (by decide +kernel) rfl fun K hK =>?_|(refine .aQ [0,1,2,3,6,7,13] hK ?_;clear hK K)|(with_reducible refine .done (hK _ ?_);clear hK K)|refine U.of rfl ?_|(with_reducible refine au.aU (fun h =>?_) (fun h =>?_) <;>try simp only[h])) <;>try simp only[aZ,R,simprocAttr])
   all_goals clear R
 rcases y with _ | b
 ·simp only[jD,oi];refine aC.bu Tryz.func77 uE uG uS (t7 rfl) (fun hwf W0 D0 E1 =>?_);simp only[rP,tn,bj,zz4,Nat.reduceAdd];clear hwf;have R:=v6 @xT (v6 @r3 (v6 @fc eX))
  repeat' ((first |(with_reducible refine .guard (fun hb =>?_) (fun hb =>?_) <;>try simp only[hb])|refine U.aX (by decide +kernel) rfl fun K hK =>?_|(refine .aQ [0,1,2,3,6,7,13] hK ?_;clear hK K)|(with_reducible refine .done (hK _ ?_);clear hK K)|refine U.of rfl ?_|(with_reducible refine au.aU (fun h =>?_) (fun h =>?_) <;>try simp only[h])) <;>try simp only[aZ,R,simprocAttr])
  all_goals clear R
 simp only[jD,oi];refine aC.bu Tryz.func77 uE uG uS (t7 rfl) (fun hwf W0 D0 E1 =>?_);simp only[rP,tn,bj,zz4,Nat.reduceAdd];clear hwf;have ha:=rv m a;have hyB:=rv m b;have h3:=yQ a;have h4:=yQ b;have R:=v6 @xT (v6 @r3 (v6 @fc eX))
 repeat' ((first |(with_reducible refine .guard (fun hb =>?_) (fun hb =>?_) <;>try simp only[hb])|refine U.aX (by decide +kernel) rfl fun K hK =>?_|refine .flat _ (h3) rfl ?_|refine .flat _ (h4) rfl ?_|refine .lead _ (ha) ?_|refine .lead _ (hyB) ?_|refine .flat _ (Om _ _) rfl ?_|(refine .aQ [0,1,2,3,6,7,13] hK ?_;clear hK K)|(with_reducible refine .done (hK _ ?_);clear hK K)|refine U.of rfl ?_|(with_reducible refine au.aU (fun h =>?_) (fun h =>?_) <;>try simp only[h])) <;>try simp only[aZ,R,zy0,simprocAttr])
 all_goals clear R
 all_goals simp_all
def tB(m:bQ)(l:List aw)(no known:Int)(i:Nat):Bool := !oi m (dp (dw l 100000 known) no) (dp (dw (dX l i) 100000 known) no)
def jo(m:bQ)(l:List aw)(no known:Int)(n:Nat):List Item:=((List.range n).filter (tB m l no known)).map fun i=>(ab l i).bt
theorem ahX(m:bQ)(l:List aw)(no known:Int)(n:Nat):jo m l no known (n+1)=jo m l no known n++if tB m l no known n then [(ab l n).bt] else []:=by
 simp only[jo,List.range_succ,List.filter_append,zx6,zw2,List.filter_nil]
 congr 1
 split <;>rfl
theorem ahW(m:bQ)(l:List aw)(no known:Int)(n:Nat):(jo m l no known n).length≤n:=by
 simp only[jo,zy1];have:=zv3 (tB m l no known) (List.range n);simpa using this
def tC(m:bQ)(l:List aw)(no known:Int):List Item×Int:=if (jv m l no known).2=0 then (jo m l no known l.length,0) else ([],(jv m l no known).2)
theorem P7{m:bQ}{l:List aw}{no known:Int}(h:(jv m l no known).2=0):dC l=true:=by
 simp only[jv] at h
 repeat' split at h
 all_goals first | (exact nF (by assumption)) | (simp_all;done) | exact nF h
theorem Kz(p:Nat→Bool)(x:Option aR):(jD x).only p=true:=by cases x <;>simp[jD,I.only,bA]
theorem te{l:List aw} : dC l=true↔l.length≤60∧(∀ x∈l,j6 x=true)∧l.Pairwise fun a b=>before a.bt b.bt=true:=by
 constructor
 ·intro h;refine ⟨nY h,fun x hx =>?_,List.pairwise_iff_getElem.2 fun i j hi hj hij =>?_⟩
  ·obtain ⟨i,hi,rfl⟩:=zv6 hx;have:=xC h hi
   rwa [←iC hi] at this
  ·have:=Kg h hij hj
   rwa [←iC hi,←iC hj] at this
 ·rintro ⟨h1,h2,h3⟩;refine Kf h1 fun i hi =>?_;simp only[j5,zz2,Bool.or_eq_true,decide_eq_true_eq];refine ⟨by rw[←iC hi];exact h2 _ (zy6 hi),?_⟩;by_cases h0:i=0
  ·exact .inl h0
  ·right
   have:=List.pairwise_iff_getElem.1 h3 (i-1) i (by omega) hi (by omega)
   rwa [iC,iC] at this
theorem Kh{l l':List aw}(hs:l'.Sublist l)(h:dC l=true):dC l'=true:=by
 obtain ⟨h1,h2,h3⟩:=te.1 h;exact te.2 ⟨zv7 hs.length_le h1,fun x hx=>h2 x (hs.subset hx),h3.sublist hs⟩
theorem Ce(l:List aw)(i:Nat):(dX l i).Sublist l:=by
 have:=(zy9 i l)
 simp only[dX]
 conv=>rhs;rw[←this]
 refine List.Sublist.append_left ?_ _;rw[←List.drop_drop];exact List.drop_sublist _ _
theorem agY{l:List aw}(hok:dC l=true)(i:Nat):dC (dX l i)=true:=Kh (Ce l i) hok
theorem OT(m:bQ)(l:List aw)(no known:Int):aC Tryz.prog 18 [enc m,enc l,enc no,enc known] (.tuple [enc (tC m l no known).1,enc (tC m l no known).2]):=by
 refine aC.bu Tryz.func18 RI Tx Vz (t7 rfl) (fun hwf W0 D0 E1 =>?_);simp only[AQ,LP,bj,zz4,Nat.reduceAdd];clear hwf;have hC:=pV m l no known;simp only[tC];have hok0:=P7 (m:=m) (l:=l) (no:=no) (known:=known);generalize jv m l no known=e at hC hok0 ⊢;obtain ⟨e1,e2⟩:=e;simp only at hC hok0 ⊢;by_cases he:e2=0
 case neg =>
  have hn:=po he;have R:=v6 @hn (v6 @he (v6 @fc eX))
  repeat' ((first |refine U.aX (by decide +kernel) rfl fun K hK =>?_|refine .lead _ (hC) ?_|(refine .aQ [0,1,2,3,4,8,9,11,12,13,14,15,25,35,36,37,38,55] hK ?_;clear hK K)|(with_reducible refine .done (hK _ ?_);clear hK K)|refine U.of rfl ?_|(with_reducible refine au.aU (fun h =>?_) (fun h =>?_) <;>try simp only[h])) <;>try simp only[aZ,R,simprocAttr])
  all_goals clear R
  all_goals rfl
 have hn:=pn he;have hok:=hok0 he;subst he;have hF:=ru l known hok;have hk:=sK (dw l 100000 known) no;have hx:fW (.i .i64) .nilp (.int .i64 no) (dc (dw l 100000 known)) ((dw l 100000 known).map fun b=>.ref (enc (⟨b⟩:eC)))=some (jD (dp (dw l 100000 known) no),(dp (dw l 100000 known) no).isSome):=by
  rw[hk];cases dp (dw l 100000 known) no <;>rfl
 have hlen:=nY hok;have R:=v6 @hn (v6 @hx (v6 @fc eX))
 repeat' ((first |refine U.aX (by decide +kernel) rfl fun K hK =>?_|refine .lead _ (hC) ?_|refine .lead _ (hF) ?_|(refine .aQ [0,1,2,3,4,8,9,11,12,13,14,15,25,35,36,37,38,55] hK ?_;clear hK K)|(with_reducible refine .done (hK _ ?_);clear hK K)|refine U.of rfl ?_|(with_reducible refine au.aU (fun h =>?_) (fun h =>?_) <;>try simp only[h])) <;>try simp only[aZ,R,simprocAttr])
 all_goals clear R
 refine U.loop (fun i:Nat=>ar [(1,enc l),(2,.int .i64 no),(3,.int .i64 known),(4,.ptr 4 []),(12,jD (dp (dw l 100000 known) no)),(13,.own 913 (jo m l no known i).length),(35,enc l),(36,.int .i64 l.length),(37,.int .i64 i)] [(4,.box (enc m)),(913,.bT 65 2 ((jo m l no known i).map enc))]) (fun i=>i≤l.length) (fun i=>l.length-i) 0 (zv4 _) ?_ (fun i hi =>?_)
 ·refine aF.rF 13 913 65 2 2 rfl rfl ?_;simp only[jo,List.range_zero,List.filter_nil,zx2,List.length_nil];refine aF.bY ?_ ?_ ?_ ?_ <;>simp[*,aV,bO,bM,br,aq,aW,ct,I.only,I.b8,ah.only,bA,Kz]
 have hRl:=ahW m l no known i;by_cases hlt:i<l.length
 ·have hc:=gI hlt;have he:=fun A=>kz (A:=A) hlt;have hw:=gb (i:=i) (by omega);have hD:=zb l i hlt hlen;have hokd:=agY hok i;have hF2:=ru (dX l i) known hokd;have hk2:=sK (dw (dX l i) 100000 known) no;have hx2:fW (.i .i64) .nilp (.int .i64 no) (dc (dw (dX l i) 100000 known)) ((dw (dX l i) 100000 known).map fun b=>.ref (enc (⟨b⟩:eC)))=some (jD (dp (dw (dX l i) 100000 known) no),(dp (dw (dX l i) 100000 known) no).isSome):=by
   rw[hk2];cases dp (dw (dX l i) 100000 known) no <;>rfl
  have hS:=Pj m (dp (dw l 100000 known) no) (dp (dw (dX l i) 100000 known) no);have hsu:=ahX m l no known i;have hp:tB m l no known i = !oi m (dp (dw l 100000 known) no) (dp (dw (dX l i) 100000 known) no):=rfl;rw[hp] at hsu;generalize oi m (dp (dw l 100000 known) no) (dp (dw (dX l i) 100000 known) no)=b at hS hsu;have happ:=fun (A:ae) d rest=>nB (α:=Item) (A:=A) (d:=d) 65 2 16 913 (l:=(jo m l no known i).length) (es:=jo m l no known i) (ys:=[(ab l i).bt]) (rest:=rest) rfl rfl (by simp) (by simp[maxLen];omega) (by simp;omega);have hbs:=oO 2 (ab l i).bt rfl;have hol:(∀ aB A x,bg aB A (jD x)=some (jD x)):=fun aB A x=>by cases x <;>simp[jD,bg,dM]
  cases b
  all_goals
   simp only[Bool.not_true,Bool.not_false,if_true,zz7,if_false,zw1] at hsu;have R:=v6 @hc (v6 @he (v6 @hw (v6 @hx2 (v6 @happ (v6 @hbs (v6 @hol (v6 @fc eX)))))))
   repeat' ((first |refine U.aX (by decide +kernel) rfl fun K hK =>?_|refine .lead _ (hD) ?_|refine .lead _ (hF2) ?_|refine .flat _ (hS) rfl ?_|(refine .aQ [0,1,2,3,4,8,9,11,12,13,14,15,25,35,36,37,38,55] hK ?_;clear hK K)|(with_reducible refine .done (hK _ ?_);clear hK K)|refine U.of rfl ?_|(with_reducible refine au.aU (fun h =>?_) (fun h =>?_) <;>try simp only[h])) <;>try simp only[aZ,R,simprocAttr])
   all_goals clear R
   refine ⟨i+1,by omega,by omega,?_⟩;simp only[hsu];refine aF.bY ?_ ?_ ?_ ?_ <;>simp[*,aV,bO,bM,br,aq,aW,ct,I.only,I.b8,ah.only,fe,kD,bA,Kz]
 ·have hc:=ib hlt;have hie:i=l.length:=by omega
  subst hie;have hfo:nI (jo m l no known l.length).length (some (.bT 65 2 ((jo m l no known l.length).map enc)))=some (enc (jo m l no known l.length)):=mU 2 rfl rfl;have R:=v6 @hc (v6 @hfo (v6 @bP (v6 @bl @J)))
  repeat' ((first |refine U.aX (by decide +kernel) rfl fun K hK =>?_|(refine .aQ [0,1,2,3,4,8,9,11,12,13,14,15,25,35,36,37,38,55] hK ?_;clear hK K)|(with_reducible refine .done (hK _ ?_);clear hK K)|refine U.of rfl ?_|(with_reducible refine au.aU (fun h =>?_) (fun h =>?_) <;>try simp only[h])) <;>try simp only[aZ,R,simprocAttr])
  all_goals clear R
abbrev oD(l:List aw):Prop:=l.Pairwise fun a b=>before a.bt b.bt=true
theorem tI{l:List aw}(h:oD l){i j:Nat}(hij:i<j)(hj:j<l.length):before (ab l i).bt (ab l j).bt=true:=by
 rw[←iC hj,←iC (show i<l.length by omega)];exact List.pairwise_iff_getElem.1 h i j (by omega) hj hij
theorem xD{l:List aw}(h:dC l=true):oD l:=(te.1 h).2.2
theorem xR{l:List aw}{a:Item}{i:Nat}(hi:i≤l.length)(h1:∀ k,k<i→before (ab l k).bt a=true)(h2:i<l.length→before (ab l i).bt a=false):jF l a=i:=by
 simp only[jF];by_cases hlt:i<l.length
 ·refine (List.findIdx_eq hlt).2 ⟨by rw[iC hlt,h2 hlt];rfl,fun j hj =>?_⟩;rw[iC (by omega),h1 j hj];rfl
 ·have e:i=l.length:=by omega
  rw[e];refine List.findIdx_eq_length.2 fun x hx =>?_;obtain ⟨k,hk,rfl⟩:=zv6 hx;rw[iC hk,h1 k (by omega)];rfl
theorem Jj{l:List aw}(hs:oD l)(a:Item):l8 l a=(decide (jF l a<l.length)&&decide ((ab l (jF l a)).bt=a)):=by
 rw[Bool.eq_iff_iff,zz2,decide_eq_true_eq,decide_eq_true_eq];constructor
 ·intro h;simp only[l8,List.any_eq_true,decide_eq_true_eq] at h;obtain ⟨x,hx,rfl⟩:=h;obtain ⟨k,hk,rfl⟩:=zv6 hx;rw[iC hk];have h1:jF l (ab l k).bt=k:=xR (by omega) (fun j hj=>tI hs hj hk) (fun _=>zE _);rw[h1];exact ⟨hk,rfl⟩
 ·rintro ⟨h1,h2⟩;exact Ji h1 h2
theorem yS(x:aw)(a:Item):aC Tryz.prog 143 [enc x,enc a] (enc (kX x.bt a)):=by
 refine aC.bu Tryz.func143 Rj S5 U8 (t7 rfl) (fun hwf W0 D0 E1 =>?_);simp only[An,Ln,bj,zz4];have R:=v6 @bl @J
 repeat' ((first |refine U.aX (by decide +kernel) rfl fun K hK =>?_|refine .flat _ (tX _ _) rfl ?_|(refine .aQ [0,1,2,3,4] hK ?_;clear hK K)|(with_reducible refine .done (hK _ ?_);clear hK K)|refine U.of rfl ?_|(with_reducible refine au.aU (fun h =>?_) (fun h =>?_) <;>try simp only[h])) <;>try simp only[aZ,R,Nat.reduceEqDiff,reduceIte,Nat.reduceBEq])
 all_goals clear R
theorem Ov(l:List aw)(a:Item)(hs:oD l)(hl:l.length≤1000):aC Tryz.prog 142 [enc l,enc a,.func 143 []] (.tuple [enc (jF l a:Int),enc (l8 l a)]):=by
 refine aC.bu Tryz.func142 Ri S4 U7 (t7 rfl) (fun hwf W0 D0 E1 =>?_);simp only[Am,Lm,bj,zz4,Nat.reduceAdd];clear hwf;have R:=v6 @gZ (v6 @bP (v6 @bl @J))
 repeat' ((first |(with_reducible refine .guard (fun hb =>?_) (fun hb =>?_) <;>try simp only[hb])|refine U.aX (by decide +kernel) rfl fun K hK =>?_|(refine .aQ [0,1,2,4,6,7,8,9,10,11,17,31] hK ?_;clear hK K)|(with_reducible refine .done (hK _ ?_);clear hK K)|refine U.of rfl ?_|(with_reducible refine au.aU (fun h =>?_) (fun h =>?_) <;>try simp only[h])) <;>try simp only[aZ,R,Nat.reduceEqDiff,reduceIte,Nat.reduceBEq])
 all_goals clear R
 refine U.loop (fun s:Nat×Nat=>ar [(0,enc l),(2,.func 143 []),(4,.ptr 4 []),(8,.int .i64 l.length),(9,.int .i64 s.1),(10,.int .i64 s.2)] [(4,.box (enc a))]) (fun s=>s.1≤s.2∧s.2≤l.length∧(∀ k,k<s.1→before (ab l k).bt a=true)∧∀ k,s.2≤k→k<l.length→before (ab l k).bt a=false) (fun s=>s.2-s.1) (0,l.length) ⟨zv4 _,zz6 _,fun k hk=>by omega,fun k h1 h2=>by omega⟩ ?_ ?_
 ·refine aF.bY ?_ ?_ ?_ ?_ <;>simp[aV,bO,bM,br,aq,aW,ct,I.only,I.b8,ah.only,bA]
 rintro ⟨i,j⟩ ⟨h1,h2,h3,h4⟩;simp only at h1 h2 h3 h4 ⊢;by_cases hlt:i<j
 ·have hc:=gI hlt;have w1:=kc i j (by omega);have w2:=mc (x:=i+j) (by omega);obtain ⟨h,hh⟩:∃ h,h=(i+j) / 2:=⟨_,rfl⟩
  have w5:=rj (n:=h) (by omega);have hhl:h<l.length:=by omega
  have he:=fun A=>kz (A:=A) hhl;have hn:=B1 (ab l h).bt a;have hw:=gb (i:=h) (by omega);rcases hb:before (ab l h).bt a
  all_goals
   rw[hb] at hn;have R:=v6 @hc (v6 @w1 (v6 @w2 (v6 @w5 (v6 @he (v6 @hn (v6 @hw (v6 @ng (v6 @nf (v6 @gZ (v6 @dM (v6 @bP (v6 @bl @J))))))))))))
   repeat' ((first |(with_reducible refine .guard (fun hb =>?_) (fun hb =>?_) <;>try simp only[hb])|refine U.aX (by decide +kernel) rfl fun K hK =>?_|refine .flat _ (yS _ _) rfl ?_|(refine .aQ [0,1,2,4,6,7,8,9,10,11,17,31] hK ?_;clear hK K)|(with_reducible refine .done (hK _ ?_);clear hK K)|refine U.of rfl ?_|(with_reducible refine au.aU (fun h =>?_) (fun h =>?_) <;>try simp only[h])) <;>try simp only[aZ,R,←hh,zy0,Nat.reduceEqDiff,reduceIte,Nat.reduceBEq])
   all_goals clear R
  ·refine ⟨(i,h),⟨by simp only;omega,by simp only;omega,h3,fun k hk hkl =>?_⟩,by simp only;omega,?_⟩
   ·simp only at hk;cases hbk:before (ab l k).bt a with
    |false=>rfl
    |true =>
     by_cases e:k=h
     ·rw[e,hb] at hbk;cases hbk
     ·have:=uw (tI hs (show h<k by omega) hkl) hbk;rw[this] at hb;cases hb
   ·refine aF.bY ?_ ?_ ?_ ?_ <;>simp[aV,bO,bM,br,aq,aW,ct,I.only,I.b8,ah.only,bA]
  ·refine ⟨(h+1,j),⟨by simp only;omega,h2,fun k hk =>?_,h4⟩,by simp only;omega,?_⟩
   ·simp only at hk;by_cases e:k=h
    ·rw[e];exact hb
    ·cases hbk:before (ab l k).bt a with
     |true=>rfl
     |false =>
      have:=uw (tI hs (show k<h by omega) hhl) hb;rw[this] at hbk;cases hbk
   ·refine aF.bY ?_ ?_ ?_ ?_ <;>simp[aV,bO,bM,br,aq,aW,ct,I.only,I.b8,ah.only,bA]
 ·have hij:i=j:=by omega
  subst hij;have hc:=ib hlt;have hp:jF l a=i:=xR h2 h3 fun h=>h4 i (zz6 _) h;have hh:=Jj hs a;rw[hp] at hh;rw[hp,hh];by_cases hil:i<l.length
  ·have hc2:=gI hil;have he:=fun A=>kz (A:=A) hil;have hz:=UB (ab l i).bt a;have hd:decide (i<l.length)=true:=decide_eq_true hil;have R:=v6 @hc (v6 @hc2 (v6 @he (v6 @hz (v6 @hd (v6 @gZ (v6 @dM (v6 @bP (v6 @bl @J))))))))
   repeat' ((first |(with_reducible refine .guard (fun hb =>?_) (fun hb =>?_) <;>try simp only[hb])|refine U.aX (by decide +kernel) rfl fun K hK =>?_|refine .flat _ (yS _ _) rfl ?_|(refine .aQ [0,1,2,4,6,7,8,9,10,11,17,31] hK ?_;clear hK K)|(with_reducible refine .done (hK _ ?_);clear hK K)|refine U.of rfl ?_|(with_reducible refine au.aU (fun h =>?_) (fun h =>?_) <;>try simp only[h])) <;>try simp only[aZ,R,zy0,Nat.reduceEqDiff,reduceIte,Nat.reduceBEq])
   all_goals clear R
   all_goals simp
  ·have hc2:=ib hil;have hd:decide (i<l.length)=false:=decide_eq_false hil;have R:=v6 @hc (v6 @hc2 (v6 @hd (v6 @gZ (v6 @bP (v6 @bl @J)))))
   repeat' ((first |(with_reducible refine .guard (fun hb =>?_) (fun hb =>?_) <;>try simp only[hb])|refine U.aX (by decide +kernel) rfl fun K hK =>?_|(refine .aQ [0,1,2,4,6,7,8,9,10,11,17,31] hK ?_;clear hK K)|(with_reducible refine .done (hK _ ?_);clear hK K)|refine U.of rfl ?_|(with_reducible refine au.aU (fun h =>?_) (fun h =>?_) <;>try simp only[h])) <;>try simp only[aZ,R,Nat.reduceEqDiff,reduceIte,Nat.reduceBEq])
   all_goals clear R
   all_goals rfl
theorem Oa(l:List aw)(a:Item)(hs:oD l)(hl:l.length≤1000):aC Tryz.prog 103 [enc l,enc a] (.tuple [enc (jF l a:Int),enc (l8 l a)]):=by
 have hF:=Ov l a hs hl;refine aC.bu Tryz.func103 QS SE UH (t7 rfl) (fun hwf W0 D0 E1 =>?_);simp only[zQ,KX,bj,zz4];clear hwf;have R:=v6 @gZ (v6 @bP (v6 @bl @J))
 repeat' ((first |refine U.aX (by decide +kernel) rfl fun K hK =>?_|refine .lead _ (hF) ?_|(refine .aQ [0,1,3,4,5] hK ?_;clear hK K)|(with_reducible refine .done (hK _ ?_);clear hK K)|refine U.of rfl ?_|(with_reducible refine au.aU (fun h =>?_) (fun h =>?_) <;>try simp only[h])) <;>try simp only[aZ,R,Nat.reduceEqDiff,reduceIte,Nat.reduceBEq])
 all_goals clear R
def rh(l:List aw)(a:Item):List aw×Int:=if dC l then (if l8 l a then (dX l (jF l a),0) else ([],3)) else ([],41)
theorem Pe(l:List aw)(a:Item):aC Tryz.prog 38 [enc l,enc a] (.tuple [enc (rh l a).1,enc (rh l a).2]):=by
 have hF:=za l;refine aC.bu Tryz.func38 R8 TX VZ (t7 rfl) (fun hwf W0 D0 E1 =>?_);simp only[Bi,Mg,bj,zz4];clear hwf;simp only[rh];rcases q1:dC l
 ·rw[q1,if_neg (by decide)] at hF;have R:=v6 @bl @J
  repeat' ((first |refine U.aX (by decide +kernel) rfl fun K hK =>?_|refine .flat _ (hF) rfl ?_|(refine .aQ [0,1,3,4,5,6,7,8,12,21] hK ?_;clear hK K)|(with_reducible refine .done (hK _ ?_);clear hK K)|refine U.of rfl ?_|(with_reducible refine au.aU (fun h =>?_) (fun h =>?_) <;>try simp only[h])) <;>try simp only[aZ,R,Nat.reduceEqDiff,reduceIte,Int.reduceBNe,Nat.reduceBEq])
  all_goals clear R
  all_goals rfl
 rw[q1,if_pos rfl] at hF;have hll:=nY q1;have hG:=Oa l a (xD q1) (by omega);have hh:=Jj (xD q1) a;rcases q2:l8 l a
 ·rw[q2] at hG;have R:=v6 @bl @J
  repeat' ((first |refine U.aX (by decide +kernel) rfl fun K hK =>?_|refine .flat _ (hF) rfl ?_|refine .lead _ (hG) ?_|(refine .aQ [0,1,3,4,5,6,7,8,12,21] hK ?_;clear hK K)|(with_reducible refine .done (hK _ ?_);clear hK K)|refine U.of rfl ?_|(with_reducible refine au.aU (fun h =>?_) (fun h =>?_) <;>try simp only[h])) <;>try simp only[aZ,R,Nat.reduceEqDiff,reduceIte,Int.reduceBNe,Nat.reduceBEq])
  all_goals clear R
  all_goals rfl
 ·rw[q2] at hG hh;have hp:jF l a<l.length:=by
   by_cases h:jF l a<l.length
   ·exact h
   ·simp[h] at hh
  have hD:=zb l (jF l a) hp hll;have R:=v6 @bl @J
  repeat' ((first |refine U.aX (by decide +kernel) rfl fun K hK =>?_|refine .flat _ (hF) rfl ?_|refine .lead _ (hG) ?_|refine .lead _ (hD) ?_|(refine .aQ [0,1,3,4,5,6,7,8,12,21] hK ?_;clear hK K)|(with_reducible refine .done (hK _ ?_);clear hK K)|refine U.of rfl ?_|(with_reducible refine au.aU (fun h =>?_) (fun h =>?_) <;>try simp only[h])) <;>try simp only[aZ,R,Nat.reduceEqDiff,reduceIte,Int.reduceBNe,Nat.reduceBEq])
  all_goals clear R
def nG(l:List aw)(ss:List Bool)(day:Int):List aw:=((l.zip ss).filter fun p=>p.2&&(decide (p.1.kind≠0)&&decide (p.1.day≤day))).map (·.1)
def nP(x:aw)(o:List aw):List aw:=(o.takeWhile fun a=>decide (a.day≤x.day))++x::o.dropWhile fun a=>decide (a.day≤x.day)
def yq(l:List aw):List aw:=l.foldl (fun o x=>nP x o) []
theorem aeY(l:List aw)(i:Nat)(o:List Nat):(iJ (fun i=>(ab l i).day) i o).map (ab l)=nP (ab l i) (o.map (ab l)):=by
 simp only[iJ,nP,zx6,zz9,List.takeWhile_map,List.dropWhile_map];rfl
theorem ahm(l:List aw)(o:List Nat):(KG (fun i=>(ab l i).day) o).map (ab l)=yq (o.map (ab l)):=by
 have:∀ (o a:List Nat),(o.foldl (fun o i=>iJ (fun i=>(ab l i).day) i o) a).map (ab l)=(o.map (ab l)).foldl (fun o x=>nP x o) (a.map (ab l)):=by
  intro o
  induction o with
  |nil=>intro a;rfl
  |cons i o ih=>intro a;rw[List.foldl_cons,ih,aeY];rfl
 exact this o []
def pI(add:List aR→aR→List aR)(bs:List aR)(es:List aw):List aR:=es.foldl (fun bs x=>(ef add bs x).getD bs) bs
theorem KP(add:List aR→aR→List aR)(l:List aw):∀ (o:List Nat) (s:List aR×List Nat),(o.foldl (mH add l) s).1=pI add s.1 (o.map (ab l))
 | [],_=>rfl
 |i::o,s=>by
  rw[List.foldl_cons,KP add l o];simp only[pI,zz9,List.foldl_cons,mH];cases ef add s.1 (ab l i) <;>rfl
theorem aeV(l:List aw)(day known:Int):dw l day known=pI eD [] (yq ((iA l day known).map (ab l))):=by
 rw[←ahm];exact KP eD l (jm l day known) ([],[])
theorem MX(q:aw→Bool):∀ (l:List aw) (ss:List Bool),ss.length=l.length→((List.range l.length).filter fun i=>ss.getD i false&&q (ab l i)).map (ab l)=((l.zip ss).filter fun p=>p.2&&q p.1).map (·.1)
 | [],ss,h=>by simp
 |x::l,[],h=>by simp at h
 |x::l,s::ss,h=>by
  have ih:=MX q l ss (by simpa using h);have e:(List.map Nat.succ (List.range l.length)).filter (fun i=>(s::ss).getD i false&&q (ab (x::l) i))=((List.range l.length).filter (fun i=>ss.getD i false&&q (ab l i))).map Nat.succ:=by
   rw[List.filter_map];rfl
  have e2:∀ ay:List Nat,(ay.map Nat.succ).map (ab (x::l))=ay.map (ab l):=fun ay=>by rw[List.map_map];rfl
  have c:((s::ss).getD 0 false&&q (ab (x::l) 0))=(s&&q x):=rfl;rw[zv5,List.range_succ_eq_map,zw2,List.zip_cons_cons,zw2,e,c];cases s&&q x
  ·simp only[zz7,if_false,e2,ih]
  ·simp only[if_true,zz9,e2,ih];rfl
theorem XJ(l:List aw)(day known:Int):(iA l day known).map (ab l)=nG l (iX l known) day:=by
 have h:=MX (fun x=>decide (x.kind≠0)&&decide (x.day≤day)) l (iX l known) (NA l known);simp only[iA,gv,List.filter_filter];rw[nG,←h]
 congr 1
 refine List.filter_congr fun i _ =>?_;exact Bool.and_comm _ _
theorem aiW{b c:aR}{y:aw}(h:iY b y=some c):c.no=b.no:=by
 simp only[iY] at h
 (repeat' split at h) <;>first | (cases h;done) | (cases h;rfl)
theorem PZ(add:List aR→aR→List aR){bs:List aR}(hd:(bs.map (·.no)).Nodup){y:aw}(hk:¬(y.kind=1∨y.kind=2)) :
  (ef add bs y).getD bs=bs.map fun c=>if c.no=y.dW then (iY c y).getD c else c:=by
 simp only[ef,if_neg hk];cases hg:dp bs y.dW with
 |none =>
  have hn:=wm.1 hg;simp only[Option.getD_none]
  symm
  rw[List.map_congr_left (g:=id) fun c hc =>?_,List.map_id];rw[if_neg fun e=>hn (zx5.2 ⟨c,hc,e⟩)];rfl
 |some b =>
  obtain ⟨hb,hbn⟩:=Ja hg;have huniq:∀ c∈bs,c.no=y.dW→c=b:=fun c hc e=>by
   have:=ael hd hc;rw[e,hg] at this;exact (Option.some.inj this).symm
  cases ht:iY b y with
  |none =>
   simp only[Option.map_none,Option.getD_none,ht]
   symm
   rw[List.map_congr_left (g:=id) fun c hc =>?_,List.map_id];by_cases e:c.no=y.dW
   ·rw[if_pos e,huniq c hc e,ht];rfl
   ·rw[if_neg e];rfl
  |some d =>
   have hdn:d.no=y.dW:=(aiW ht).trans hbn;simp only[ht,zy3,Option.getD_some,lM,hdn];refine List.map_congr_left fun c hc =>?_;by_cases e:c.no=y.dW
   ·rw[if_pos e,if_pos e,huniq c hc e,ht];rfl
   ·rw[if_neg e,if_neg e]
theorem O4(a b:List Item):aC Tryz.prog 21 [enc a,enc b] (enc (decide (a=b))):=by
 refine aC.bu Tryz.func21 RT TI VK (t7 rfl) (fun hwf W0 D0 E1 =>?_);simp only[A2,L1,bj,zz4];have hlen:a.length≤maxLen:=((kM a).1 hwf.1).1;simp only[maxLen] at hlen;clear hwf;by_cases hl:a.length=b.length
 case neg =>
  have hn:((a.length:Int) != (b.length:Int))=true:=by simp;omega
  have R:=v6 @hn (v6 @bP (v6 @bl @J))
  repeat' ((first |refine U.aX (by decide +kernel) rfl fun K hK =>?_|(refine .aQ [0,1,4,5,10,14,25] hK ?_;clear hK K)|(with_reducible refine .done (hK _ ?_);clear hK K)|refine U.of rfl ?_|(with_reducible refine au.aU (fun h =>?_) (fun h =>?_) <;>try simp only[h])) <;>try simp only[aZ,R,simprocAttr])
  all_goals clear R
  have:¬ a=b:=fun e=>hl (by rw[e]);simp[this]
 have hn:((a.length:Int) != (b.length:Int))=false:=by simp;omega
 have R:=v6 @hn (v6 @bP (v6 @bl @J))
 repeat' ((first |refine U.aX (by decide +kernel) rfl fun K hK =>?_|(refine .aQ [0,1,4,5,10,14,25] hK ?_;clear hK K)|(with_reducible refine .done (hK _ ?_);clear hK K)|refine U.of rfl ?_|(with_reducible refine au.aU (fun h =>?_) (fun h =>?_) <;>try simp only[h])) <;>try simp only[aZ,R,simprocAttr])
 all_goals clear R
 refine U.loop (fun i:Nat=>ar [(0,enc a),(1,enc b),(5,.int .i64 i)] []) (fun i=>i≤a.length∧∀ k,k<i→a[k]?=b[k]?) (fun i=>a.length-i) 0 ⟨zv4 _,fun k h=>by omega⟩ ?_ (fun i hi =>?_)
 ·refine aF.bY ?_ ?_ ?_ ?_ <;>simp[aV,bO,bM,br,aW,I.only,bA]
 obtain ⟨hi1,hi2⟩:=hi;by_cases hlt:i<a.length
 ·have hc:=gI hlt;have he:=fun A=>fJ (A:=A) 2 hlt rfl;have hlt2:i<b.length:=by omega
  have he2:=fun A=>fJ (A:=A) 2 hlt2 rfl;have hw:=gb (i:=i) (by omega);rcases hp:decide (a[i]=b[i])
  ·have R:=v6 @hc (v6 @he (v6 @he2 (v6 @hp (v6 @kC (v6 @bP (v6 @bl @J))))))
   repeat' ((first |refine U.aX (by decide +kernel) rfl fun K hK =>?_|(refine .aQ [0,1,4,5,10,14,25] hK ?_;clear hK K)|(with_reducible refine .done (hK _ ?_);clear hK K)|refine U.of rfl ?_|(with_reducible refine au.aU (fun h =>?_) (fun h =>?_) <;>try simp only[h])) <;>try simp only[aZ,R,simprocAttr])
   all_goals clear R
   have:¬ a=b:=fun e=>by subst e;simp at hp
   simp[this]
  ·have R:=v6 @hc (v6 @he (v6 @he2 (v6 @hp (v6 @hw (v6 @kC (v6 @bP (v6 @bl @J)))))))
   repeat' ((first |refine U.aX (by decide +kernel) rfl fun K hK =>?_|(refine .aQ [0,1,4,5,10,14,25] hK ?_;clear hK K)|(with_reducible refine .done (hK _ ?_);clear hK K)|refine U.of rfl ?_|(with_reducible refine au.aU (fun h =>?_) (fun h =>?_) <;>try simp only[h])) <;>try simp only[aZ,R,simprocAttr])
   all_goals clear R
   refine ⟨i+1,⟨by omega,fun k hk =>?_⟩,by omega,?_⟩
   ·by_cases e:k=i
    ·subst e;have:a[k]=b[k]:=by simpa using hp
     simp[hlt,hlt2,this]
    ·exact hi2 k (by omega)
   ·refine aF.bY ?_ ?_ ?_ ?_ <;>simp[aV,bO,bM,br,aW,I.only,bA]
 ·have hc:=ib hlt;have R:=v6 @hc (v6 @bP (v6 @bl @J))
  repeat' ((first |refine U.aX (by decide +kernel) rfl fun K hK =>?_|(refine .aQ [0,1,4,5,10,14,25] hK ?_;clear hK K)|(with_reducible refine .done (hK _ ?_);clear hK K)|refine U.of rfl ?_|(with_reducible refine au.aU (fun h =>?_) (fun h =>?_) <;>try simp only[h])) <;>try simp only[aZ,R,simprocAttr])
  all_goals clear R
  have:a=b:=List.ext_getElem? fun k=>by
   by_cases hk:k<i
   ·exact hi2 k hk
   ·rw[List.getElem?_eq_none (by omega),List.getElem?_eq_none (by omega)]
  simp[this]
def jt(a b c d e f:Int):aI 6 Int:=⟨[a,b,c,d,e,f],rfl⟩
def P1(a b c d e:Int):aI 5 Int:=⟨[a,b,c,d,e],rfl⟩
def lj(n k d kn b eV s o:Int)(r:aI 6 Int)(f:Int):aw:=⟨⟨0,n⟩,k,d,kn,b,eV,s,o,r,⟨0,f⟩⟩
def iD:List aw:=[lj 0 1 1 1 10 0 3 2 (jt 0 0 0 0 0 0) 0,lj 1 1 5 5 11 10 3 2 (jt 0 0 0 0 0 0) 0,lj 2 2 6 6 20 0 3 0 (jt 0 0 0 0 0 0) 0,lj 3 4 6 6 20 0 0 0 (jt 31 1 1 1 1 31) 0,lj 4 3 7 7 10 0 0 1 (jt 0 0 0 0 0 0) 0,
 lj 5 4 6 9 20 0 0 0 (jt 24 1 1 1 1 31) 0,lj 6 5 10 10 20 0 0 3 (jt 0 0 0 0 0 0) 0,lj 7 4 8 11 11 0 0 0 (jt 1 1 1 1 1 1) 0,lj 8 6 12 12 10 0 0 0 (jt 0 0 0 0 0 0) 0,lj 9 0 0 14 0 0 0 0 (jt 0 0 0 0 0 0) 5]
def ln:bQ:=⟨P1 1 3 4 24 24,0,[⟨1,jt 0 0 0 0 0 0⟩,⟨2,jt 2 0 0 0 0 0⟩,⟨3,jt 3 0 0 0 0 2⟩]⟩
theorem Pk:aC Tryz.prog 81 [] (enc iD):=by
 refine aC.bu Tryz.func81 Sj Ua Wa (t7 rfl) (fun hwf W0 D0 E1 =>?_);simp only[Bu,Mr,bj];clear hwf;refine .ak (by decide +kernel) fun K hK =>?_;simp only[Ib,J,simprocAttr];refine .done (hK _ ?_);clear hK K;refine .ak (by decide +kernel) fun K hK =>?_;simp only[Ic,J,simprocAttr]
 try simp only[dR,I.cd,I.size,I.sizes,List.set_cons_zero,List.set_cons_succ,List.getElem?_cons_zero,List.getElem?_cons_succ,and_self,J,simprocAttr]
 simp only[gY];rw[if_pos ⟨by rfl,by rfl⟩]
 try simp only[J,simprocAttr]
 refine .done (hK _ ?_);clear hK K;refine U.ret ?_;simp only[J,simprocAttr]
 try simp only[zw3,J,simprocAttr]
 rfl
theorem Pl:aC Tryz.prog 82 [] (enc ln):=by
 refine aC.bu Tryz.func82 Sk Ub Wb (t7 rfl) (fun hwf W0 D0 E1 =>?_);simp only[Bv,Ms,bj];clear hwf;refine .ak (by decide +kernel) fun K hK =>?_;simp only[Ie,J,simprocAttr];refine .done (hK _ ?_);clear hK K;refine .ak (by decide +kernel) fun K hK =>?_;simp only[If,J,simprocAttr]
 try simp only[dR,I.cd,I.size,I.sizes,List.set_cons_zero,List.set_cons_succ,List.getElem?_cons_zero,List.getElem?_cons_succ,and_self,J,simprocAttr]
 simp only[gY];rw[if_pos ⟨by rfl,by rfl⟩]
 try simp only[dR,I.cd,I.size,I.sizes,List.set_cons_zero,List.set_cons_succ,List.getElem?_cons_zero,List.getElem?_cons_succ,and_self,J,simprocAttr]
 rw[eg (by rfl) (by rfl) (by rfl)]
 try simp only[fR,J,simprocAttr]
 refine .done (hK _ ?_);clear hK K;refine U.ret ?_;simp only[J,simprocAttr];rw[if_pos (by rfl)]
 try simp only[zw3,J,simprocAttr]
 rfl
def nQ(x:Int):List Int→List Int
 | []=>[x]
 |y::l=>if x≤y then x::y::l else y::nQ x l
def ly:List Int→List Int
 | []=>[]
 |x::l=>nQ x (ly l)
theorem wI(x:Int):∀ l,(nQ x l).Perm (x::l)
 | []=>.refl _
 |y::l=>by
  simp only[nQ];split
  ·exact .refl _
  ·exact ((wI x l).cons y).trans (.swap x y l)
theorem Jq(x:Int):∀ l:List Int,l.Pairwise (· ≤ ·)→(nQ x l).Pairwise (· ≤ ·)
 | [],_=>by simp[nQ]
 |y::l,h=>by
  obtain ⟨h1,h2⟩:=List.pairwise_cons.1 h;simp only[nQ];split
  ·rename_i hxy;refine List.pairwise_cons.2 ⟨fun z hz =>?_,h⟩;rcases zw9.1 hz with rfl | hz
   ·exact hxy
   ·have:=h1 z hz;omega
  ·refine List.pairwise_cons.2 ⟨fun z hz =>?_,Jq x l h2⟩;rcases zw9.1 ((wI x l).mem_iff.1 hz) with rfl | hz
   ·omega
   ·exact h1 z hz
theorem Jw:∀ l,(ly l).Perm l
 | []=>.refl _
 |x::l=>(wI x _).trans ((Jw l).cons x)
theorem Jx:∀ l,(ly l).Pairwise (· ≤ ·)
 | []=>.nil
 |x::l=>Jq x _ (Jx l)
theorem aiz{a b:List Int}(ha:a.Pairwise (· ≤ ·))(hb:b.Pairwise (· ≤ ·))(h:a.Perm b):a=b :=
 List.Perm.eq_of_pairwise (fun x y _ _ h k=>Int.le_antisymm h k) ha hb h
theorem aiw(l:List Int):(dZ l).Pairwise (· ≤ ·):=by
 have hx:=List.pairwise_mergeSort (le:=fun x y:Int=>decide (x≤y)) (by intro a b c;simp;omega) (by intro a b;simp;omega) l;exact hx.imp fun {a b} h=>by simpa using h
theorem aiu(l:List Int):(dZ l).Perm l:=List.mergeSort_perm _ _
theorem Nl(l:List Int):dZ l=ly l:=aiz (aiw l) (Jx l) ((aiu l).trans (Jw l).symm)
theorem XU:sx iD 10 6 7=(2,0):=by decide +kernel
theorem XV:jv ln iD 20 9=([3],0):=by decide +kernel
theorem XW:jv ln iD 20 14=([1,2,3],0):=by decide +kernel
theorem XX:rl ln iD 11=([11],0):=by
 simp only[rl,Nl];decide +kernel
theorem XY:rS iD 2 3 7 7=(1,0):=by decide +kernel
theorem XZ:pZ iD 12 12=([11,20],0):=by
 simp only[pZ,Nl];decide +kernel
theorem X0:tC ln iD 20 9=([⟨0,2⟩,⟨0,5⟩],0):=by decide +kernel
theorem uP{p:Nat→Bool} : ∀ n,(∀ i,i<n→p i=false)→dn p n=0
 |0,_=>rfl
 |n+1,h=>by simp only[dn,uP n fun i hi=>h i (by omega),h n (by omega)];rfl
theorem UD(p q:Nat→Bool)(n:Nat)(h:∀ i,i<n→p i=true→q i=true):dn p n≤dn q n:=by
 have:=uN p q (fun _=>false) n fun i hi hp=>.inl (h i hi hp);rw[uP (p:=fun _=>false) n fun _ _=>rfl] at this;omega
theorem B4(k:Nat):∀ n,dn (fun i=>i==k) n=if k<n then 1 else 0
 |0=>by simp[dn]
 |n+1=>by
  simp only[dn,B4 k n];by_cases h:n=k
  ·subst h;simp
  ·have h2:(n==k)=false:=by simp[h]
   simp only[h2,zz7,if_false];by_cases h3:k<n
   ·rw[if_pos h3,if_pos (by omega)]
   ·rw[if_neg h3,if_neg (by omega)]
theorem UC(p q:Nat→Bool)(k n:Nat)(h:∀ i,i<n→i≠k→p i=true→q i=true):dn p n≤dn q n+1:=by
 have:=uN p q (fun i=>i==k) n fun i hi hp=>by
  by_cases e:i=k
  ·right;simp[e]
  ·exact .inl (h i hi e hp)
 rw[B4] at this;split at this <;>omega
theorem xF{r:aI 6 Int}(h:fb r=true){j:Nat}(hj:j<6):1≤r.g j∧r.g j≤31:=by
 simp only[fb,zy2,zx4] at h;have:=h j hj;simpa only[cm,zz2,decide_eq_true_eq] using this
theorem Kn{r:aI 6 Int}(h:∀ j,j<6→1≤r.g j∧r.g j≤31):fb r=true:=by
 simp only[fb,zy2,zx4];intro j hj;simp[cm,h j hj]
def qG(r:aI 6 Int)(j:Nat):Prop:=∃ k:Nat,k<5∧r.g j=shl 1 k
theorem Ko{r:aI 6 Int}(h:∀ j,j<6→qG r j):fb r=true:=Kn fun j hj=>by
 obtain ⟨k,hk,e⟩:=h j hj;rw[e];exact aim ⟨k,hk⟩
theorem JW{w:Int} : ∀ n,∀ x∈gm w n,fj w x.toNat=true
 |0=>by simp[gm]
 |n+1=>by
  intro x hx;simp only[gm,zy7] at hx;rcases hx with hx | hx
  ·exact JW n x hx
  ·split at hx
   ·rename_i h;simp only[List.mem_singleton] at hx;subst hx;simpa using h
   ·cases hx
theorem NX{w:aI 5 Int}{a:aI 6 Int}(hw:eP w=true)(ha:cZ a=true)(c:List Int){j:Nat}(hj:j<6):∃ k:Nat,k<5∧ri w a c j=shl 1 k∧fj (w.g (a.g j).toNat) k=true:=by
 have a1:=mh ha hj;have a2:=xH hw (show (a.g j).toNat<5 by omega);have hp:0<(iU w a j).length:=List.length_pos_of_mem (xe a2.2 5 (by omega));have hc:=Ca c j hp;have hm:(iU w a j).getD (lb c j (iU w a j).length) 0∈iU w a j:=by rw[zz1,zz8 hc];exact zy6 hc
 have h1:=xc 5 _ hm;exact ⟨((iU w a j).getD (lb c j (iU w a j).length) 0).toNat,by omega,rfl,JW 5 _ hm⟩
theorem yH(w:aI 5 Int)(a:aI 6 Int)(c:List Int):∀ n,n≤6→∀ j,j<n→(iu w a c n).g j=ri w a c j
 |0,_=>fun j h=>absurd h (by omega)
 |n+1,hn=>fun j hj=>by
  simp only[iu];rw[l7 _ _ _ _ (by omega)];split
  ·rename_i e;subst e;rfl
  ·exact yH w a c n (by omega) j (by omega)
theorem NY{w:aI 5 Int}{a:aI 6 Int}(hw:eP w=true)(ha:cZ a=true)(c:List Int):∀ j,j<6→qG (iu w a c 6) j:=fun j hj=>by
 obtain ⟨k,hk,e,_⟩:=NX hw ha c hj;exact ⟨k,hk,by rw[yH w a c 6 (zz6 _) j hj,e]⟩
theorem ai7{w:aI 5 Int}{a:aI 6 Int}(hw:eP w=true)(ha:cZ a=true)(c:List Int):eE w a (iu w a c 6)=0:=by
 have:dn (hE w a (iu w a c 6)) 6=0:=uP 6 fun j hj=>by
  obtain ⟨k,hk,e,hb⟩:=NX hw ha c hj;simp only[hE,yH w a c 6 (zz6 _) j hj,e];simpa[fj] using hb
 simp only[eE,this];rfl
def iE(c:List Int)(p q:Int)(x:aI 6 Int):Nat→aI 6 Int
 |0=>x
 |i+1=>gM (iE c p q x i) (bt c (i+p)%6).toNat (shl 1 (bt c (i+q)%5).toNat)
theorem pk(n:Int):0≤n%6∧n%6<6:=⟨Int.emod_nonneg _ (by decide),Int.emod_lt_of_pos _ (by decide)⟩
theorem J0(n:Int):0≤n%5∧n%5<5:=⟨Int.emod_nonneg _ (by decide),Int.emod_lt_of_pos _ (by decide)⟩
theorem xg(n:Int):0≤n%32∧n%32<32:=⟨Int.emod_nonneg _ (by decide),Int.emod_lt_of_pos _ (by decide)⟩
theorem ve{c:List Int}{p q:Int}{x:aI 6 Int}(h:∀ j,j<6→qG x j):∀ n,∀ j,j<6→qG (iE c p q x n) j
 |0=>h
 |n+1=>fun j hj=>by
  have h6:=pk (bt c (n+p));have h5:=J0 (bt c (n+q));simp only[iE,qG];rw[l7 _ _ _ _ (by omega)];split
  ·exact ⟨_,by omega,rfl⟩
  ·exact ve h n j hj
theorem aiZ(w:aI 5 Int)(a x:aI 6 Int){k:Nat}(hk:k<6)(v:Int):eE w a (gM x k v)≤eE w a x+1:=by
 have:=UC (hE w a (gM x k v)) (hE w a x) k 6 fun i hi e h=>by
  simp only[hE] at h ⊢;rw[l7 _ _ _ _ hk,if_neg (fun h=>e h.symm)] at h;exact h
 simp only[eE];omega
theorem CJ(w:aI 5 Int)(a:aI 6 Int)(c:List Int)(p q:Int)(x:aI 6 Int):∀ n:Nat,eE w a (iE c p q x n)≤eE w a x+n
 |0=>by simp[iE]
 |n+1=>by
  have h6:=pk (bt c (n+p));have:=CJ w a c p q x n;have:=aiZ w a (iE c p q x n) (k:=(bt c (n+p)%6).toNat) (by omega) (shl 1 (bt c (n+q)%5).toNat);simp only[iE];omega
theorem zK:∀ y z:Fin 32,0≤gO (y.1:Int) (z.1:Int)∧gO (y.1:Int) (z.1:Int)≤31∧((y.1:Int)≠0→gO (y.1:Int) (z.1:Int)≠0):=by decide +kernel
theorem QE:∀ y z:Fin 32,∀ k:Fin 5,fj (y.1:Int) k.1=true→fj (gO (y.1:Int) (z.1:Int)) k.1=true:=by decide +kernel
theorem zC:∀ x y:Fin 32,kS (x.1:Int) (y.1:Int)=0↔∀ k:Fin 5,¬ (fj (x.1:Int) k.1=true∧fj (y.1:Int) k.1=true):=by decide +kernel
theorem QF{y z:Int}(hy:1≤y∧y≤31)(hz:0≤z∧z<32):1≤gO y z∧gO y z≤31:=by
 have:=zK ⟨y.toNat,by omega⟩ ⟨z.toNat,by omega⟩;simp only[show ((y.toNat:Nat):Int)=y by omega,show ((z.toNat:Nat):Int)=z by omega] at this;have:=this.2.2 (by omega);omega
theorem QG{x y z:Int}(hx:0≤x∧x≤31)(hy:0≤y∧y≤31)(hz:0≤z∧z<32)(h:kS x (gO y z)=0):kS x y=0:=by
 have b1:=zK ⟨y.toNat,by omega⟩ ⟨z.toNat,by omega⟩;have b2:=QE ⟨y.toNat,by omega⟩ ⟨z.toNat,by omega⟩;have b3:=zC ⟨x.toNat,by omega⟩ ⟨y.toNat,by omega⟩;simp only[show ((y.toNat:Nat):Int)=y by omega,show ((z.toNat:Nat):Int)=z by omega] at b1 b2;have b4:=zC ⟨x.toNat,by omega⟩ ⟨(gO y z).toNat,by omega⟩;simp only[show ((x.toNat:Nat):Int)=x by omega,show ((y.toNat:Nat):Int)=y by omega] at b3;simp only[show ((x.toNat:Nat):Int)=x by omega,show (((gO y z).toNat:Nat):Int)=gO y z by omega] at b4;exact b3.2 fun k hk=>b4.1 h k ⟨hk.1,b2 k hk.2⟩
def gJ(c:List Int)(x:aI 6 Int):Nat→aI 6 Int
 |0=>x
 |i+1=>gM (gJ c x i) (bt c (i+7)%6).toNat (gO ((gJ c x i).g (bt c (i+7)%6).toNat) (bt c (i+3)%32))
theorem xh{c:List Int}{x:aI 6 Int}(h:fb x=true):∀ n,fb (gJ c x n)=true
 |0=>h
 |n+1=>Kn fun j hj=>by
  have h6:=pk (bt c (n+7));have ih:=xh (c:=c) h n;simp only[gJ];rw[l7 _ _ _ _ (by omega)];split
  ·exact QF (xF ih (by omega)) (xg _)
  ·exact xF ih hj
theorem J1{w:aI 5 Int}{a:aI 6 Int}(hw:eP w=true)(ha:cZ a=true){c:List Int}{x:aI 6 Int}(h:fb x=true):∀ n,eE w a (gJ c x n)≤eE w a x
 |0=>by simp[gJ]
 |n+1=>by
  have h6:=pk (bt c (n+7));have ih:=J1 hw ha (c:=c) h n;have ok:=xh (c:=c) h n;have:=UD (hE w a (gJ c x (n+1))) (hE w a (gJ c x n)) 6 fun i hi hc=>by
   have s:=(aii hw ha hi).1;simp only[hE,gJ,beq_iff_eq] at hc ⊢;rw[l7 _ _ _ _ (by omega)] at hc;split at hc
   ·rename_i e;rw[e] at hc;have g:=xF ok hi;exact QG s (by omega) (xg _) hc
   ·exact hc
  simp only[eE] at ih ⊢;omega
def pL(m:bQ)(a:aI 6 Int)(c:List Int):aI 6 Int:=gJ c (iE c 2 5 (iu m.c5 a c 6) m.dh.toNat) (bt c 1%4).toNat
theorem Na{m:bQ}{a:aI 6 Int}(hw:eP m.c5=true)(ha:cZ a=true)(c:List Int):fb (pL m a c)=true :=
 xh (Ko (ve (NY hw ha c) _)) _
theorem aid{m:bQ}{a:aI 6 Int}(hw:eP m.c5=true)(ha:cZ a=true)(h0:0≤m.dh)(c:List Int):eE m.c5 a (pL m a c)≤m.dh:=by
 have h1:=J1 hw ha (c:=c) (Ko (ve (c:=c) (p:=2) (q:=5) (NY hw ha c) m.dh.toNat)) (bt c 1%4).toNat;have h2:=CJ m.c5 a c 2 5 (iu m.c5 a c 6) m.dh.toNat;rw[ai7 hw ha] at h2;simp only[pL];omega
theorem ag1{m:bQ}(h:ed m=true):eP m.c5=true∧0≤m.dh∧m.dh≤2:=by
 simp only[ed,zz2,cm,decide_eq_true_eq] at h;exact ⟨h.1,h.2.1.1,h.2.1.2⟩
theorem Jh{m:bQ}(h:ed m=true){k:Nat}(hk:k<m.given.length):cZ (cw m k).mark=true:=by rw[←ic hk];exact Kl h _ (zy6 hk)
theorem Wo(c:List Int)(i:Nat){n:Nat}(hn:0<n)(h5:n≤1000):bt c i%(n:Int)=((lb c i n:Nat):Int):=by
 unfold lb bt;split
 ·rename_i h;subst h;simp
 ·rename_i h;have hp:0<c.length:=List.length_pos_iff.2 h;have e:((i:Int)%(c.length:Int)).toNat=i%c.length:=by omega
  rw[if_pos hp,e];generalize c.getD (i%c.length) 0=x;obtain ⟨_,h2⟩:=yD x n (by omega) (by omega);rw[h2];have:=Int.emod_nonneg x (show (n:Int)≠0 by omega);omega
theorem Pr(w:aI 5 Int)(a:aI 6 Int)(cuts:List Int)(hl:cuts.length≤4611686018427387904):aC Tryz.prog 98 [enc w,enc a,enc cuts] (.tuple [enc (oB w a cuts).1,enc (oB w a cuts).2]):=by
 refine aC.bu Tryz.func98 Sv Ul Wl (t7 rfl) (fun hwf W0 D0 E1 =>?_);simp only[BF,MC,bj,zz4,Nat.reduceAdd];refine .ak (by decide +kernel) fun K hK =>?_;simp only[IQ,J,simprocAttr]
 try simp only[dz,nH,J,simprocAttr]
 refine .done (hK _ ?_);clear hK K;refine U.seq (U.seq ?_);refine .bd (by decide +kernel) fun K hK =>?_;simp only[IS,J,simprocAttr]
 try simp only[cv,cF,J,simprocAttr]
 refine .flat _ (zd w) rfl ?_
 try simp only[J,simprocAttr]
 refine .done (hK _ ?_);clear hK K;try simp only[al]
 generalize hw:eP w=bw;cases bw
 ·refine U.bx ?_;simp only[au,J,simprocAttr];refine ⟨fun h =>?_,fun h =>?_⟩
  ·refine .ak (by decide +kernel) fun K hK =>?_;simp only[IV,J,simprocAttr]
   try simp only[dR,nH,pO,J,simprocAttr]
   refine .done (hK _ ?_);clear hK K;refine U.ret ?_;simp only[al,J,simprocAttr]
   try simp only[cv,cF,J,simprocAttr]
   simp[oB,hw]
  ·simp at h
 refine U.bx ?_;simp only[au,J,simprocAttr];refine ⟨fun h =>?_,fun h =>?_⟩
 ·simp at h
 refine U.skip ?_;try simp only[al,simprocAttr]
 refine U.seq (U.seq ?_);refine .bd (by decide +kernel) fun K hK =>?_;simp only[IW,J,simprocAttr]
 try simp only[cv,cF,J,simprocAttr]
 refine .flat _ (yM a) rfl ?_
 try simp only[J,simprocAttr]
 refine .done (hK _ ?_);clear hK K;try simp only[al]
 generalize ha:cZ a=ba;cases ba
 ·refine U.bx ?_;simp only[au,J,simprocAttr];refine ⟨fun h =>?_,fun h =>?_⟩
  ·refine .ak (by decide +kernel) fun K hK =>?_;simp only[IX,J,simprocAttr]
   try simp only[dR,nH,pO,J,simprocAttr]
   refine .done (hK _ ?_);clear hK K;refine U.ret ?_;simp only[al,J,simprocAttr]
   try simp only[cv,cF,J,simprocAttr]
   simp[oB,hw,ha]
  ·simp at h
 refine U.bx ?_;simp only[au,J,simprocAttr];refine ⟨fun h =>?_,fun h =>?_⟩
 ·simp at h
 refine U.skip ?_;try simp only[al,simprocAttr]
 refine .ak (by decide +kernel) fun K hK =>?_;simp only[IY,J,simprocAttr]
 try simp only[nH,simprocAttr]
 refine .done (hK _ ?_);clear hK K;refine U.seq (U.seq ?_);refine .bd (by decide +kernel) fun K hK =>?_;simp only[IZ,J,simprocAttr];refine .done (hK _ ?_);clear hK K;try simp only[al]
 refine U.block (U.loop (fun i:Nat=>ar [(2,enc cuts),(3,.ptr 3 []),(4,.ptr 4 []),(6,.ptr 6 []),(8,.ptr 8 []),(9,.int .i64 i)] [(3,.box (enc w)),(4,.box (enc a)),(6,.box (enc kN)),(8,.box (enc (iu w a cuts i)))]) (fun i=>i≤6) (fun i=>6-i) 0 (by omega) ?_ (fun i hi =>?_))
 ·simp only[iu];refine aF.bY ?_ ?_ ?_ ?_ <;>simp[aV,bO,bM,br,aq,aW,ct,I.only,ah.only,bA]
 refine U.seq (U.seq ?_);refine .bd (by decide +kernel) fun K hK =>?_;simp only[I0,J,simprocAttr];refine .done (hK _ ?_);clear hK K;try simp only[al]
 refine U.bx ?_;simp only[au,J,simprocAttr];refine ⟨fun h =>?_,fun h =>?_⟩
 ·have hi6:i<6:=by simp at h;omega
  have h1:=mh ha hi6;have h2:=xH hw (show (a.g i).toNat<5 by omega);have k5:(a.g i).toNat<5:=by omega
  refine U.skip ?_;try simp only[al,simprocAttr]
  refine U.seq (U.block ?_);refine .ak (by decide +kernel) fun K hK =>?_;simp only[I1,J,simprocAttr]
  try simp only[bP,iI 1 a hi6 rfl,fF a hi6,J,simprocAttr]
  try simp only[bP,ky 1 w ⟨h1.1,h1.2⟩ rfl,fF w k5,J,simprocAttr]
  refine .lead _ (Ou (w.g (a.g i).toNat)) ?_
  try simp only[J,simprocAttr]
  refine .done (hK _ ?_);clear hK K;have hL:iU w a i=gm (w.g (a.g i).toNat) 5:=rfl;rw[←hL];have hL5:(iU w a i).length≤5:=xd _ 5;have hL0:0<(iU w a i).length:=List.length_pos_of_mem (xe h2.2 5 (by omega));have hLi:∀ x∈iU w a i,0≤x∧x<(5:Nat):=xc 5;have hV:ri w a cuts i=shl 1 ((iU w a i).getD (lb cuts i (iU w a i).length) 0).toNat:=rfl;have hcl:=Ca cuts i hL0;generalize hLL:iU w a i=ay at hL5 hL0 hLi hV hcl ⊢;have hin:=hLi (ay.getD (lb cuts i ay.length) 0) (by rw[zz1,zz8 hcl];exact zy6 hcl);refine .bd (by decide +kernel) fun K hK =>?_;simp only[I2,J,simprocAttr]
  try simp only[cF,J,simprocAttr]
  refine .flat _ (lQ cuts i hl) rfl ?_
  try simp only[bP,J,simprocAttr]
  refine .flat _ (ja (bt cuts i) ay.length (by omega) (by omega)) rfl ?_;rw[Wo cuts i hL0 (by omega)]
  try simp only[wL hcl,J,simprocAttr]
  have hsh:IntKind.i64.wrap (1*2^min (ay.getD (lb cuts i ay.length) 0).toNat IntKind.i64.bits)=ri w a cuts i:=hV.symm;rw[if_pos hin.1,hsh]
  try simp only[bP,iI 1 (iu w a cuts i) hi6 rfl,fF (iu w a cuts i) hi6,pP (iu w a cuts i) hi6,J,simprocAttr]
  refine .done (hK _ ?_);clear hK K;try simp only[al,bJ]
  refine .bd (by decide +kernel) fun K hK =>?_;simp only[IT,J,simprocAttr];refine .done (hK _ ?_);clear hK K;try simp only[al]
  refine ⟨i+1,by omega,by omega,?_⟩;rw[cA _ (by omega) (by omega),iu];refine aF.bY ?_ ?_ ?_ ?_ <;>simp[aV,bO,bM,br,aq,aW,ct,I.only,ah.only,bA]
 ·have h6:i=6:=by simp at h;omega
  subst h6;refine U.exit ?_;try simp only[al,bJ,simprocAttr]
  refine .ak (by decide +kernel) fun K hK =>?_;simp only[IU,J,simprocAttr]
  try simp only[cv,pO,J,simprocAttr]
  refine .done (hK _ ?_);clear hK K;refine U.ret ?_;simp only[J,simprocAttr]
  try simp only[cv,cF,J,simprocAttr]
  simp[oB,hw,ha]
theorem Pc(m:bQ)(a:aI 6 Int)(c:List Int)(hl:c.length≤4611686018427387904)(hw:eP m.c5=true)(ha:cZ a=true)(h0:0≤m.dh)(h2:m.dh≤2):aC Tryz.prog 35 [enc m,enc a,enc c] (enc (pL m a c)):=by
 refine aC.bu Tryz.func35 R5 TU VW (t7 rfl) (fun hwf W0 D0 E1 =>?_);simp only[Bf,Md,bj,zz4,Nat.reduceAdd];obtain ⟨r0,hr0⟩:∃ r0,r0=iu m.c5 a c 6:=⟨_,rfl⟩
 have hworn:oB m.c5 a c=(r0,0):=by simp[oB,hw,ha,hr0]
 refine .ak (by decide +kernel) fun K hK =>?_;simp only[Hp,J,simprocAttr]
 try simp only[dz,nH,J,simprocAttr]
 refine .done (hK _ ?_);clear hK K;refine .ak (by decide +kernel) fun K hK =>?_;simp only[Hq,J,simprocAttr]
 try simp only[cv,cF,J,simprocAttr]
 refine .lead _ (Pr m.c5 a c hl) ?_
 try simp only[hworn,cv,nH,pO,J,simprocAttr]
 refine .done (hK _ ?_);clear hK K;refine U.seq (U.seq ?_);refine .bd (by decide +kernel) fun K hK =>?_;simp only[Ht,J,simprocAttr];refine .done (hK _ ?_);clear hK K;try simp only[al]
 refine U.block (U.loop (fun i:Nat=>ar [(2,enc c),(3,.ptr 3 []),(6,.ptr 6 []),(7,.ptr 7 []),(9,.int .i64 i)] [(3,.box (enc m)),(6,.box (enc kN)),(7,.box (enc (iE c 2 5 r0 i)))]) (fun i=>i≤m.dh.toNat) (fun i=>m.dh.toNat-i) 0 (by omega) ?_ (fun i hi =>?_))
 ·simp only[iE];refine aF.bY ?_ ?_ ?_ ?_ <;>simp[aV,bO,bM,br,aq,aW,ct,I.only,ah.only,bA]
 refine U.seq (U.seq ?_);refine .bd (by decide +kernel) fun K hK =>?_;simp only[Hu,J,simprocAttr]
 try simp only[cv,J,simprocAttr]
 refine .done (hK _ ?_);clear hK K;try simp only[al]
 refine U.bx ?_;simp only[au,J,simprocAttr];refine ⟨fun h =>?_,fun h =>?_⟩
 ·have hlt:(i:Int)<m.dh:=by simpa using h
  have m6:=pk (bt c (i+2));have m5:=J0 (bt c (i+5));have k6:(bt c (i+2)%6).toNat<6:=by omega
  have hv:IntKind.i64.wrap (1*2^min (bt c (i+5)%5).toNat IntKind.i64.bits)=shl 1 (bt c (i+5)%5).toNat:=rfl;refine U.skip ?_;try simp only[al,simprocAttr]
  refine U.seq (U.block ?_);refine .bd (by decide +kernel) fun K hK =>?_;simp only[Hv,J,simprocAttr]
  try simp only[cF,J,simprocAttr]
  rw[cA _ (by omega) (by omega)];refine .flat _ (lQ c (i+2) hl) rfl ?_
  try simp only[J,simprocAttr]
  refine .flat _ (ja (bt c (i+2)) 6 (by decide) (by decide)) rfl ?_
  try simp only[cF,J,simprocAttr]
  rw[cA _ (by omega) (by omega)];refine .flat _ (lQ c (i+5) hl) rfl ?_
  try simp only[J,simprocAttr]
  refine .flat _ (ja (bt c (i+5)) 5 (by decide) (by decide)) rfl ?_
  try simp only[J,simprocAttr]
  rw[if_pos m5.1,hv]
  try simp only[bP,ky 1 (iE c 2 5 r0 i) ⟨m6.1,m6.2⟩ rfl,fF (iE c 2 5 r0 i) k6,pP (iE c 2 5 r0 i) k6,J,simprocAttr]
  refine .done (hK _ ?_);clear hK K;try simp only[al,bJ]
  refine .bd (by decide +kernel) fun K hK =>?_;simp only[Hw,J,simprocAttr];refine .done (hK _ ?_);clear hK K;try simp only[al]
  refine ⟨i+1,by omega,by omega,?_⟩;rw[cA _ (by omega) (by omega),iE];refine aF.bY ?_ ?_ ?_ ?_ <;>simp[aV,bO,bM,br,aq,aW,ct,I.only,ah.only,bA]
 have hi2:i=m.dh.toNat:=by simp at h;omega
 subst hi2;refine U.exit ?_;try simp only[al,bJ,simprocAttr]
 obtain ⟨r1,hr1⟩:∃ r1,r1=iE c 2 5 r0 m.dh.toNat:=⟨_,rfl⟩
 rw[←hr1];refine U.seq (U.seq ?_);refine .bd (by decide +kernel) fun K hK =>?_;simp only[Hx,J,simprocAttr];refine .done (hK _ ?_);clear hK K;try simp only[al]
 have q4:0≤bt c 1%4∧bt c 1%4<4:=⟨Int.emod_nonneg _ (by decide),Int.emod_lt_of_pos _ (by decide)⟩
 refine U.block (U.loop (fun i:Nat=>ar [(2,enc c),(3,.ptr 3 []),(6,.ptr 6 []),(7,.ptr 7 []),(10,.int .i64 i)] [(3,.box (enc m)),(6,.box (enc kN)),(7,.box (enc (gJ c r1 i)))]) (fun i=>i≤(bt c 1%4).toNat) (fun i=>(bt c 1%4).toNat-i) 0 (by omega) ?_ (fun i hi =>?_))
 ·simp only[gJ];refine aF.bY ?_ ?_ ?_ ?_ <;>simp[aV,bO,bM,br,aq,aW,ct,I.only,ah.only,bA]
 refine U.seq (U.seq ?_);refine .bd (by decide +kernel) fun K hK =>?_;simp only[Hy,J,simprocAttr]
 try simp only[cF,J,simprocAttr]
 refine .flat _ (lQ c 1 hl) rfl ?_
 try simp only[J,simprocAttr]
 refine .flat _ (ja (bt c 1) 4 (by decide) (by decide)) rfl ?_
 try simp only[J,simprocAttr]
 refine .done (hK _ ?_);clear hK K;try simp only[al]
 refine U.bx ?_;simp only[au,J,simprocAttr];refine ⟨fun h =>?_,fun h =>?_⟩
 ·have hlt:(i:Int)<bt c 1%4:=by simpa using h
  have m6:=pk (bt c (i+7));have m32:=xg (bt c (i+3));have k6:(bt c (i+7)%6).toNat<6:=by omega
  refine U.skip ?_;try simp only[al,simprocAttr]
  refine U.seq (U.block ?_);refine .ak (by decide +kernel) fun K hK =>?_;simp only[Hz,J,simprocAttr]
  try simp only[cF,J,simprocAttr]
  rw[cA _ (by omega) (by omega)];refine .flat _ (lQ c (i+7) hl) rfl ?_
  try simp only[J,simprocAttr]
  refine .flat _ (ja (bt c (i+7)) 6 (by decide) (by decide)) rfl ?_
  try simp only[J,simprocAttr]
  refine .done (hK _ ?_);clear hK K;refine .bd (by decide +kernel) fun K hK =>?_;simp only[HA,J,simprocAttr]
  try simp only[bP,ky 1 (gJ c r1 i) ⟨m6.1,m6.2⟩ rfl,fF (gJ c r1 i) k6,cF,J,simprocAttr]
  rw[cA _ (by omega) (by omega)];refine .flat _ (lQ c (i+3) hl) rfl ?_
  try simp only[J,simprocAttr]
  refine .flat _ (ja (bt c (i+3)) 32 (by decide) (by decide)) rfl ?_
  try simp only[bP,J,simprocAttr]
  try simp only[bP,ky 1 (gJ c r1 i) ⟨m6.1,m6.2⟩ rfl,fF (gJ c r1 i) k6,pP (gJ c r1 i) k6,J,simprocAttr]
  refine .done (hK _ ?_);clear hK K;try simp only[al,bJ]
  refine .bd (by decide +kernel) fun K hK =>?_;simp only[Hr,J,simprocAttr];refine .done (hK _ ?_);clear hK K;try simp only[al]
  refine ⟨i+1,by omega,by omega,?_⟩;rw[cA _ (by omega) (by omega),gJ];refine aF.bY ?_ ?_ ?_ ?_ <;>simp[aV,bO,bM,br,aq,aW,ct,I.only,ah.only,bA]
  all_goals first | rfl | simp[gO]
 have hi4:i=(bt c 1%4).toNat:=by simp at h;omega
 refine U.exit ?_;try simp only[al,bJ,simprocAttr]
 refine .ak (by decide +kernel) fun K hK =>?_;simp only[Hs,J,simprocAttr]
 try simp only[cv,pO,J,simprocAttr]
 refine .done (hK _ ?_);clear hK K;refine U.ret ?_;simp only[J,simprocAttr]
 try simp only[cv,cF,J,simprocAttr]
 rw[hi4,hr1,hr0];rfl
theorem Ck(x:aw)(l:List aw)(s:Bool)(ss:List Bool)(day:Int):nG (x::l) (s::ss) day=(if s&&(decide (x.kind≠0)&&decide (x.day≤day)) then [x] else [])++nG l ss day:=by
 simp only[nG,List.zip_cons_cons,zw2];cases s&&(decide (x.kind≠0)&&decide (x.day≤day)) <;>rfl
theorem Nw{A:ae}{n:Nat}{b:I}{m:bQ}{rest:List az} : dO A (some 7) n [] b (enc m) rest (some (.agg [.agg [.int .i64 0,.int .i64 0,.int .i64 0,.int .i64 0,.int .i64 0],.int .i64 0,.nils 7]))=aA rest (A.aN n (.box (enc m))):=by
 rw[eg (s:=some 7) (dz _) (by rw[fx];rfl) ((ev m).trans rfl),fR]
theorem ahu{l:List aw}(hs:oD l){i:Nat}(hi:i<l.length):jF l (ab l i).bt=i:=xR (by omega) (fun _ hj=>tI hs hj hi) (fun _=>zE _)
theorem agZ{m:bQ}(h:ed m=true){i:Nat}(hi:i<m.given.length):fZ m i=true:=by
 simp only[ed,zz2,decide_eq_true_eq,zy2,zx4] at h;exact h.2.2.2 i hi
theorem xE{m:bQ}(h:ed m=true):∀ j i,i<j→j<m.given.length→(cw m i).b5<(cw m j).b5
 |0,_,hi,_=>absurd hi (by omega)
 |j+1,i,hi,hj=>by
  have h1:=(xw.1 (agZ h hj)).2.2.1;have h2:(cw m j).b5<(cw m (j+1)).b5:=by
   rcases h1 with h1 | h1
   ·omega
   ·exact h1
  by_cases e:i=j
  ·subst e;exact h2
  ·have:=xE h j i (by omega) (by omega);omega
def eA:aw:=⟨⟨0,0⟩,2,0,0,7,0,1,0,tS,⟨0,0⟩⟩
def pH(x:aw):Prop:=x.kind=4∧x.day=2∧x.dW=7
theorem NB(K day:Int)(hd:2≤day):∀ {r:List aw},(∀ x∈r,pH x)→(gu K r).2=[]∧nG r (gu K r).1 day=r.filter fun x=>decide (x.known≤K)
 | [],_=>⟨rfl,rfl⟩
 |x::r,h=>by
  obtain ⟨h1,h2⟩:=NB K day hd fun y hy=>h y (List.mem_cons_of_mem _ hy);obtain ⟨k1,k2,k3⟩:=h x List.mem_cons_self;have c1:decide (x.day≤day)=true:=decide_eq_true (by omega);simp only[gu,h1,List.contains_nil,Bool.not_false,Bool.and_true,k1,show ((4:Int)=0)=False from by simp,decide_false,Bool.and_false,zz7,if_false,true_and];rw[Ck,h2,c1,k1,zw2];cases decide (x.known≤K) <;>rfl
theorem Jp{x:aw} : ∀ {o:List aw},(∀ a∈o,a.day≤x.day)→nP x o=o++[x]
 | [],_=>rfl
 |a::o,h=>by
  have ih:=Jp (x:=x) (o:=o) fun b hb=>h b (List.mem_cons_of_mem _ hb);have ha:=h a List.mem_cons_self;simp only[nP] at ih ⊢;simp only[List.takeWhile_cons,List.dropWhile_cons,decide_eq_true ha,if_true,zy0,ih]
theorem CX:∀ (l o:List aw),(o++l).Pairwise (fun a b=>a.day≤b.day)→l.foldl (fun o x=>nP x o) o=o++l
 | [],o,_=>by simp
 |x::l,o,h=>by
  have h2:=List.pairwise_append.1 h;rw[List.foldl_cons,Jp fun a ha=>h2.2.2 a ha x List.mem_cons_self,CX l (o++[x]) (by simpa using h)];simp
def kT(s:List (aI 6 Int)):aR:=⟨7,1,0,0,0,0,-1,false,s⟩
theorem M5:∀ {r:List aw},(∀ x∈r,pH x)→∀ s,pI eD [kT s] r=[kT (s++r.map (·.bL))]
 | [],_,s=>by simp[pI]
 |x::r,h,s=>by
  obtain ⟨k1,k2,k3⟩:=h x List.mem_cons_self;have e:(ef eD [kT s] x).getD [kT s]=[kT (s++[x.bL])]:=by
   rw[PZ eD (by simp) (by omega)];simp[k3,kT,iY,k1]
  have ih:=M5 (r:=r) (fun y hy=>h y (List.mem_cons_of_mem _ hy)) (s++[x.bL]);simp only[pI,List.foldl_cons] at ih ⊢;rw[e,ih];simp
theorem aeR{r:List aw}(h:∀ x∈r,pH x){K:Int}(hK:0≤K):dw (eA::r) 100000 K=[kT ((r.filter fun x=>decide (x.known≤K)).map (·.bL))]:=by
 obtain ⟨h1,h2⟩:=NB K 100000 (by omega) h;have hf:∀ x∈r.filter (fun x=>decide (x.known≤K)),pH x:=fun x hx=>h x (zw5.1 hx).1;rw[aeV,XJ];have e:nG (eA::r) (iX (eA::r) K) 100000=eA::r.filter fun x=>decide (x.known≤K):=by
  simp only[iX,gu];rw[Ck,h2];have:(decide (eA.known≤K) && !(gu K r).2.contains eA.bt)=true:=by
   rw[h1];simp[eA,hK]
  rw[this];rfl
 rw[e];generalize r.filter (fun x=>decide (x.known≤K))=q at hf;have e2:yq (eA::q)=eA::q:=by
  refine (CX (eA::q) [] ?_).trans rfl;refine List.pairwise_cons.2 ⟨fun a ha =>?_,List.pairwise_iff_getElem.2 fun i j hi hj _ =>?_⟩
  ·rw[(hf a ha).2.1];decide
  ·rw[(hf _ (zy6 hi)).2.1,(hf _ (zy6 hj)).2.1];omega
 rw[e2];have:=M5 hf [];simp only[zy8] at this;rw[←this];rfl
theorem agP{m:bQ}(hm:ed m=true){rs:List (aI 6 Int)}(hl:rs.length≤60)(hr:∀ r∈rs,fb r=true):gQ m rs=((m.given.filter fun g=>rs.all fun r=>decide (eE m.c5 g.mark r≤m.dh)).map (·.b5),0):=by
 have ho:qF rs=true:=by
  simp only[qF,zy2,zx4];intro i hi;have e:ez rs i=rs[i]:=by simp[ez,zz1,hi]
  rw[e];exact hr _ (zy6 hi)
 have hg:ij m rs rs.length=m.given.filter fun g=>rs.all fun r=>decide (eE m.c5 g.mark r≤m.dh):=by
  simp only[ij];refine List.filter_congr fun g _ =>?_;rw[Bool.eq_iff_iff,zy2,zy2];simp only[zx4,uW];constructor
  ·intro h r hr;obtain ⟨i,hi,rfl⟩:=zv6 hr;have:=h i hi;simpa[ez,zz1,hi] using this
  ·intro h i hi;have:=h _ (zy6 hi);simpa[ez,zz1,hi] using this
 simp only[gQ,hm,hl,ho,if_true,hg]
def hX(m:bQ)(rs:List (aI 6 Int))(g:bZ):Bool:=rs.all fun r=>decide (eE m.c5 g.mark r≤m.dh)
theorem aeP{m:bQ}(hm:ed m=true)(rs:List (aI 6 Int)){i:Nat}(hi:i<m.given.length):decide ((cw m i).b5∈(m.given.filter (hX m rs)).map (·.b5))=hX m rs (cw m i):=by
 rw[Bool.eq_iff_iff,decide_eq_true_eq,zx5];constructor
 ·rintro ⟨g,hg,e⟩;obtain ⟨h1,h2⟩:=zw5.1 hg;obtain ⟨k,hk,rfl⟩:=zv6 h1;rw[ic hk] at e h2;have:k=i:=by
   rcases Nat.lt_trichotomy k i with h | h | h
   ·have:=xE hm i k h hi;omega
   ·exact h
   ·have:=xE hm k i h hk;omega
  rw[←this];exact h2
 ·intro h;exact ⟨cw m i,zw5.2 ⟨by rw[←ic hi];exact zy6 hi,h⟩,rfl⟩
theorem Yn(m:bQ){rs qs:List (aI 6 Int)}(h:qs.Sublist rs):(m.given.filter (hX m rs)).length≤(m.given.filter (hX m qs)).length:=by
 rw[←List.countP_eq_length_filter,←List.countP_eq_length_filter];refine List.countP_mono_left fun g _ hg =>?_;simp only[hX,zy2] at hg ⊢;exact fun r hr=>hg r (h.subset hr)
theorem zD{m:bQ}(hm:ed m=true){r:List aw}(h:∀ x∈r,pH x)(hok:dC (eA::r)=true){K:Int}(hK:0≤K∧K<40)(hs:∀ x∈r,fb x.bL=true) :
  jv m (eA::r) 7 K=((m.given.filter (hX m ((r.filter fun x=>decide (x.known≤K)).map (·.bL)))).map (·.b5),0):=by
 have e1:(fk 7 9999).g 0=7:=rfl;have e2:(fk 7 9999).g 1=9999:=rfl;have e3:cm 1 9999 7=true:=rfl;have e4:cm 0 100000 K=true:=by simp[cm];omega
 have hc:fN (eA::r) [fk 7 9999] [K]=0:=by simp[fN,hok,e1,e2,e3,e4]
 have hl:((r.filter fun x=>decide (x.known≤K)).map (·.bL)).length≤60:=by
  have h1:=nY hok;have h2:=zv3 (fun x:aw=>decide (x.known≤K)) r;rw[zv5] at h1;rw[zy1];omega
 have hr:∀ x∈(r.filter fun x=>decide (x.known≤K)).map (·.bL),fb x=true:=fun x hx=>by
  obtain ⟨y,hy,rfl⟩:=zx5.1 hx;exact hs y (zw5.1 hy).1
 have hg:∀ s,dp [kT s] 7=some (kT s):=fun s=>rfl;simp only[jv,hm,if_true,hc,aeR h hK.1,hg];rw[show (kT ((r.filter fun x=>decide (x.known≤K)).map (·.bL))).bL=(r.filter fun x=>decide (x.known≤K)).map (·.bL) from rfl,agP hm hl hr];rfl
def jE(ps:List (List Int))(i:Nat):List Int:=ps.getD i []
def kq(m:bQ)(a:aI 6 Int)(ps:List (List Int))(i:Nat):aw:=⟨⟨0,((i+1:Nat):Int)⟩,4,2,bt (jE ps i) 0%40,7,0,0,0,pL m a (jE ps i),⟨0,0⟩⟩
def e7(m:bQ)(a:aI 6 Int)(ps:List (List Int))(n:Nat):List aw:=(List.range n).map (kq m a ps)
theorem CD(m:bQ)(a:aI 6 Int)(ps:List (List Int))(n:Nat):e7 m a ps (n+1)=e7 m a ps n++[kq m a ps n]:=by
 simp[e7,List.range_succ]
theorem r5(m:bQ)(a:aI 6 Int)(ps:List (List Int))(n:Nat):(e7 m a ps n).length=n:=by simp[e7]
theorem CC(m:bQ)(a:aI 6 Int)(ps:List (List Int))(n:Nat):∀ x∈e7 m a ps n,pH x:=fun x hx=>by
 obtain ⟨i,_,rfl⟩:=zx5.1 hx;exact ⟨rfl,rfl,rfl⟩
theorem vb{m:bQ}{a:aI 6 Int}(hw:eP m.c5=true)(ha:cZ a=true)(h0:0≤m.dh)(ps:List (List Int))(n:Nat):∀ x∈e7 m a ps n,fb x.bL=true∧eE m.c5 a x.bL≤m.dh:=fun x hx=>by
 obtain ⟨i,_,rfl⟩:=zx5.1 hx;exact ⟨Na hw ha _,aid hw ha h0 _⟩
theorem CB{m:bQ}{a:aI 6 Int}(hw:eP m.c5=true)(ha:cZ a=true)(ps:List (List Int)){n:Nat}(hn:n≤6):dC (eA::e7 m a ps n)=true:=by
 refine te.2 ⟨by rw[zv5,r5];omega,fun x hx =>?_,List.pairwise_cons.2 ⟨fun x hx =>?_,?_⟩⟩
 ·rcases zw9.1 hx with rfl | hx
  ·decide
  ·obtain ⟨i,hi,rfl⟩:=zx5.1 hx;have hi:=zx4.1 hi;have h1:=Na hw ha (jE ps i);have h2:=Int.emod_nonneg (bt (jE ps i) 0) (show (40:Int)≠0 by omega);have h3:=Int.emod_lt_of_pos (bt (jE ps i) 0) (show (0:Int)<40 by omega);simp[j6,oW,nC,kq,o8,cm,h1];exact ⟨⟨decide_eq_true (by omega),decide_eq_true (by omega)⟩,decide_eq_true (by omega),decide_eq_true (by omega)⟩
 ·obtain ⟨i,_,rfl⟩:=zx5.1 hx;simp[before,eA,kq]
 ·simp only[e7];rw[List.pairwise_map];refine List.pairwise_lt_range.imp fun {i j} hij =>?_;simp[before,kq];omega
structure rD where
 nU:List Int
 b5:Int
 pD:List (List Int)
instance:Enc rD where
 enc s:=.agg [enc s.nU,.int .i64 s.b5,enc s.pD]
 sz:=3
 aJ:=.dU [Enc.aJ (List Int),.one,Enc.aJ (List (List Int))]
 fI:=true
 done e:=by simp only[I.done,I.eG,Enc.done,zw3]
 size e:=by simp only[I.size,I.sizes,fy];rfl
 jG e:=by simp only[I.aJ,I.cN,ev]
 agg _:=rfl
theorem r6(s:rD):(enc s).dg=some [enc s.nU,.int .i64 s.b5,enc s.pD]:=rfl
theorem tc(a:List Int)(n:Int)(b:List (List Int))(v:I):(dB [enc a,.int .i64 n,enc b] 0 0 v=some v)∧(dB [enc a,.int .i64 n,enc b] 1 1 v=some v)∧(dB [enc a,.int .i64 n,enc b] 2 2 v=some v):=by
 refine ⟨?_,?_,?_⟩ <;>refine kB (t7 rfl) ?_ <;>simp[I.sizes,I.size,fy,r2]
theorem Kt(b:List (List Int)):bV none (enc b)=true:=by simp[lh,lY]
theorem yu{A:ae}{n:Nat}{b:I}{g:bZ}{rest:List az} : dO A (some 7) n [] b (enc g) rest (some (.agg [.int .i64 0,.agg [.int .i64 0,.int .i64 0,.int .i64 0,.int .i64 0,.int .i64 0,.int .i64 0]]))=aA rest (A.aN n (.box (enc g))):=by
 rw[eg (s:=some 7) (dz _) (by rw[fx];rfl) ((ev g).trans rfl),fR]
theorem xA(g:bZ):bV (some 7) (enc g)=true:=by rw[fx];rfl
theorem QC(A:ae):a8 A (.bld [.agg [.int .i64 0,.int .i64 0],.int .i64 0,.int .i64 0,.int .i64 0,.int .i64 0,.int .i64 0,.int .i64 0,.int .i64 0,.agg [.int .i64 0,.int .i64 0,.int .i64 0,.int .i64 0,.int .i64 0,.int .i64 0],.agg [.int .i64 0,.int .i64 0]] [(1,.c (.int .i64 2)),(4,.c (.int .i64 7)),(6,.c (.int .i64 1))])=some (enc eA):=by
 simp[a8,Abs.ab,dR,I.cd,I.size];rfl
theorem Qx(x:Int):dR [.int .i64 0,.int .i64 0] [(1,.int .i64 x)]=some [.int .i64 0,.int .i64 x]:=by simp[dR,I.cd,I.size]
theorem QD(a:Item)(kn:Int)(r:aI 6 Int):(dR [.agg [.int .i64 0,.int .i64 0],.int .i64 0,.int .i64 0,.int .i64 0,.int .i64 0,.int .i64 0,.int .i64 0,.int .i64 0,.agg [.int .i64 0,.int .i64 0,.int .i64 0,.int .i64 0,.int .i64 0,.int .i64 0],.agg [.int .i64 0,.int .i64 0]] [(0,enc a),(1,.int .i64 4),(2,.int .i64 2),(3,.int .i64 kn),(4,.int .i64 7),(8,enc r)]).map .agg=some (enc (⟨a,4,2,kn,7,0,0,0,r,⟨0,0⟩⟩:aw)):=by
 simp[dR,I.cd,I.size,I.sizes,fy,qe,jS,jT];rfl
theorem KL{ps:List (List Int)}{i:Nat}(h:i<ps.length):ps[i]=jE ps i:=by simp[jE,zz1,h]
def jJ(m:bQ)(a:aI 6 Int)(ps:List (List Int))(K:Int)(n:Nat):List (aI 6 Int):=((e7 m a ps n).filter fun x=>decide (x.known≤K)).map (·.bL)
theorem ait(m:bQ)(a:aI 6 Int)(ps:List (List Int))(K:Int)(n:Nat):jJ m a ps K (n+1)=jJ m a ps K n++if (kq m a ps n).known≤K then [(kq m a ps n).bL] else []:=by
 simp only[jJ,CD,List.filter_append,zx6,zw2,List.filter_nil];by_cases h:(kq m a ps n).known≤K <;>simp[h]
theorem Nk(m:bQ)(a:aI 6 Int)(ps:List (List Int))(K:Int)(n:Nat):(jJ m a ps K n).length≤n:=by
 have h:=zv3 (fun x:aw=>decide (x.known≤K)) (e7 m a ps n);rw[r5] at h;simpa[jJ] using h
theorem ais{m:bQ}{a:aI 6 Int}(hw:eP m.c5=true)(ha:cZ a=true)(h0:0≤m.dh)(ps:List (List Int))(K:Int)(n:Nat):∀ r∈jJ m a ps K n,fb r=true∧eE m.c5 a r≤m.dh:=fun r hr=>by
 obtain ⟨x,hx,rfl⟩:=zx5.1 hr;exact vb hw ha h0 ps n x (zw5.1 hx).1
theorem afy{m:bQ}(hm:ed m=true){a:aI 6 Int}(hw:eP m.c5=true)(ha:cZ a=true)(h0:0≤m.dh)(ps:List (List Int)){n:Nat}(hn:n≤6){K:Int}(hK:0≤K∧K<40){i:Nat}(h1:1≤i)(hi:i<n+1) :
  rh (eA::e7 m a ps n) (ab (eA::e7 m a ps n) i).bt=(dX (eA::e7 m a ps n) i,0)∧∃ more,jv m (dX (eA::e7 m a ps n) i) 7 K=(more,0)∧((m.given.filter (hX m (jJ m a ps K n))).map (·.b5)).length≤more.length∧more.length≤m.given.length:=by
 have hok:=CB hw ha ps hn;have hs:=xD hok;have hil:i<(eA::e7 m a ps n).length:=by rw[zv5,r5];exact hi
 have hp:=ahu hs hil;have hh:l8 (eA::e7 m a ps n) (ab (eA::e7 m a ps n) i).bt=true:=Ji hil rfl;refine ⟨by simp only[rh,hok,hh,hp,if_true],?_⟩;obtain ⟨k,rfl⟩:∃ k,i=k+1:=⟨i-1,by omega⟩
 have hd:dX (eA::e7 m a ps n) (k+1)=eA::dX (e7 m a ps n) k:=rfl;have hsub:(dX (e7 m a ps n) k).Sublist (e7 m a ps n):=Ce _ _;have hok2:dC (eA::dX (e7 m a ps n) k)=true:=Kh (hsub.cons_cons _) hok;have hb:=zD hm (fun x hx=>CC m a ps n x (hsub.subset hx)) hok2 hK (fun x hx=>(vb hw ha h0 ps n x (hsub.subset hx)).1);rw[hd];refine ⟨_,hb,?_,?_⟩
 ·rw[zy1,zy1];exact Yn m ((hsub.filter _).map _)
 ·rw[zy1];exact zv3 _ _
def jZ(m:bQ)(a:aI 6 Int)(ps:List (List Int))(n:Nat):List aw:=eA::e7 m a ps n
theorem afG(m:bQ)(a:aI 6 Int)(ps:List (List Int))(n:Nat):jZ m a ps (n+1)=jZ m a ps n++[kq m a ps n]:=by
 simp only[jZ,CD];rfl
theorem JR(m:bQ)(a:aI 6 Int)(ps:List (List Int))(n:Nat):(jZ m a ps n).length=n+1:=by
 simp only[jZ,zv5,r5]
theorem QA(w:aI 5 Int)(n:Int):dR [enc (a5 0 0 0 0 0),.int .i64 0,.nils 7] [(0,enc w),(1,.int .i64 n)]=some [enc w,.int .i64 n,.nils 7]:=by
 have h1:((enc w:I).cd=true∧(enc w:I).size=(enc (a5 0 0 0 0 0)).size):=⟨dz _,by rw[fy,fy]⟩
 rw[oj (z:=enc (a5 0 0 0 0 0)) rfl h1.1 h1.2,oj (v:=.int .i64 n) (z:=.int .i64 0) rfl rfl rfl];rfl
theorem lU(w:aI 5 Int)(n:Int)(x:I)(h1:x.cd=true)(h2:x.aJ=.one)(h3:x.size=1):(I.agg [enc w,.int .i64 n,x]).cd=true∧bV (some 7) (I.agg [enc w,.int .i64 n,x])=true∧(I.agg [enc w,.int .i64 n,x]).aJ=.dU [.dU (List.replicate 5 .one),.one,.one]:=by
 refine ⟨rfl,?_,?_⟩
 ·simp[bV,I.isAgg,I.size,I.sizes,fy,h3,jS,jT]
 ·simp[I.aJ,I.cN,ev,h2,rY,rZ]
theorem xt(w:aI 5 Int)(n:Int)(x:I)(v:I):dB [enc w,.int .i64 n,x] 2 6 v=some v:=kB (t7 rfl) (by simp[I.sizes,I.size,fy,jS,jT])
theorem O8(c:List Int)(hl:c.length≤4611686018427387904):aC Tryz.prog 24 [enc c] (enc (nc c)):=by
 refine aC.bu Tryz.func24 RZ TO VQ (t7 rfl) (fun hwf W0 D0 E1 =>?_);simp only[A9,L7,bj];refine .ak (by decide +kernel) fun K hK =>?_;simp only[Ha,J,simprocAttr];refine .done (hK _ ?_);clear hK K;obtain ⟨w,hw⟩:∃ w,w=fu c 5:=⟨_,rfl⟩
 obtain ⟨f,hf⟩:∃ f,f=bt c 5%2:=⟨_,rfl⟩
 refine .ak (by decide +kernel) fun K hK =>?_;simp only[Hb,J,simprocAttr]
 try simp only[cF,J,simprocAttr]
 refine .lead _ (Pm c hl) ?_
 try simp only[cF,J,simprocAttr]
 refine .flat _ (lQ c 5 hl) rfl ?_
 try simp only[J,simprocAttr]
 refine .flat _ (ja (bt c 5) 2 (by decide) (by decide)) rfl ?_
 try simp only[Cn,QA,←hw,←hf,J,simprocAttr]
 obtain ⟨q1,q2,q3⟩:=lU w f (.nils 7) rfl rfl rfl;rw[eg q1 q2 (q3.trans (lU (a5 0 0 0 0 0) 0 (.nils 7) rfl rfl rfl).2.2.symm)]
 try simp only[fR,J,simprocAttr]
 refine .done (hK _ ?_);clear hK K;refine .ak (by decide +kernel) fun K hK =>?_;simp only[Hc,J,simprocAttr];refine .done (hK _ ?_);clear hK K;refine U.seq (U.seq ?_);refine .bd (by decide +kernel) fun K hK =>?_;simp only[Hd,J,simprocAttr];refine .done (hK _ ?_);clear hK K;try simp only[al]
 refine U.block (U.loop (fun i:Nat=>ar [(0,enc c),(2,.ptr 2 []),(3,.ptr 3 []),(4,.int .i64 (cT c i).1),(5,.int .i64 i)] [(1,.bT 63 7 ((cT c i).2.map enc)),(2,.box (.agg [enc (a5 0 0 0 0 0),.int .i64 0,.nils 7])),(3,.box (.agg [enc w,.int .i64 f,.own 1 (cT c i).2.length]))]) (fun i=>i≤12) (fun i=>12-i) 0 (by omega) ?_ (fun i hi =>?_))
 ·refine aF.zj 3 1 63 7 7 [2] (.agg [enc w,.int .i64 f,.nils 7]) ?_ rfl ?_ ?_
  ·try simp only[J,simprocAttr]
  ·try simp only[J,simprocAttr]
  ·have e1:(I.agg [enc w,.int .i64 f,.nils 7]).dx [2] (.own 1 0)=.agg [enc w,.int .i64 f,.own 1 0]:=rfl;rw[e1];simp only[cT,zx2,List.length_nil];refine aF.bY ?_ ?_ ?_ ?_ <;>simp[aV,bO,bM,br,aq,aW,ct,I.only,I.b8,ah.only,bA]
 obtain ⟨b1,b2,b3,_,_⟩:=wY c i;have q4:=JZ (c.getD i 0);have fin12:¬ (i<c.length∧i<12∧(cT c i).2.length<9)→(nc c).given=(cT c i).2:=by
  intro hn;by_cases e:i=12
  ·subst e;rfl
  ·have:cT c 12=cT c i:=JT (fun hh=>hn ⟨hh.1,by omega,hh.2⟩) 12 hi;simp only[nc,jA,this]
 refine U.seq (U.seq ?_);refine .bd (by decide +kernel) fun K hK =>?_;simp only[He,J,simprocAttr]
 try simp only[bP,J,simprocAttr]
 generalize hz:decide ((i:Int)<c.length)=bz;cases bz
 ·have hout:=fin12 (fun hh=>by simp at hz;omega)
  try simp only[J,simprocAttr]
  refine .done (hK _ ?_);clear hK K;try simp only[al]
  refine U.bx ?_;simp only[au,J,simprocAttr];refine ⟨fun h =>?_,fun h =>?_⟩
  ·cases h
  refine U.exit ?_;try simp only[al,bJ,simprocAttr]
  refine .ak (by decide +kernel) fun K hK =>?_;simp only[sj,J,simprocAttr];obtain ⟨s1,s2,s3⟩:=lU w f (.own 1 (cT c i).2.length) rfl rfl rfl
  try simp only[s2,J,simprocAttr]
  rw[eg s1 s2 (s3.trans (lU (a5 0 0 0 0 0) 0 (.nils 7) rfl rfl rfl).2.2.symm)]
  try simp only[fR,J,simprocAttr]
  refine .done (hK _ ?_);clear hK K;refine U.ret ?_;simp only[J,simprocAttr]
  try simp only[s2,mU (α:=bZ) 7 rfl rfl,cF,J,simprocAttr]
  have hfin:(⟨w,f,(cT c i).2⟩:bQ)=nc c:=by rw[←hout,hw,hf];rfl
  rw[qd,hfin]
 have hic:i<c.length:=by simpa using hz
 try simp only[J,simprocAttr]
 generalize hz2:decide ((i:Int)<12)=bz;cases bz
 ·have hout:=fin12 (fun hh=>by simp at hz2;omega)
  try simp only[J,simprocAttr]
  refine .done (hK _ ?_);clear hK K;refine U.bx ?_;simp only[au,J,simprocAttr];refine ⟨fun h =>?_,fun h =>?_⟩
  ·cases h
  refine U.exit ?_;try simp only[al,bJ,simprocAttr]
  refine .ak (by decide +kernel) fun K hK =>?_;simp only[sj,J,simprocAttr];obtain ⟨s1,s2,s3⟩:=lU w f (.own 1 (cT c i).2.length) rfl rfl rfl
  try simp only[s2,J,simprocAttr]
  rw[eg s1 s2 (s3.trans (lU (a5 0 0 0 0 0) 0 (.nils 7) rfl rfl rfl).2.2.symm)]
  try simp only[fR,J,simprocAttr]
  refine .done (hK _ ?_);clear hK K;refine U.ret ?_;simp only[J,simprocAttr]
  try simp only[s2,mU (α:=bZ) 7 rfl rfl,cF,J,simprocAttr]
  have hfin:(⟨w,f,(cT c i).2⟩:bQ)=nc c:=by rw[←hout,hw,hf];rfl
  rw[qd,hfin]
 have hi12:i<12:=by simp at hz2;omega
 try simp only[xt,cv,J,simprocAttr]
 rw[afw _ 1 _ 63 7 (cT c i).2 (by simp only[J,simprocAttr]) rfl]
 try simp only[J,simprocAttr]
 generalize hz3:decide (((cT c i).2.length:Int)<9)=bz;cases bz
 ·have hout:=fin12 (fun hh=>by simp at hz3;omega)
  try simp only[cv,bP,kC,cF,J,simprocAttr]
  refine .done (hK _ ?_);clear hK K;refine U.bx ?_;simp only[au,J,simprocAttr];refine ⟨fun h =>?_,fun h =>?_⟩
  ·cases h
  refine U.exit ?_;try simp only[al,bJ,simprocAttr]
  refine .ak (by decide +kernel) fun K hK =>?_;simp only[sj,J,simprocAttr];obtain ⟨s1,s2,s3⟩:=lU w f (.own 1 (cT c i).2.length) rfl rfl rfl
  try simp only[s2,J,simprocAttr]
  rw[eg s1 s2 (s3.trans (lU (a5 0 0 0 0 0) 0 (.nils 7) rfl rfl rfl).2.2.symm)]
  try simp only[fR,J,simprocAttr]
  refine .done (hK _ ?_);clear hK K;refine U.ret ?_;simp only[J,simprocAttr]
  try simp only[s2,mU (α:=bZ) 7 rfl rfl,cF,J,simprocAttr]
  have hfin:(⟨w,f,(cT c i).2⟩:bQ)=nc c:=by rw[←hout,hw,hf];rfl
  rw[qd,hfin]
 have hi9:(cT c i).2.length<9:=by simp at hz3;omega
 try simp only[cv,bP,kC,cF,J,simprocAttr]
 refine .done (hK _ ?_);clear hK K;refine U.bx ?_;simp only[au,J,simprocAttr];refine ⟨fun h =>?_,fun h =>?_⟩
 case refine_2.true.true.true.refine_2=>cases h
 have hbk:xz ⟨w,f,(cT c i).2⟩:=by rw[hw,hf];exact ag0 (Kk c (by omega))
 have hstep:cT c (i+1)=qB c i (cT c i):=by simp only[cT,if_pos (show i<c.length∧(cT c i).2.length<9 from ⟨hic,hi9⟩)]
 generalize cT c i=p at *;obtain ⟨o,l⟩:=p;simp only at *;refine U.skip ?_;try simp only[al,simprocAttr]
 refine U.seq (U.block ?_);refine .ak (by decide +kernel) fun K hK =>?_;simp only[Hf,J,simprocAttr]
 try simp only[wL hic,J,simprocAttr]
 refine .flat _ (ja (c.getD i 0) 4 (by decide) (by decide)) rfl ?_
 try simp only[J,simprocAttr]
 rw[cA _ (show -9223372036854775808≤1+c.getD i 0%4 by omega) (by omega),cA _ (by omega) (by omega)];refine .done (hK _ ?_);clear hK K;obtain ⟨o2,ho2⟩:∃ o2,o2=o+(1+c.getD i 0%4):=⟨_,rfl⟩
 rw[←ho2];refine .ak (by decide +kernel) fun K hK =>?_;simp only[Hg,J,simprocAttr]
 try simp only[wL hic,J,simprocAttr]
 rw[cA ((i:Int)*2503) (by omega) (by omega)];refine .flat _ (ja _ 15625 (by decide) (by decide)) rfl ?_
 try simp only[J,simprocAttr]
 refine .lead _ (Pn _) ?_;have hmark:jQ (IntKind.i64.wrap (IntKind.i64.wrap (c.getD i 0*7)+i*2503)%15625) 6=(lC c i 0).mark:=rfl;rw[hmark];obtain ⟨mk,hmk⟩:∃ mk,mk=(lC c i 0).mark:=⟨_,rfl⟩
 rw[←hmk]
 try simp only[Co,Qv,XK,aiH,J,simprocAttr]
 refine .done (hK _ ?_);clear hK K;obtain ⟨s1,s2,s3⟩:=lU w f (.own 1 l.length) rfl rfl rfl;have hokm:cZ mk=true:=by rw[hmk];exact Km _
 refine .ak (by decide +kernel) fun K hK =>?_;simp only[Hh,J,simprocAttr]
 try simp only[s2,mU (α:=bZ) 7 rfl rfl,cv,qd,cF,J,simprocAttr]
 refine .flat _ (Po ⟨w,f,l⟩ mk hbk hokm) rfl ?_;obtain ⟨near,hnear⟩:∃ near,near=l.any (fun h=>jL ⟨w,f,l⟩ h.mark mk):=⟨_,rfl⟩
 have hst:cT c (i+1)=(o2,if near then l else l++[⟨o2,mk⟩]):=by
  rw[hstep,qB,hnear,ho2,hmk,hw,hf];rfl
 have hnear':(l.any fun g=>decide ((dn (iw w g.mark mk) 6:Int)≤IntKind.i64.wrap (2*f)))=near:=by rw[hnear];rfl
 try simp only[hnear',J,simprocAttr]
 refine .done (hK _ ?_);clear hK K;cases near
 ·rw[if_neg (by simp)] at hst;refine U.bx ?_;simp only[au,J,simprocAttr];refine ⟨fun h =>?_,fun h =>?_⟩
  ·refine .bd (by decide +kernel) fun K hK =>?_;simp only[Hi,J,simprocAttr]
   try simp only[xt,oO 7 (⟨o2,mk⟩:bZ) rfl,cv,cF,J,simprocAttr]
   rw[nB (α:=bZ) 63 7 56 1 rfl rfl (by simp) (by simp[maxLen];omega) (by simp;omega)]
   try simp only[xt,cv,J,simprocAttr]
   rw[eg (s:=none) (v:=.own 1 (l++[(⟨o2,mk⟩:bZ)]).length) (old:=.own 1 l.length) rfl rfl rfl];have hset:(I.agg [enc w,.int .i64 f,.own 1 l.length]).dx [2] (.own 1 (l++[(⟨o2,mk⟩:bZ)]).length)=.agg [enc w,.int .i64 f,.own 1 (l++[(⟨o2,mk⟩:bZ)]).length]:=rfl
   try simp only[hset,J,simprocAttr]
   refine .done (hK _ ?_);clear hK K;try simp only[al,bJ]
   refine .bd (by decide +kernel) fun K hK =>?_;simp only[vX,J,simprocAttr];refine .done (hK _ ?_);clear hK K;try simp only[al]
   refine ⟨i+1,by omega,by omega,?_⟩;rw[cA _ (by omega) (by omega),hst];refine aF.bY ?_ ?_ ?_ ?_ <;>simp[aV,bO,bM,br,aq,aW,ct,I.only,I.b8,ah.only,fe,kD,bA]
  ·cases h
 ·rw[if_pos rfl] at hst;refine U.bx ?_;simp only[au,J,simprocAttr];refine ⟨fun h =>?_,fun h =>?_⟩
  ·cases h
  refine U.skip ?_;try simp only[al,bJ,simprocAttr]
  refine .bd (by decide +kernel) fun K hK =>?_;simp only[vX,J,simprocAttr];refine .done (hK _ ?_);clear hK K;try simp only[al]
  refine ⟨i+1,by omega,by omega,?_⟩;rw[cA _ (by omega) (by omega),hst];refine aF.bY ?_ ?_ ?_ ?_ <;>simp[aV,bO,bM,br,aq,aW,ct,I.only,I.b8,ah.only,fe,bA]
theorem Qw(b:Int):dR [.int .i64 0,.int .i64 0] [(1,.int .i64 b)]=some [.int .i64 0,.int .i64 b]:=by simp[dR,I.cd,I.size]
theorem QK(a b c d:Int):gY 2 (some [.agg [.int .i64 a,.int .i64 b],.agg [.int .i64 c,.int .i64 d]])=some (enc ([⟨a,b⟩,⟨c,d⟩]:List Item)):=mO (ys:=([⟨a,b⟩,⟨c,d⟩]:List Item)) 2 rfl
theorem QJ(a b c:Int):gY 1 (some [.int .i64 a,.int .i64 b,.int .i64 c])=some (enc [a,b,c]):=mO (ys:=[a,b,c]) 1 rfl
theorem aiD{A:ae}{n:Nat}{b:I}(m:bQ)(x y z:I){rest:List az}(h:I.aJ (.agg [x,y,z])=Enc.aJ bQ):dO A (some 7) n [] b (enc m) rest (some (.agg [x,y,z]))=aA rest (A.aN n (.box (enc m))):=by
 refine (eg (s:=some 7) (dz _) (by rw[fx];rfl) ((ev m).trans h.symm)).trans ?_;rw[fR]
theorem y8:aC Tryz.prog 22 [] (enc true):=by
 have h1:=Pa iD 10 6 7;have h2:=pV ln iD 20 9;have h3:=pV ln iD 20 14;have h4:=OC ln iD 11;have h5:=Pb iD 2 3 7 7;have h6:=O9 iD 12 12;have h7:=OT ln iD 20 9;rw[XU] at h1;rw[XV] at h2;rw[XW] at h3;rw[XX] at h4;rw[XY] at h5;rw[XZ] at h6;rw[X0] at h7;simp only at h1 h2 h3 h4 h5 h6 h7;have h8:=fun a b=>y5 a b;refine aC.bu Tryz.func22 RY TN VP (t7 rfl) (fun hwf W0 D0 E1 =>?_);simp only[A8,L6,bj];clear hwf;have hst:=fun (A:ae) (rest:List az)=>aiD (A:=A) (n:=2) (b:=.agg [.agg [.int .i64 0,.int .i64 0,.int .i64 0,.int .i64 0,.int .i64 0],.int .i64 0,.nils 7]) ln (.agg [.int .i64 0,.int .i64 0,.int .i64 0,.int .i64 0,.int .i64 0]) (.int .i64 0) (.nils 7) (rest:=rest) rfl;have q1:((2:Int)==2)=true:=rfl;have q2:((1:Int)==1)=true:=rfl;have q3:((0:Int)==0)=true:=rfl;have R:=v6 @hst (v6 @q1 (v6 @q2 (v6 @q3 (v6 @fc (v6 @Qw (v6 @QK (v6 @QI (v6 @qa (v6 @QJ (v6 @bl @J))))))))))
 repeat' ((first |(with_reducible refine .guard (fun hb =>?_) (fun hb =>?_) <;>try simp only[hb])|refine U.aX (by decide +kernel) rfl fun K hK =>?_|refine .lead _ (Pk) ?_|refine .lead _ (Pl) ?_|refine .flat _ (h1) rfl ?_|refine .lead _ (h2) ?_|refine .lead _ (h3) ?_|refine .lead _ (h4) ?_|refine .flat _ (h5) rfl ?_|refine .lead _ (h6) ?_|refine .lead _ (h7) ?_|refine .flat _ (y5 _ _) rfl ?_|refine .flat _ (O4 _ _) rfl ?_|(refine .aQ [0,1,2,3,4,5,6,7,8,9,10,11,12,13,14,15,16,17] hK ?_;clear hK K)|(with_reducible refine .done (hK _ ?_);clear hK K)|refine U.of rfl ?_|(with_reducible refine au.aU (fun h =>?_) (fun h =>?_) <;>try simp only[h])) <;>try simp only[aZ,R,decide_true,simprocAttr])
 all_goals clear R
 all_goals trace_state
end Go.Proofs.YtcldiigclhgafaaGreat
