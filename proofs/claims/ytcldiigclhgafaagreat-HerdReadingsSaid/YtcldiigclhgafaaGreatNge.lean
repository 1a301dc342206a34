/-
  A part of the proof that the law HerdReadings returns true for every input; conditions: none beyond the statement's own. (part 5 of 7)
-/
import Derived.Test.YtcldiigclhgafaaGreatRows
import Derived.Test.YtcldiigclhgafaaGreatNgd
set_option linter.unusedSimpArgs false
set_option linter.unusedVariables false
set_option maxHeartbeats 16000000
set_option maxRecDepth 100000
namespace Go.Proofs.YtcldiigclhgafaaGreat
open Go Go.Abs
open Go.Abs.Enc (enc)
def lj(l:List cq)(i:Nat):List Int:=(l.take i).map (·.bP)
theorem alH(l:List cq):lj l 0=[]:=by simp[lj]
theorem alG{l:List cq}{i:Nat}(h:i<l.length):lj l (i+1)=lj l i++[l[i].bP]:=by
 simp only[lj];rw[zy1 h,zx5];rfl
theorem Mu{l:List cq}{i:Nat}(h:i≤l.length):(lj l i).length=i:=by simp[lj];omega
theorem alF(l:List cq):lj l l.length=l.map (·.bP):=by simp[lj]
theorem QI(l:List cq)(hlen:l.length≤1000):ay Tryz.prog 169 [enc l] (enc (l.map (·.bP))):=by
 refine ay.bn Tryz.func169 Tw Vr XD (t7 rfl) (fun hwf W0 D0 E1 =>?_);simp only[BY,ND,bg];refine .ao (by decide +kernel) fun K hK =>?_;simp only[Hi,U,simprocAttr];refine .done (hK _ ?_);clear hK K;refine .ao (by decide +kernel) fun K hK =>?_;simp only[Hj,U,simprocAttr];refine .done (hK _ ?_);clear hK K;refine J.seq ?_;refine J.seq (J.bx (by decide +kernel) fun K hK =>?_)
 try simp only[Hk,bd,U,simprocAttr]
 refine .done (hK _ ?_);clear hK K;refine J.block (J.loop (fun i:Nat=>au [(3,.own 3 (lj l i).length),(6,enc l),(7,.int .i64 l.length),(8,.int .i64 i)] [(3,.bY 3 1 ((lj l i).map enc))]) (fun i=>i≤l.length) (fun i=>l.length-i) 0 (zw7 _) ?_ (fun i hi =>?_))
 ·refine aC.qM 3 3 3 1 1 ?_ ?_ ?_
  ·simp only[pD,Nat.reduceEqDiff,reduceIte]
  ·simp only[pD]
  ·simp only[alH,zx1,zu2];refine aC.bI ?_ ?_ ?_ ?_ <;>simp[aT,bC,bB,a6,al,aV,cg,I.only,I.bT,ah.only,bh]
 ·refine .ao (by decide +kernel) fun K hK =>?_;simp only[Hl,U,simprocAttr];refine .done (hK _ ?_);clear hK K;refine J.seq ?_;refine J.bM ?_;simp only[ak,U,simprocAttr];refine ⟨fun h =>?_,fun h =>?_⟩
  ·have hlt:i<l.length:=by simpa using h
   refine J.skip ?_;try simp only[ar,simprocAttr]
   refine J.seq (J.block ?_);refine .ao (by decide +kernel) fun K hK =>?_;simp only[Hm,U,simprocAttr]
   try simp only[ft 7 hlt rfl,cI,U,simprocAttr]
   rw[ez (dN _) (by rw[fL];rfl) ((eL _).trans rfl)]
   try simp only[U,simprocAttr]
   refine .done (hK _ ?_);clear hK K;refine .bx (by decide +kernel) fun K hK =>?_;simp only[Hn,U,simprocAttr]
   try simp only[cI,U,simprocAttr]
   rw[nC 3 1 8 3 rfl rfl (by simp) (by simp[maxLen,Mu hi];omega) (by simp[Mu hi];omega)]
   try simp only[U,simprocAttr]
   refine .done (hK _ ?_);clear hK K;try simp only[ar,bO]
   refine .bx (by decide +kernel) fun K hK =>?_;simp only[Ho,U,simprocAttr];refine .done (hK _ ?_);clear hK K;try simp only[ar]
   refine ⟨i+1,by omega,by omega,?_⟩;rw[cF _ (by omega) (by omega),alG hlt];refine aC.bI ?_ ?_ ?_ ?_ <;>simp[aT,bC,bB,a6,al,aV,cg,I.only,I.bT,ah.only,dy,fA,bh,gT]
  ·have hge:i=l.length:=by simp at h;omega
   subst hge;refine J.exit ?_;try simp only[ar,bO,simprocAttr]
   refine .ao (by decide +kernel) fun K hK =>?_;simp only[Hp,U,simprocAttr];refine .done (hK _ ?_);clear hK K;refine J.ret ?_
   try simp only[alF,U,simprocAttr]
def eH(rs:List (aW 6 Int))(j:Nat):aW 6 Int:=rs.getD j lD
theorem ajh{A:ae}{rs:List (aW 6 Int)}{i:Nat}(h:i<rs.length):iF A 6 (i:Int) (enc rs)=some (.ref (enc (eH rs i))):=by
 rw[ft 6 h rfl];simp[eH,zz0,h]
def DU(m:bU)(rs:List (aW 6 Int))(g:cq)(j:Nat):Bool:=decide (lP m.eV g.mark (eH rs j)≤m.eT)
def jO(m:bU)(rs:List (aW 6 Int))(n:Nat):List cq:=m.given.filter fun g=>(List.range n).all (DU m rs g)
theorem ak6(m:bU)(rs:List (aW 6 Int)):jO m rs 0=m.given:=by simp[jO]
theorem LS(m:bU)(rs:List (aW 6 Int))(n:Nat):jO m rs (n+1)=lp ⟨m.eV,m.eT,jO m rs n⟩ (eH rs n):=by
 simp only[jO,lp,fX,List.filter_filter];refine List.filter_congr fun g _ =>?_;rw[List.range_succ,List.all_append];simp only[List.all_cons,List.all_nil,Bool.and_true,DU];by_cases h:lP m.eV g.mark (eH rs n)≤m.eT
 ·have h2:¬ m.eT<lP m.eV g.mark (eH rs n):=by omega
  simp[h,h2]
 ·have h2:m.eT<lP m.eV g.mark (eH rs n):=by omega
  simp[h,h2]
theorem ak5{m:bU}{rs:List (aW 6 Int)}{n:Nat}{g:cq}(h:g∈jO m rs n):g∈m.given:=(zu0.1 h).1
theorem LR(m:bU)(rs:List (aW 6 Int))(n:Nat):(jO m rs n).length≤m.given.length:=zv9 _ _
def yJ(rs:List (aW 6 Int)):Bool:=(List.range rs.length).all fun i=>iw (eH rs i)
def jr(m:bU)(rs:List (aW 6 Int)):List Int×Int:=if eg m then (if rs.length≤60 then (if yJ rs then ((jO m rs rs.length).map (·.bP),0) else ([],12)) else ([],2)) else ([],13)
theorem Sx(w:aW 5 Int)(n:Int)(l:List cq):dZ [enc (a5 0 0 0 0 0),.int .i64 0,.nils 7] [(0,enc w),(1,.int .i64 n),(2,enc l)]=some [enc w,.int .i64 n,enc l]:=by
 have h1:((enc w:I).cm=true∧(enc w:I).size=(enc (a5 0 0 0 0 0)).size):=⟨dN _,by rw[gH,gH]⟩
 have h2:((enc l:I).cm=true∧(enc l:I).size=(I.nils 7).size):=⟨dN _,by rw[gH];rfl⟩
 rw[pf (z:=enc (a5 0 0 0 0 0)) rfl h1.1 h1.2,pf (v:=.int .i64 n) (z:=.int .i64 0) rfl rfl rfl,pf (z:=.nils 7) rfl h2.1 h2.2];rfl
theorem Qg(m:bU)(rs:List (aW 6 Int)):ay Tryz.prog 128 [enc m,enc rs] (.tuple [enc (jr m rs).1,enc (jr m rs).2]):=by
 refine ay.bn Tryz.func128 SY US W5 (t7 rfl) (fun hwf W0 D0 E1 =>?_);simp only[Bp,M2,bg,zz4];refine .ao (by decide +kernel) fun K hK =>?_;simp only[FL,U,simprocAttr]
 try simp only[dN,U,simprocAttr]
 refine .done (hK _ ?_);clear hK K;refine J.seq ?_;refine .ao (by decide +kernel) fun K hK =>?_;simp only[FM,U,simprocAttr]
 try simp only[cI,c8,U,simprocAttr]
 refine .flat _ (sv m) rfl ?_;generalize hm:eg m=bm;cases bm
 ·try simp only[U,simprocAttr]
  refine .done (hK _ ?_);clear hK K;refine .ao (by decide +kernel) fun K hK =>?_;simp only[wH,U,simprocAttr];refine .done (hK _ ?_);clear hK K;refine J.bM ?_;simp only[ak,U,simprocAttr];refine ⟨fun h =>?_,fun h =>?_⟩
  ·refine .ao (by decide +kernel) fun K hK =>?_;simp only[FN,U,simprocAttr];refine .done (hK _ ?_);clear hK K;refine J.ret ?_;simp only[ar,U,simprocAttr];simp[jr,hm,yu]
  ·cases h
 try simp only[U,simprocAttr]
 refine .done (hK _ ?_);clear hK K;refine .ao (by decide +kernel) fun K hK =>?_;simp only[wH,U,simprocAttr];refine .done (hK _ ?_);clear hK K;refine J.bM ?_;simp only[ak,U,simprocAttr];refine ⟨fun h =>?_,fun h =>?_⟩
 ·cases h
 refine J.skip ?_;try simp only[ar,simprocAttr]
 refine J.seq ?_;refine .ao (by decide +kernel) fun K hK =>?_;simp only[FO,U,simprocAttr]
 try simp only[bd,U,simprocAttr]
 refine .done (hK _ ?_);clear hK K;refine J.bM ?_;simp only[ak,U,simprocAttr];refine ⟨fun h =>?_,fun h =>?_⟩
 ·refine .ao (by decide +kernel) fun K hK =>?_;simp only[FP,U,simprocAttr];refine .done (hK _ ?_);clear hK K;refine J.ret ?_;simp only[ar,U,simprocAttr];have:¬ rs.length≤60:=by simp at h;omega
  simp[jr,hm,this,yu]
 have hrl:rs.length≤60:=by simp at h;omega
 refine J.skip ?_;try simp only[ar,simprocAttr]
 have hlen:m.given.length≤1000:=by have:=L4 hm;omega
 -- from the clone on
 have key:∀ c:cU,c=⟨Tryz.prog,W0,D0,Tryz.f128.ntmps,dD E1,E1,iV,none⟩→J c (.seq (.seq (.bV none wI) (.block 0 (.loop (.seq (.bV none wJ) (.seq (.cond (.t 25) .skip (.exit 0)) (.seq (.block 1 (.seq (.bV none wK) (.seq (.seq (.bV none wD) (.seq (.bV none te) (.cond (.t 31) (.seq (.bV none wE) .ret) .skip))) (.bV none wF)))) (.bV none tf))))))) (.seq (.bV none wG) .ret))
   (jS [.tmp 4,.tmp 5] (.tuple [enc (jr m rs).1,enc (jr m rs).2])) (au [(1,enc rs),(2,.ptr 2 []),(7,enc m.given)] [(2,.box (enc m))]):=by
  rintro c rfl;refine J.seq ?_;refine .ao (by decide +kernel) fun K hK =>?_;simp only[wI,U,simprocAttr]
  try simp only[bd,U,simprocAttr]
  refine .done (hK _ ?_);clear hK K;refine J.block (J.loop (fun i:Nat=>au [(1,enc rs),(2,.ptr 2 []),(7,enc (jO m rs i)),(22,enc rs),(23,.int .i64 rs.length),(24,.int .i64 i)] [(2,.box (enc m))]) (fun i=>i≤rs.length∧∀ j,j<i→iw (eH rs j)=true) (fun i=>rs.length-i) 0 ⟨by omega,fun j h=>by omega⟩ ?_ (fun i hi =>?_))
  ·rw[ak6];refine aC.bI ?_ ?_ ?_ ?_ <;>simp[aT,bC,bB,a6,al,aV,cg,I.only,ah.only,bh]
  refine .ao (by decide +kernel) fun K hK =>?_;simp only[wJ,U,simprocAttr];refine .done (hK _ ?_);clear hK K;refine J.seq ?_;refine J.bM ?_;simp only[ak,U,simprocAttr];refine ⟨fun h =>?_,fun h =>?_⟩
  case refine_2.refine_2 =>
   have hge:i=rs.length:=by simp at h;omega
   subst hge;have hok:yJ rs=true:=qN hi.2;refine J.exit ?_;try simp only[ar,bO,simprocAttr]
   refine .ao (by decide +kernel) fun K hK =>?_;simp only[wG,U,simprocAttr]
   try simp only[c8,U,simprocAttr]
   refine .lead _ (QI (jO m rs rs.length) (zu1 (LR _ _ _) hlen)) ?_
   try simp only[U,simprocAttr]
   refine .done (hK _ ?_);clear hK K;refine J.ret ?_;simp only[U,simprocAttr]
   try simp only[c8,U,simprocAttr]
   simp[jr,hm,hrl,hok]
  have hlt:i<rs.length:=by simp at h;omega
  refine J.skip ?_;try simp only[ar,simprocAttr]
  refine J.seq (J.block ?_);refine .ao (by decide +kernel) fun K hK =>?_;simp only[wK,U,simprocAttr]
  try simp only[cI,ajh hlt,D4,qB,U,simprocAttr]
  refine .done (hK _ ?_);clear hK K;refine J.seq ?_;refine .ao (by decide +kernel) fun K hK =>?_;simp only[wD,U,simprocAttr]
  try simp only[cI,c8,U,simprocAttr]
  refine .flat _ (Ac (eH rs i)) rfl ?_;generalize hr:iw (eH rs i)=aK;cases aK
  ·try simp only[U,simprocAttr]
   refine .done (hK _ ?_);clear hK K;refine .ao (by decide +kernel) fun K hK =>?_;simp only[te,U,simprocAttr];refine .done (hK _ ?_);clear hK K;refine J.bM ?_;simp only[ak,U,simprocAttr];refine ⟨fun h =>?_,fun h =>?_⟩
   ·refine .ao (by decide +kernel) fun K hK =>?_;simp only[wE,U,simprocAttr];refine .done (hK _ ?_);clear hK K;refine J.ret ?_;simp only[bO,ar,U,simprocAttr];have hok:yJ rs=false:=oB i hlt hr;simp[jr,hm,hrl,hok,yu]
   ·cases h
  try simp only[U,simprocAttr]
  refine .done (hK _ ?_);clear hK K;refine .ao (by decide +kernel) fun K hK =>?_;simp only[te,U,simprocAttr];refine .done (hK _ ?_);clear hK K;refine J.bM ?_;simp only[ak,U,simprocAttr];refine ⟨fun h =>?_,fun h =>?_⟩
  ·cases h
  refine J.skip ?_;try simp only[ar,simprocAttr]
  have hof:∀ j,j<i+1→iw (eH rs j)=true:=fun j hj=>by
   rcases Nat.lt_or_ge j i with h1 | h1
   ·exact hi.2 j h1
   ·have:j=i:=by omega
    subst this;exact hr
  refine .bx (by decide +kernel) fun K hK =>?_;simp only[wF,U,simprocAttr]
  try simp only[cI,c8,Sx,DZ,qZ,U,simprocAttr]
  refine .bS false [(7,40)] [] [enc (⟨m.eV,m.eT,jO m rs i⟩:bU),enc (eH rs i)] (ME 7 ⟨m.eV,m.eT,jO m rs i⟩ (eH rs i)) rfl (QH ⟨m.eV,m.eT,jO m rs i⟩ (eH rs i) (fun g hg=>L7 hm g (ak5 hg)) (zu1 (LR m rs i) hlen)) fT.nil ⟨.inl ⟨(j4 _ _).symm,bh _ _,dN _⟩,.inl ⟨(j4 _ _).symm,bh _ _,dN _⟩,trivial⟩ ?_ ?_
  ·rintro x os' (⟨_,rfl,rfl⟩ | ⟨k,rfl,rfl⟩)
   ·exact eh.nil (fun _=>rfl) (fun h=>by cases h)
   ·exact eh.qe (fun p=>m3 p _) (fun h=>by cases h) rfl (fun h=>by cases h) rfl (by decide)
  ·rintro x os' (⟨hp,rfl,rfl⟩ | ⟨k,rfl,rfl⟩)
   ·try simp only[j4,gK,zy3,U,simprocAttr]
    refine .done (hK _ ?_);clear hK K;try simp only[ar,bO]
    refine .bx (by decide +kernel) fun K hK =>?_;simp only[tf,U,simprocAttr];refine .done (hK _ ?_);clear hK K;try simp only[ar]
    refine ⟨i+1,⟨by omega,hof⟩,by omega,?_⟩;rw[cF _ (by omega) (by omega),LS,hp];refine aC.bI ?_ ?_ ?_ ?_ <;>simp[aT,bC,bB,a6,al,aV,cg,I.only,ah.only,bh]
   ·try simp only[ja,gK,fB,zy0,zy3,U,simprocAttr]
    refine .done (hK _ ?_);clear hK K;try simp only[ar,bO]
    refine .bx (by decide +kernel) fun K hK =>?_;simp only[tf,U,simprocAttr];refine .done (hK _ ?_);clear hK K;try simp only[ar]
    refine ⟨i+1,⟨by omega,hof⟩,by omega,?_⟩;rw[cF _ (by omega) (by omega),LS];refine aC.rn (y:=enc (lp ⟨m.eV,m.eT,jO m rs i⟩ (eH rs i))) [40] 7 rfl ?_ ?_ ?_ ?_ ?_ ?_
    ·try simp only[iU,zx4,zv5,List.contains_cons,List.contains_nil,Nat.reduceBEq,Bool.or_false,BEq.rfl,rl (α:=cq) (sz:=7) rfl,zK,U,simprocAttr]
    ·simp[cW,a6,ah.only,bh]
    ·simp[aT,gU,aV,I.only,bh]
    ·simp[bC,cW,cg]
    ·simp[bB,al,cg,I.only,bh]
    ·simp[a6,ah.only,bh]
 refine .ao (by decide +kernel) fun K hK =>?_;simp only[FQ,U,simprocAttr]
 try simp only[cI,c8,U,simprocAttr]
 refine .bS false [(7,21)] [] [enc m.given] (vN m.given) rfl (Af m.given hlen) fT.nil ⟨.inl ⟨(j4 _ _).symm,bh _ _,dN _⟩,trivial⟩ ?_ ?_
 ·rintro x os' (⟨_,h | h,rfl⟩ | ⟨_,k,rfl,rfl⟩)
  ·subst h;exact eh.nil (fun _=>rfl) (fun h=>by cases h)
  ·subst h;exact eh.nil (fun _=>rfl) (fun h=>by cases h)
  ·exact eh.qe (fun p=>m3 p _) (fun h=>by cases h) rfl (fun h=>by cases h) rfl (by decide)
 ·rintro x os' (⟨hn,h,rfl⟩ | ⟨hn,k,rfl,rfl⟩)
  ·have hren:∀ x:I,(x=.nils 7∨x=.c0 7)→x.aN (bA [(7,21)])=x:=by rintro x (rfl | rfl) <;>simp only[I.aN]
   rw[hren x h]
   try simp only[gK,zy3,U,simprocAttr]
   refine .done (hK _ ?_);clear hK K;refine J.sub (aC.rn (y:=enc m.given) [] 7 rfl ?_ ?_ ?_ ?_ ?_ ?_) (key _ rfl)
   ·rw[hn];rcases h with rfl | rfl <;>simp only[gG,zx1] <;>rfl
   ·simp[cW,a6,ah.only,bh]
   ·simp[aT,gU,aV,I.only,bh]
   ·simp[bC,cW,cg]
   ·simp[bB,al,cg,I.only,bh]
   ·simp[a6,ah.only,bh]
  ·try simp only[ja,gK,fB,zy0,zy3,U,simprocAttr]
   refine .done (hK _ ?_);clear hK K;refine J.sub (aC.rn (y:=enc m.given) [21] 7 rfl ?_ ?_ ?_ ?_ ?_ ?_) (key _ rfl)
   ·try simp only[iU,zx4,zv5,List.contains_cons,List.contains_nil,Nat.reduceBEq,Bool.or_false,BEq.rfl,rl (α:=cq) (sz:=7) rfl,zK,U,simprocAttr]
   ·simp[cW,a6,ah.only,bh]
   ·simp[aT,gU,aV,I.only,bh]
   ·simp[bC,cW,cg]
   ·simp[bB,al,cg,I.only,bh]
   ·simp[a6,ah.only,bh]
theorem Ep(n:Nat)(ts:List (Nat×I)):∀ t,Abs.b7 (gU [n] ts) t=if (Abs.b7 ts t).only (fun j => ![n].contains j)=true then Abs.b7 ts t else .du:=by
 intro t;simp only[gU]
 induction ts with
 |nil=>simp[Abs.b7]
 |cons q ts ih =>
  obtain ⟨k,v⟩:=q;simp only[zz8,Abs.b7];split
  ·rfl
  ·exact ih
theorem qI{p q:Nat→Bool}(h:∀ n,p n=true→q n=true){y:ah}(hy:y.only p=true):y.only q=true:=by
 cases y with
 |box x=>exact js h _ hy
 |bY T sz es=>exact iX h _ hy
 |dU o=>rfl
 |cT T xs=>rfl
 |cB ks vs=>simp only[ah.only,zz2] at hy ⊢;exact ⟨iX h _ hy.1,iX h _ hy.2⟩
 |it ks vs l c=>simp only[ah.only,zz2] at hy ⊢;exact ⟨iX h _ hy.1,iX h _ hy.2⟩
theorem ud{n k:Nat} : ∀ {ts:List (Nat×I)},(∀ q∈ts,nc n k q.2)→∀ t,nc n k (Abs.b7 ts t)
 | [],_,_=>.inr rfl
 |(a,v)::ts,h,t=>by
  simp only[Abs.b7];split
  ·exact h (a,v) (by simp)
  ·exact ud (fun q hq=>h q (by simp[hq])) t
theorem uf{p:Nat→Bool}{n k:Nat}(hp:p=fun j => ![n].contains j)(f:ah→ah)(hf:∀ y:ah,y.only p=true→f y=y):∀ {os:List (Nat×ah)},a6 p (cW [n] os)→a6 p (cW [n] (os.map fun q=>(q.1,f q.2)))
 | [],_=>trivial
 |(m,y)::os,h=>by
  simp only[zz8,cW,zx4] at h ⊢;split
  ·rename_i hm;rw[if_pos hm] at h;refine ⟨?_,uf (k:=k) hp f hf h.2⟩;rw[hf y h.1];exact h.1
  ·rename_i hm;rw[if_neg hm] at h;exact uf (k:=k) hp f hf h
theorem wo{ys q:List Int}{k:Nat}(hk:ys.length=k):lY 1 0 k (some ((ys++q).map enc))=some (enc ys):=by
 have h:(((ys++q).map (enc (α:=Int))).drop 0).take k=ys.map enc:=by
  rw[List.drop_zero,zx5,zx8 (by simp[hk]),zv6 (by simp[hk])]
 simp only[lY,h];rw[if_pos (kR ys),gG];rfl
theorem zJ{n k:Nat} : ∀ y:ah,y.only (fun j => ![n].contains j)=true→iJ (fm n k) y=y:=fun y hy=>by
 cases y <;>try rfl
 simp only[ah.only] at hy;simp only[iJ,qF (js (fun j hj=>by simpa using hj) _ hy)]
theorem PJ{n:Nat} : ∀ y:ah,y.only (fun j => ![n].contains j)=true→iJ (fR n) y=y:=fun y hy=>by
 cases y <;>try rfl
 simp only[ah.only] at hy;simp only[iJ,zI (js (fun j hj=>by simpa using hj) _ hy)]
theorem zF{ts ts':List (Nat×I)}(h:∀ q∈ts',Abs.b7 ts q.1=q.2):aT ts ts':=by
 induction ts' with
 |nil=>trivial
 |cons q ts' ih=>exact ⟨h q (by simp),ih fun q hq=>h q (by simp[hq])⟩
theorem J.lz{W0:World}{D0:aR}{nn:Nat}{ow:Nat→Prop}{E1:aZ}{Y:Value→List I→List (Nat×ah)→cO→Prop}{kH:Option Nat}{y:aO}{Q:Exit→ae→Prop}{ts:List (Nat×I)}{os:List (Nat×ah)}{a b d n:Nat}{xs:List Int}
  (hd:Abs.b7 ts d=.own n xs.length) (hn:aj os n=some (.cT 3 xs)) (hlt:n<1000000) (hl:xs.length≤60) (ht:∀ t,nc n xs.length (Abs.b7 ts t)) (ho:a6 (fun j => ![n].contains j) (cW [n] os))
  (ts':List (Nat×I)) (h1:∀ q∈ts',q.1≠a∧q.1≠b∧Abs.b7 ts q.1=q.2∧q.2.only (fun j=>j != n)=true)
  (hda:d≠a) (hdb:d≠b)
  (h:J ⟨Tryz.prog,W0,D0,nn,ow,E1,Y,kH⟩ y Q (au ((d,enc (c4 xs))::ts') (cW [n] os))) :
  J ⟨Tryz.prog,W0,D0,nn,ow,E1,Y,kH⟩ (.seq (.bV none [⟨some a,.mv (.t d),none⟩,⟨some b,.call 107 [.t a],none⟩]) y) Q (au ts os):=by
 have hdrop:∀ m,aj (cW [n] os) m=if m=n then none else aj os m:=fun m=>by
  have:=mZ [n] os m;simpa using this
 have ho':∀ m y,aj os m=some y→m≠n→y.only (fun j=>j != n)=true:=fun m y hy hm=>by
  have:=ue ho m y (by rw[hdrop,if_neg hm];exact hy);exact qI (fun j hj=>by simpa using hj) this
 by_cases hx:xs=[]
 ·subst hx;refine J.sub (aC.PO hn (aC.refl _)) ?_;refine J.seq (J.bV (cl:=[]) (by rfl) fun K hK =>?_);have hd':Abs.b7 (ts.map fun q=>(q.1,fR n q.2)) d=.nils 1:=by
   rw[nU _ rfl,hd];simp[fR]
  simp only[U,simprocAttr,hd'];refine .flat _ (zY _ (.inr rfl)) rfl ?_
  try simp only[U,simprocAttr]
  refine .done (hK _ ?_);clear hK K;refine J.sub ((aC.iE [n] d (x:=.nils 1) (y:=enc ([]:List Int)) ?_ (by rfl) ?_).trans (aC.dh ?_ fun m =>?_)) h
  ·simp only[Abs.b7,hda,hdb,if_false];exact hd'
  ·exact uf (k:=0) rfl (iJ (fR n)) PJ ho
  ·refine ⟨by simp[Abs.b7,c4],zF fun q hq =>?_⟩;obtain ⟨k1,k2,k3,k4⟩:=h1 q hq;have hqd:q.1≠d:=fun e=>by
    rw[e,hd] at k3;rw[←k3] at k4;simp[I.only] at k4
   have h5:Abs.b7 (ts.map fun p=>(p.1,fR n p.2)) q.1=q.2:=by
    rw[nU _ rfl,k3,zI k4]
   simp only[Abs.b7,Ep,k1,k2,hqd,if_false,h5];rw[if_pos (js (fun j hj=>by simpa using hj) _ k4)]
  ·rw[hdrop,mZ,rH];by_cases hm:m=n
   ·simp[hm]
   ·cases h6:aj os m with
    |none=>simp[hm]
    |some y =>
     have h7:iJ (fR n) y=y:=PJ _ (qI (fun j hj=>by simpa using hj) (ho' _ _ h6 hm));simp[hm,h7]
 ·refine J.zP hn hx hlt ht (fun m y hy hm=>.inr (ho' m y hy hm)) fun q =>?_;refine J.seq (J.bV (cl:=[]) (by rfl) fun K hK =>?_);have hd':Abs.b7 (ts.map fun p=>(p.1,fm n xs.length p.2)) d=.view n [] 1 0 xs.length:=by
   rw[nU _ rfl,hd];simp[fm]
  simp only[U,simprocAttr,hd'];refine .bS false [(1000000,n)] (bJ 1000000 (xs++List.replicate q 0)) [.view 1000000 [] 1 0 xs.length] _ rfl (uZ xs _ (by omega)) ?_ ?_ ?_ ?_
  ·refine ⟨fun m y hy =>?_,fun m m' h h' _=>by rw[cE.1 h,cE.1 h']⟩;simp only[bJ,aj] at hy;split at hy
   ·rename_i hm;cases hy;subst hm;exact ⟨by simp only[bA,if_true,aj,ah.aN,I.aN,fB],fZ _ _,rfl⟩
   ·cases hy
  ·exact ⟨.inl ⟨by simp[I.aN,bA],cE.2 rfl,rfl⟩,trivial⟩
  ·rintro eH os2 ⟨rfl,rfl⟩;refine ⟨fun m y hy =>?_,fun m m' h h' _=>by rw[cE.1 h,cE.1 h'],fun m hm=>by rw[cE.1 hm];exact cE.2 rfl,fun m a b=>by rw[cE.1 a] at b;simp[bJ,al,aj] at b,rfl,fun _=>rfl⟩;simp only[bJ,aj] at hy;split at hy
   ·cases hy;exact ⟨fZ _ _,rfl,fun h=>by cases h⟩
   ·cases hy
  ·rintro eH os2 ⟨rfl,rfl⟩
   try simp only[bJ,dI,zz8,zx1,ah.aN,I.aN,fB,bA,reduceIte,zy0,zy3,I.cQ,U,simprocAttr]
   refine .done (hK _ ?_);clear hK K;refine J.sub ((aC.iE [n] d (x:=.view n [] 1 0 xs.length) (y:=enc (c4 xs)) ?_ ?_ ?_).trans (aC.dh ?_ fun m =>?_)) h
   ·simp only[Abs.b7,hda,hdb,if_false];exact hd'
   ·have:aj (iU [n] ((n,ah.box (I.agg ((c4 xs++List.replicate q 0).map enc)))::(n,ah.box (I.agg ((xs++List.replicate q 0).map enc)))::os.map fun p=>(p.1,iJ (fm n xs.length) p.2))) n=some (.box (.agg ((c4 xs++List.replicate q 0).map enc))):=by
     rw[oS];simp[aj]
    try simp only[this,U,simprocAttr]
    exact wo (by simp[c4])
   ·have:=uf (k:=0) rfl (iJ (fm n xs.length)) zJ ho;simpa[cW] using this
   ·refine ⟨by simp[Abs.b7],zF fun q hq =>?_⟩;obtain ⟨k1,k2,k3,k4⟩:=h1 q hq;have hqd:q.1≠d:=fun e=>by
     rw[e,hd] at k3;rw[←k3] at k4;simp[I.only] at k4
    have h5:Abs.b7 (ts.map fun p=>(p.1,fm n xs.length p.2)) q.1=q.2:=by
     rw[nU _ rfl,k3,qF k4]
    simp only[Abs.b7,Ep,k1,k2,hqd,if_false,h5];rw[if_pos (js (fun j hj=>by simpa using hj) _ k4)]
   ·rw[hdrop,mZ];by_cases hm:m=n
    ·simp[hm]
    ·simp only[aj,if_neg hm,rH];cases h6:aj os m with
     |none=>simp[hm]
     |some y =>
      have h7:iJ (fm n xs.length) y=y:=zJ _ (qI (fun j hj=>by simpa using hj) (ho' _ _ h6 hm));simp[hm,h7]
def fH(l:List aq)(o:List Nat)(i:Nat):List aD×List Nat:=(o.take i).foldl (lB c5 l) ([],[])
theorem Mz{l:List aq}{o:List Nat}{i:Nat}(h:i<o.length):fH l o (i+1)=lB c5 l (fH l o i) (o.getD i 0):=by
 have e:o.getD i 0=o[i]:=by rw[zz0,zz9 h];rfl
 simp only[fH];rw[zy1 h,List.foldl_append,e];rfl
theorem My(l:List aq)(o:List Nat):fH l o o.length=rR c5 l o:=by simp only[fH,List.take_length];rfl
theorem RY{bs bs':List aD}{x:aq}{n:Nat}(hs:∀ b∈bs,b.b9.length≤n)(h:dK c5 bs x=some bs'):bs'.length≤bs.length+1∧∀ b∈bs',b.b9.length≤n+1:=by
 simp only[dK] at h;split at h
 ·split at h
  ·simp only[u8] at h;subst h;refine ⟨by simp[c5],fun b hb =>?_⟩;simp only[c5,zy4,List.mem_singleton] at hb;rcases hb with hb | rfl
   ·exact Nat.le_succ_of_le (hs b hb)
   ·simp[fP]
  ·cases h
 ·split at h
  ·cases h
  ·rename_i b0 hb0;simp only[zz1] at h;obtain ⟨b',hb',rfl⟩:=h;refine ⟨by simp[lx],fun b hb =>?_⟩;simp only[lx,zx9] at hb;obtain ⟨c,hc,rfl⟩:=hb;split
   ·have h0:=hs b0 (pW hb0).1;simp only[eZ] at hb'
    repeat' split at hb'
    all_goals first
     |(cases hb';done)
     |(simp only[u8] at hb';subst hb';simp only[zz3,List.length_singleton];omega)
     |(simp only[u8] at hb';subst hb';simp only;omega)
   ·exact Nat.le_succ_of_le (hs c hc)
theorem yS(l:List aq)(o:List Nat):∀ i,i≤o.length→((fH l o i).1.map (·.no)).Nodup∧(fH l o i).1.length≤i∧(∀ b∈(fH l o i).1,b.b9.length≤i)∧(fH l o i).2.length≤i
 |0,_=>⟨by simp[fH],by simp[fH],by simp[fH],by simp[fH]⟩
 |i+1,h=>by
  obtain ⟨h1,h2,h3,h4⟩:=yS l o i (by omega);rw[Mz (by omega)];simp only[lB];split
  ·rename_i bs hb;have:=RY h3 hb;exact ⟨AP AF h1 hb,by simp only;omega,this.2,by simp only;omega⟩
  ·exact ⟨h1,by simp only;omega,fun b hb=>Nat.le_succ_of_le (h3 b hb),by simp;omega⟩
theorem Lm(B:Nat)(b:aD):∀ (bs:List aD) (i:Nat),fb B i (bs++[b])=fb B i bs++fb B (i+bs.length) [b]
 | [],i=>rfl
 |a::bs,i=>by
  simp only[zy0,fb,Lm B b bs (i+1),List.length_cons];rw[show i+1+bs.length=i+(bs.length+1) by omega]
theorem alQ(B n:Nat):ew B (n+1)=ew B n++[.ptr (B+2+2*n) []]:=by
 simp only[ew,List.range_succ,zx5,zz8,zx1]
theorem rq{bs:List aD}{n:Nat}(h:¬ (n=43∨n=41∨(2002≤n∧n<2002+2*bs.length))):aj (ec bs) n=none:=by
 have:=xJ (bs:=bs) (n:=n);rw[decide_eq_false h] at this;simpa[al] using this
theorem ai2{bs:List aD}{n:Nat}(h:n=43∨n=41∨(2002≤n∧n<2002+2*bs.length)):∃ y,aj (ec bs) n=some y:=by
 have:=xJ (bs:=bs) (n:=n);rw[decide_eq_true h] at this;exact zw4.1 this
theorem x7{bs bs':List aD}{z y:ah}(h:bs.length≤bs'.length)(n:Nat):aj (ec bs'++((900,z)::(ec bs++[(3,y)]))) n=aj ((900,z)::(ec bs'++[(3,y)])) n:=by
 simp only[kA,aj];by_cases h1:n=43∨n=41∨(2002≤n∧n<2002+2*bs'.length)
 ·obtain ⟨u,hu⟩:=ai2 h1;have:n≠900:=by omega
  simp only[hu,this,if_false]
 ·have h2:aj (ec bs) n=none:=rq (by omega);simp only[rq h1,h2]
theorem ajN{bs:List aD}{z z' y:ah}(n:Nat):aj ((900,z')::(ec bs++((900,z)::(ec bs++[(3,y)])))) n=aj ((900,z')::(ec bs++[(3,y)])) n:=by
 have h:=x7 (bs:=bs) (bs':=bs) (z:=z) (y:=y) (zz7 _) n;by_cases hn:n=900
 ·simp only[aj,hn,if_true]
 ·simp only[aj,if_neg hn] at h ⊢;rw[h]
theorem ajM{bs:List aD}{b:aD}{z y:ah}(hk:bs.length≤60)(hb:b.b9=[])(n:Nat) :
  aj ((2002+2*bs.length,.box (eD b (.own (2003+2*bs.length) 0)))::(2003+2*bs.length,.bY 66 6 [])::(nN bs b++((900,z)::(ec bs++[(3,y)])))) n=aj ((900,z)::(ec (bs++[b])++[(3,y)])) n:=by
 have hC:aj (ec (bs++[b])) n=if n=43 then some (.box (.agg [.mref 41])) else if n=41 then some (.cB (dx (bs++[b])) (ew 2000 bs.length++[.ptr (2002+2*bs.length) []])) else
   match aj (fb 2000 0 bs) n with
   |some u=>some u
   |none=>if n=2002+2*bs.length then some (.box (eD b (.own (2003+2*bs.length) 0))) else if n=2003+2*bs.length then some (.bY 66 6 []) else none:=by
  simp only[ec,aj,Lm,kA,fb,hb,zx1,zu2,zz3,List.length_singleton,alQ,zz4];rfl
 have hL:aj (ec bs) n=if n=43 then some (.box (.agg [.mref 41])) else if n=41 then some (.cB (dx bs) (ew 2000 bs.length)) else aj (fb 2000 0 bs) n:=rfl
 have hlow:n<2002→aj (fb 2000 0 bs) n=none:=fun h=>tE 2000 bs 0 n (by omega);have hhigh:2002+2*bs.length≤n→aj (fb 2000 0 bs) n=none:=fun h=>tC 2000 bs 0 n (by omega);simp only[aj,kA,nN,zy0,hC,hL];by_cases c1:n=2002+2*bs.length
 ·have d1:¬ n=900:=by omega
  have d2:¬ n=43:=by omega
  have d3:¬ n=41:=by omega
  rw[if_pos c1,if_neg d1,if_neg d2,if_neg d3,hhigh (by omega)];simp only[c1,if_true]
 by_cases c2:n=2003+2*bs.length
 ·have d1:¬ n=900:=by omega
  have d2:¬ n=43:=by omega
  have d3:¬ n=41:=by omega
  rw[if_neg c1,if_pos c2,if_neg d1,if_neg d2,if_neg d3,hhigh (by omega)];simp only[c2,if_true];rw[if_neg (by omega)]
 rw[if_neg c1,if_neg c2];by_cases c3:n=41
 ·have d1:¬ n=900:=by omega
  have d2:¬ n=43:=by omega
  rw[if_pos c3,if_neg d1,if_neg d2,if_pos c3]
 rw[if_neg c3,if_neg c1];by_cases fK:n=43
 ·have d1:¬ n=900:=by omega
  simp only[fK,if_true];simp
 rw[if_neg fK,if_neg fK];by_cases iD:n=900
 ·have:=hlow (by omega);subst iD;simp[this]
 ·cases hq:aj (fb 2000 0 bs) n with
  |some u=>simp only[iD,c3,if_false]
  |none=>simp only[iD,c3,c1,c2,if_false]
theorem yL{p:Nat→Bool}{ns:List Nat} : ∀ {os:List (Nat×ah)},a6 p os→a6 p (cW ns os)
 | [],_=>trivial
 |(m,y)::os,h=>by
  simp only[cW,zx4];split
  ·exact ⟨h.1,yL h.2⟩
  ·exact yL h.2
theorem Mh{p:Nat→Bool} : ∀ {os os':List (Nat×ah)},a6 p os→a6 p os'→a6 p (os++os')
 | [],_,_,h=>h
 |_::_,_,h,k=>⟨h.1,Mh h.2 k⟩
theorem Ln{p:Nat→Bool}{B:Nat}(hp:∀ j,B≤j→p j=true):∀ (bs:List aD) (i:Nat),a6 p (fb B i bs)
 | [],_=>trivial
 |b::bs,i=>⟨by simp[ah.only,eD,I.only,I.bT,hp _ (show B≤B+3+2*i by omega)],dy _ _,Ln hp bs (i+1)⟩
theorem ai1{p:Nat→Bool}(hp:∀ j,2000≤j→p j=true)(h41:p 41=true)(bs:List aD):a6 p (ec bs) :=
 ⟨by simp[ah.only,I.only,I.bT,h41],by simp only[ah.only,zz2];exact ⟨dy _ _,yN _ fun i _=>hp _ (by omega)⟩,Ln hp bs 0⟩
def eU(bs:List aD):I:=.ref (.agg [.cX (dx bs) (bs.map fun b=>.ref (enc (⟨b⟩:eJ)))])
theorem Lw{f:I→Option I} : ∀ {xs ys:List I},xs.length=ys.length→(∀ (i:Nat) (x y:I),xs[i]?=some x→ys[i]?=some y→f x=some y)→ga f xs=some ys
 | [],[],_,_=>rfl
 |x::xs,y::ys,hl,h=>by
  have h1:=h 0 x y rfl rfl;have h2:=Lw (f:=f) (xs:=xs) (ys:=ys) (by simpa using hl) fun i a b ha hb=>h (i+1) a b ha hb;simp only[ga,h1,h2]
theorem aat{A:ae}{bs:List aD}(hA:∀ m y,aj (ec bs) m=some y→A.o m=some y):bl true A (.ptr 43 [])=some (eU bs):=by
 have h43:A.o 43=some (.box (.agg [.mref 41])):=hA _ _ rfl;have h41:A.o 41=some (.cB (dx bs) (ew 2000 bs.length)):=hA _ _ rfl;have hl:∀ k,k<bs.length→2002+2*k≠43∧2002+2*k≠41∧2003+2*k≠43∧2003+2*k≠41:=fun k hk=>by omega
 have hm:ga (ej A 7) (ew 2000 bs.length)=some (bs.map fun b=>.ref (enc (⟨b⟩:eJ))):=by
  refine Lw (by simp[ew]) fun i x y hx hy =>?_;have hi:i<bs.length:=by
   have:=(zy6.1 hx).1;simpa[ew] using this
  rw[MF hi] at hx;simp only[zw6,zz9 hi,zy5,u8] at hx hy;subst hx hy;obtain ⟨q1,q2,q3,q4⟩:=hl i hi;have h1:A.o (2000+2+2*i)=some (.box (eD bs[i] (.own (2000+3+2*i) (bs[i]).b9.length))):=hA _ _ (by
   simp only[ec,aj];rw[if_neg (by omega),if_neg (by omega)];have:=tD 2000 bs 0 i hi
   rwa [zz4] at this)
  have h2:A.o (2000+3+2*i)=some (.bY 66 6 ((bs[i]).b9.map enc)):=hA _ _ (by
   simp only[ec,aj];rw[if_neg (by omega),if_neg (by omega)];have:=tF 2000 bs 0 i hi
   rwa [zz4] at this)
  have h3:=mV (m:=3) h2;have h4:cD A (.ptr (2000+2+2*i) [])=some (eD bs[i] (.own (2000+3+2*i) (bs[i]).b9.length)):=by
   simp only[cD,h1];exact iO _
  rw[ej];simp only[I.bD,zz6,if_false,h4];rw[h3];rfl
 have h5:ej A 8 (.mref 41)=some (.cX (dx bs) (bs.map fun b=>.ref (enc (⟨b⟩:eJ)))):=by
  rw[ej];simp only[I.bD,zz6,if_false,h41];rw[if_pos (show I.bZ (dx bs)=true from kR _),hm];rfl
 have h6:ej A 9 (.agg [.mref 41])=some (.agg [.cX (dx bs) (bs.map fun b=>.ref (enc (⟨b⟩:eJ)))]):=by
  rw[ej];simp only[I.bD,I.bZ,Bool.and_true,zz6,if_false,ga,h5,zy5]
 simp only[bl,cD,h43,if_true,iO,I.bD,I.bZ,Bool.and_true,zz6,if_false,h6];rfl
def rQ(l:List aq)(day known:Int):I:=.tuple [eU (rR c5 l (jQ l day known)).1,enc (c4 (cL (rR c5 l (jQ l day known)).2))]
def Rw(l:List aq)(ord:List Int):ae:=au [(3,.ptr 3 []),(9,.nils 1),(11,.ptr 43 []),(12,kS),(45,enc ord),(46,.int .i64 ord.length),(47,.int .i64 0)] [(43,.box (.agg [.mref 41])),(41,.cB [] []),(3,.box (enc l))]
def AB(l:List aq)(o:List Nat)(i:Nat):ae:=au [(3,.ptr 3 []),(9,.own 900 (cL (fH l o i).2).length),(11,.ptr 43 []),(12,kS),(45,enc (cL o)),(46,.int .i64 (cL o).length),(47,.int .i64 i)] ((900,.cT 3 (cL (fH l o i).2))::(ec (fH l o i).1++[(3,.box (enc l))]))
theorem ajj{xs:List Int}{i:Nat}(h:i<xs.length)(A:ae):iF A 1 (i:Int) (enc xs)=some (.ref (.int .i64 (xs.getD i 0))):=by
 rw[ft 1 (by omega) rfl,zz0,zz9 h];rfl
noncomputable abbrev DI (W0:World) (D0:aR) (E1:aZ):cU := { P:=Tryz.prog,fo:=W0,D0:=D0,n:=Tryz.f88.ntmps,own:=dD E1,dS:=E1,Y:=iV,kH:=none }
def PZ:aO:=((aO.bV none tl).seq ((aO.cond (aJ.t 48) aO.skip (aO.exit 2)).seq ((aO.block 3 ((aO.bV none xk).seq ((aO.bV DK tm).seq (aO.cond (aJ.t 64) (aO.bV none Ke) aO.skip)))).seq (aO.bV none Kf))))
def anz:aO:=(aO.bV none Kg).seq ((aO.bV none Kh).seq aO.ret)
theorem Ax(l:List aq)(day known:Int)(hok:dQ l=true){W0:World}{D0:aR}{E1:aZ} : J (DI W0 D0 E1) (.block 2 (.loop PZ)) (ar (fun B=>J (DI W0 D0 E1) anz (jS [.tmp 6,.tmp 7] (rQ l day known)) B) (jS [.tmp 6,.tmp 7] (rQ l day known))) (Rw l (ql l day known)):=by
 have hl:=n9 hok;have hmem:∀ i∈jQ l day known,i<l.length∧(ab l i).kind≠0:=fun i hi=>by
  have h1:=alE hi;refine ⟨DX h1,?_⟩;have:=(zu0.1 h1).2;simp only[zz2,decide_eq_true_eq] at this;exact this.1
 have hol:(jQ l day known).length≤60:=by rw[Mt];exact zu1 (vW l day known) hl
 have hall:=My l (jQ l day known);simp only[rQ,ql,←hall];clear hall;generalize jQ l day known=o at hmem hol ⊢;have htl:(cL o).length=o.length:=by simp[cL]
 refine J.block (J.loop (fun i:Nat=>AB l o i) (fun i=>i≤o.length) (fun i=>o.length-i) 0 (zw7 _) ?_ (fun i hi =>?_))
 ·refine aC.AG 9 900 3 1 rfl rfl ?_;refine aC.dh ?_ (fun n =>?_)
  ·simp[aT,aV,fH,cL]
  ·simp only[fH,cL,List.take_zero,List.foldl_nil,zx1,ec,fb,ew,dx,zu2,List.range_zero,zy0,zy3]
 obtain ⟨hnd,hbl,hsl,hvl⟩:=yS l o i hi;simp only[AB,PZ];have n3:aj ((900,.cT 3 (cL (fH l o i).2))::(ec (fH l o i).1++[(3,.box (enc l))])) 3=some (.box (enc l)):=by
  simp only[aj,kA];rw[rq (by omega)];rfl
 by_cases hlt:i<o.length
 ·have hc:decide ((i:Int)<((cL o).length:Int))=true:=by rw[htl];exact fO hlt
  have hw:=eB (i:=i) (by omega);have hst:=Mz (l:=l) hlt;generalize fH l o i=s at *;obtain ⟨bs,vd⟩:=s;simp only at hnd hbl hsl hvl n3 hst ⊢;obtain ⟨j,hj⟩:∃ j,j=o.getD i 0:=⟨_,rfl⟩
  have hjm:j∈o:=by
   rw[hj,zz0,zz9 hlt];exact zx3 hlt
  obtain ⟨hjl,hjk⟩:=hmem j hjm;rw[←hj] at hst;have he:=kZ hjl;have hi2:∀ A,iF A 1 (i:Int) (enc (cL o))=some (.ref (.int .i64 (j:Int))):=fun A=>by
   rw[ajj (by omega),hj]
   congr 3
   simp[cL,zz0,zz9 hlt]
  obtain ⟨f,hf1,hf2,hf3⟩:=vT (bs:=bs) (yI hok hjl) hjk hnd (fun b hb=>by have:=hsl b hb;omega);have hmo:∀ A,gI A kS=some (nH,nI):=fun A=>rfl;refine .ao (by decide +kernel) fun K hK =>?_;simp only[tl,U,simprocAttr];simp only[hc];refine .done (hK _ ?_);clear hK K;refine J.seq ?_;refine J.bM ?_;simp only[ak,U,simprocAttr];refine ⟨fun h =>?_,fun h =>?_⟩
  case refine_2=>cases h
  refine J.skip ?_;try simp only[ar,simprocAttr]
  refine J.seq (J.block ?_);refine .ao (by decide +kernel) fun K hK =>?_;simp only[xk,U,simprocAttr]
  try simp only[hi2,U,simprocAttr]
  refine .done (hK _ ?_);clear hK K;refine J.seq (J.rV (gs:=tm) [172,173,174,175,176,177] [] [0,1,2,3,4,5,6,7,8,9,10,11,12,13] (by decide +kernel) (fc.of trivial) fun K hK =>?_)
  try simp only[oZ,tm,List.getD_cons_zero,List.getD_cons_succ,n3,he,hmo,hf1,eG,eM,aU,U,simprocAttr]
  have hlo:∀ bs',bs.length≤bs'.length→aj (ec bs'++((900,.cT 3 (cL vd))::(ec bs++[(3,.box (enc l))]))) 900=some (.cT 3 (cL vd)):=fun bs' h=>by
   rw[x7 h];rfl
  have htv:(cL vd).length=vd.length:=by simp[cL]
  have hap:=fun (A:ae) d rest=>vk (A:=A) (d:=d) (e:=3) (bytes:=8) (n:=900) (l:=(cL vd).length) (xs:=cL vd) (y:=(j:Int)) (rest:=rest) rfl (by simp[cL,maxLen];omega) (by simp[cL];omega);refine cG.vT (by omega) hf2 hf3 rfl (fun hb =>?_) (fun bs' hb hk =>?_) (fun hb =>?_)
  ·have hs2:fH l o (i+1)=(bs,vd++[j]):=by rw[hst];simp only[lB,hb]
   have h900:=hlo bs (zz7 _)
   try simp only[U,simprocAttr]
   have R:=v6 @h900 (v6 @hap (v6 @eG (v6 @bd (v6 @aU @U))))
   repeat' ((first |(with_reducible refine .guard (fun hb =>?_) (fun hb =>?_) <;>try simp only[hb])|refine J.aL (by decide +kernel) rfl fun K hK =>?_|(refine .aG [0,1,2,3,4,6,7,8,9,10,11,12,14,17,18,33,45,46,47,48,64] hK ?_;clear hK K)|(with_reducible refine .done (hK _ ?_);clear hK K)|refine J.of rfl ?_|(with_reducible refine ak.aK (fun h =>?_) (fun h =>?_) <;>try simp only[h])) <;>try simp only[aM,R,simprocAttr])
   all_goals clear R
   refine ⟨i+1,by omega,by omega,?_⟩;rw[hs2,hw];have e:cL (vd++[j])=cL vd++[(j:Int)]:=by simp[cL]
   simp only[e];refine aC.dh ?_ (fun n=>ajN n);simp[aT,aV]
  ·have hs2:fH l o (i+1)=(bs',vd):=by rw[hst];simp only[lB,hb]
   try simp only[U,simprocAttr]
   have R:=v6 @eG (v6 @bd (v6 @aU @U))
   repeat' ((first |(with_reducible refine .guard (fun hb =>?_) (fun hb =>?_) <;>try simp only[hb])|refine J.aL (by decide +kernel) rfl fun K hK =>?_|(refine .aG [0,1,2,3,4,6,7,8,9,10,11,12,14,17,18,33,45,46,47,48,64] hK ?_;clear hK K)|(with_reducible refine .done (hK _ ?_);clear hK K)|refine J.of rfl ?_|(with_reducible refine ak.aK (fun h =>?_) (fun h =>?_) <;>try simp only[h])) <;>try simp only[aM,R,simprocAttr])
   all_goals clear R
   refine ⟨i+1,by omega,by omega,?_⟩;rw[hs2,hw];refine aC.dh ?_ (fun n=>x7 (Nat.le_of_eq (vl hk hb).symm) n);simp[aT,aV]
  ·have hs2:fH l o (i+1)=(bs++[fP (ab l j)],vd):=by rw[hst];simp only[lB,hb]
   try simp only[U,simprocAttr]
   have R:=v6 @eG (v6 @bd (v6 @aU @U))
   repeat' ((first |(with_reducible refine .guard (fun hb =>?_) (fun hb =>?_) <;>try simp only[hb])|refine J.aL (by decide +kernel) rfl fun K hK =>?_|(refine .aG [0,1,2,3,4,6,7,8,9,10,11,12,14,17,18,33,45,46,47,48,64] hK ?_;clear hK K)|(with_reducible refine .done (hK _ ?_);clear hK K)|refine J.of rfl ?_|(with_reducible refine ak.aK (fun h =>?_) (fun h =>?_) <;>try simp only[h])) <;>try simp only[aM,R,simprocAttr])
   all_goals clear R
   refine ⟨i+1,by omega,by omega,?_⟩;rw[hs2,hw];refine aC.vi (2002+2*bs.length) (2003+2*bs.length) 66 6 6 [0,8] (eD (fP (ab l j)) (.nils 6)) ?_ rfl ?_ ?_ (by omega)
   ·have:¬ 2002+2*bs.length=41:=by omega
    simp[nN,aj,this]
   ·have h1:¬ 2003+2*bs.length=41:=by omega
    have h2:¬ 2003+2*bs.length=2002+2*bs.length:=by omega
    have h3:¬ 2003+2*bs.length=900:=by omega
    have h4:¬ 2003+2*bs.length=3:=by omega
    have h5:aj (ec bs) (2003+2*bs.length)=none:=rq (by omega);simp only[nN,zy0,aj,kA,h1,h2,h3,h4,h5,if_false]
   ·refine aC.dh ?_ (fun n=>ajM (by omega) rfl n);simp[aT,aV]
 ·have hio:i=o.length:=by omega
  subst hio;have hc:decide ((o.length:Int)<((cL o).length:Int))=false:=by simp[htl]
  refine .ao (by decide +kernel) fun K hK =>?_;simp only[tl,U,simprocAttr]
  try simp only[hc,simprocAttr]
  refine .done (hK _ ?_);clear hK K;refine J.seq ?_;refine J.bM ?_;simp only[ak,U,simprocAttr];refine ⟨fun h =>?_,fun h =>?_⟩
  case refine_1=>cases h
  refine J.exit ?_;try simp only[ar,bO,simprocAttr]
  generalize fH l o o.length=s at *;obtain ⟨bs,vd⟩:=s;simp only at hnd hbl hsl hvl ⊢;have htv:(cL vd).length=vd.length:=by simp[cL]
  have hw2:∀ t,nc 900 (cL vd).length (Abs.b7 [(48,I.bool false),(3,.ptr 3 []),(9,.own 900 (cL vd).length),(11,.ptr 43 []),(12,kS),(45,enc (cL o)),(46,.int .i64 ((cL o).length:Int)),(47,.int .i64 (o.length:Int))] t):=ud (by simp[nc,I.only,bh,kS,I.bT]);refine J.lz (a:=70) (b:=71) (d:=9) (n:=900) (xs:=cL vd) rfl rfl (by decide) (by omega) hw2 ?_ [(11,.ptr 43 [])] ?_ (by decide) (by decide) ?_
  ·refine yL ⟨rfl,Mh (ai1 (fun j hj=>by simp;omega) (by decide) bs) ⟨bh _ _,trivial⟩⟩
  ·simp[Abs.b7,I.only]
  ·have hfin:=fun (ts:List (Nat×I))=>aat (A:=au ts (cW [900] ((900,.cT 3 (cL vd))::(ec bs++[(3,.box (enc l))])))) (bs:=bs) (fun m y hy=>by
    have:m≠900:=fun e=>by
     rw[e,rq (by omega)] at hy;cases hy
    simp only[au,mZ];simp[aj,this,kA,hy])
   have R:=v6 @hfin (v6 @bd (v6 @aU @U))
   repeat' ((first |(with_reducible refine .guard (fun hb =>?_) (fun hb =>?_) <;>try simp only[hb])|refine J.aL (by decide +kernel) rfl fun K hK =>?_|(refine .aG [0,1,2,3,4,6,7,8,9,10,11,12,14,17,18,33,45,46,47,48,64] hK ?_;clear hK K)|(with_reducible refine .done (hK _ ?_);clear hK K)|refine J.of rfl ?_|(with_reducible refine ak.aK (fun h =>?_) (fun h =>?_) <;>try simp only[h])) <;>try simp only[aM,R,simprocAttr])
   all_goals clear R
theorem amK{xs ys:List Int}(h:xs.Perm ys):c4 xs=c4 ys:=by
 unfold c4;have hx:=List.pairwise_mergeSort (le:=fun x y:Int=>decide (x≤y)) (by intro a b c;simp;omega) (by intro a b;simp;omega) xs;have hy:=List.pairwise_mergeSort (le:=fun x y:Int=>decide (x≤y)) (by intro a b c;simp;omega) (by intro a b;simp;omega) ys;refine List.Perm.eq_of_pairwise (fun a b _ _ h k =>?_) hx hy ((List.mergeSort_perm _ _).trans (h.trans (List.mergeSort_perm _ _).symm));simp only[decide_eq_true_eq] at h k;omega
theorem akq{A:ae}{d:Option Nat}{n:Nat}{rest:List aB}{ks vs:List I}{cur:Option Nat} : qi A d n rest (some (.it ks vs [] cur))=aE rest (A.aP d (.tuple [.bool false])):=by
 simp only[qi,if_true]
theorem bt.jN{P:Program}{Y:Value→List I→List (Nat×ah)→cO→Prop}{K:ae→Prop}{A:ae}{d:Option Nat}{n:Nat}{rest:List aB}{ks vs:List I}{left:List Nat}{cur:Option Nat}(hl:left≠[])
  (h:∀ i,i∈left→∃ kk x,ks[i]?=some kk∧vs[i]?=some x∧bt P Y false K (aE rest ((A.aS n (.it ks vs (left.filter (· != i)) (some i))).aP d (.tuple [.bool true,kk,x])))) :
  bt P Y false K (qi A d n rest (some (.it ks vs left cur))):=by
 simp only[qi,if_neg hl];refine .any rfl fun i hi =>?_;obtain ⟨kk,x,h1,h2,h3⟩:=h i hi;simp only[h1,h2];exact h3
def jt(bs:List aD)(p:aD→Bool)(aG:List Nat):List Int:=((aG.map fun i=>bs.getD i default).filter p).map (·.no)
theorem alN(bs:List aD)(p:aD→Bool)(aG:List Nat)(i:Nat):jt bs p (aG++[i])=jt bs p aG++if p (bs.getD i default) then [(bs.getD i default).no] else []:=by
 simp only[jt,zx5,List.filter_append,zz8,zx1,zx4,zv5]
 congr 1
 split <;>rfl
theorem Mx(bs:List aD)(p:aD→Bool)(aG:List Nat):(jt bs p aG).length≤aG.length:=by
 simp only[jt,zy2];exact zu1 (zv9 _ _) (by simp)
theorem alM{bs:List aD}{p:aD→Bool}{aG:List Nat}(h:aG.Perm (List.range bs.length)):(jt bs p aG).Perm ((bs.filter p).map (·.no)):=by
 have e:(List.range bs.length).map (fun i=>bs.getD i default)=bs:=by
  refine List.ext_getElem (by simp) fun i h1 h2 =>?_;simp[zz0,h2]
 simp only[jt];refine List.Perm.map _ ?_;have:=(h.map fun i=>bs.getD i default).filter p
 rwa [e] at this
theorem aly(p:Nat→Bool)(bs:List aD):I.bT p (bs.map fun b=>.ref (enc (⟨b⟩:eJ)))=true:=by
 induction bs with
 |nil=>rfl
 |cons b bs ih=>simp only[zz8,I.bT,I.only,bh,ih,zw5]
def AA(bs:List aD)(p:aD→Bool)(f:FuncId)(caps:List I)(s:List Nat×List Nat×Option Nat):ae :=
 au [(1,.func f caps),(5,.own 905 (jt bs p s.1).length),(12,.dC 12)] [(12,.it (dx bs) (bs.map fun b=>.ref (enc (⟨b⟩:eJ))) s.2.1 s.2.2),(905,.cT 3 (jt bs p s.1))]
theorem sx(bs:List aD)(hn:bs.length≤60)(f:FuncId)(caps:List I)(hcaps:I.eS caps=true)(p:aD→Bool)(hf:∀ b∈bs,ay Tryz.prog f (.ref (enc (⟨b⟩:eJ))::caps) (enc (p b))) :
  ay Tryz.prog 72 [eU bs,.func f caps] (enc (c4 ((bs.filter p).map (·.no)))):=by
 refine ay.bn Tryz.func72 Ue V9 Yl (t7 rfl) (fun hwf W0 D0 E1 =>?_);simp only[CH,On,bg,zz4];clear hwf;have hcl:I.bZ caps=true:=kr caps hcaps;have hfc:∀ aA A,ca aA A caps=some caps:=fun aA A=>j5 aA A caps hcaps;have hon:∀ q,I.bT q caps=true:=fun q=>kc q caps hcl;refine .ao (by decide +kernel) fun K hK =>?_;simp only[JD,U,simprocAttr];refine .done (hK _ ?_);clear hK K;refine .ao (by decide +kernel) fun K hK =>?_;simp only[JE,U,simprocAttr];refine .done (hK _ ?_);clear hK K;refine J.seq (J.seq ?_);refine .bx (by decide +kernel) fun K hK =>?_;simp only[JF,U,simprocAttr]
 try simp only[eU,eG,eM,aU,U,simprocAttr]
 refine .done (hK _ ?_);clear hK K;try simp only[ar]
 refine J.block (J.loop (AA bs p f caps) (fun s=>(s.1++s.2.1).Perm (List.range bs.length)) (fun s=>s.2.1.length) ([],List.range bs.length,none) (by simp) ?_ ?_)
 ·refine aC.AG 5 905 3 1 rfl rfl ?_;refine aC.dh ?_ (fun n =>?_)
  ·simp[aT,aV,jt]
  ·simp only[jt,zx1,zv5,cg,tG,dx,zy2]
   (repeat' split) <;>simp_all
 rintro ⟨aG,left,cur⟩ hC;simp only at hC;have hlen:aG.length+left.length=bs.length:=by simpa using hC.length_eq
 have hpl:=Mx bs p aG;simp only[AA];by_cases hl:left=[]
 ·subst hl;refine .ao (by decide +kernel) fun K hK =>?_;simp only[xi,U,simprocAttr]
  try simp only[eM,akq,U,simprocAttr]
  refine .done (hK _ ?_);clear hK K;refine J.seq ?_;refine J.bM ?_;simp only[ak,U,simprocAttr];refine ⟨fun h =>?_,fun h =>?_⟩
  case refine_1=>cases h
  refine J.exit ?_;try simp only[ar,bO,simprocAttr]
  have hdn:(jt bs p aG).Perm ((bs.filter p).map (·.no)):=alM (by simpa using hC);rw[←amK hdn];generalize jt bs p aG=xs at hpl;refine J.lz (a:=25) (b:=26) (d:=5) (n:=905) (xs:=xs) rfl rfl (by decide) (by omega) (ud (by simp[nc,I.only,I.bT,hon])) (by simp only[cW,dx,zx4,zv5,List.contains_cons];simp[a6,ah.only,dy,aly,-List.map_map]) [] (by simp) (by decide) (by decide) ?_;have R:=v6 @aU @U
  repeat' ((first |(with_reducible refine .guard (fun hb =>?_) (fun hb =>?_) <;>try simp only[hb])|refine J.aL (by decide +kernel) rfl fun K hK =>?_|(refine .aG [0,1,4,5,6,7,12,14,20] hK ?_;clear hK K)|(with_reducible refine .done (hK _ ?_);clear hK K)|refine J.of rfl ?_|(with_reducible refine ak.aK (fun h =>?_) (fun h =>?_) <;>try simp only[h])) <;>try simp only[aM,R,simprocAttr])
  all_goals clear R
 ·refine .ao (by decide +kernel) fun K hK =>?_;simp only[xi,U,simprocAttr]
  try simp only[eM,U,simprocAttr]
  refine bt.jN hl fun i hi =>?_;have hib:i<bs.length:=zw1.1 (hC.mem_iff.1 (by simp[hi]));refine ⟨enc (bs[i]).no,.ref (enc (⟨bs[i]⟩:eJ)),by simp[dx,hib],by simp[hib],?_⟩;have hx:bs.getD i default=bs[i]:=by simp[zz0,hib]
  try simp only[U,simprocAttr]
  refine .done (hK _ ?_);clear hK K;refine J.seq ?_;refine J.bM ?_;simp only[ak,U,simprocAttr];refine ⟨fun h =>?_,fun h =>?_⟩
  case refine_2=>cases h
  refine J.skip ?_;try simp only[ar,simprocAttr]
  refine J.block ?_;have hent:pP (dx bs) (bs.map fun b=>.ref (enc (⟨b⟩:eJ))) (some i)=some (.tuple [.int .i64 (bs[i]).no,.ref (enc (⟨bs[i]⟩:eJ))]):=by
   simp[pP,dx,hib,gT]
  have hsn:=alN bs p aG i;have hps:=Mx bs p (aG++[i]);have hpl2:(left.filter (· != i)).length<left.length:=by
   rcases Nat.lt_or_ge (left.filter (· != i)).length left.length with h | h
   ·exact h
   ·have:=List.filter_eq_self.1 (List.Sublist.eq_of_length_le List.filter_sublist h) i hi;simp at this
  have hnd:left.Nodup:=(List.nodup_append.1 (hC.nodup_iff.2 List.nodup_range)).2.1;have hC2:((aG++[i])++left.filter (· != i)).Perm (List.range bs.length):=by
   have h1:left.Perm (i::left.filter (· != i)):=by
    have h2:(left.filter (· == i)).length=1:=by
     have:=List.nodup_iff_count.1 hnd i;have h3:=List.count_pos_iff.2 hi;have h4:left.count i=(left.filter (· == i)).length:=by rw[List.count,List.countP_eq_length_filter]
     omega
    have h5:left.filter (· == i)=[i]:=by
     obtain ⟨a,ha⟩:=List.length_eq_one_iff.1 h2;have:a∈left.filter (· == i):=by rw[ha];simp
     have:=(zu0.1 this).2;simp at this;rw[ha,this]
    have h6:=(List.filter_append_perm (· == i) left).symm;rw[h5] at h6;exact h6
   refine List.Perm.trans ?_ hC;rw[zz5];exact (h1.symm).append_left aG
  refine .ao (by decide +kernel) fun K hK =>?_;simp only[JG,U,simprocAttr]
  try simp only[hent,eM,aU,U,simprocAttr]
  refine .done (hK _ ?_);clear hK K;refine .ao (by decide +kernel) fun K hK =>?_;simp only[JH,U,simprocAttr]
  try simp only[zy0,zy3,hfc,gv,U,simprocAttr]
  refine .flat _ (hf _ (zx3 hib)) rfl ?_
  try simp only[U,simprocAttr]
  refine .done (hK _ ?_);clear hK K;have hap:=fun (A:ae) d rest=>vk (A:=A) (d:=d) (e:=3) (bytes:=8) (n:=905) (l:=(jt bs p aG).length) (xs:=jt bs p aG) (y:=(bs[i]).no) (rest:=rest) rfl (by simp[maxLen];omega) (by omega);rw[hx] at hsn;rcases hpb:p bs[i]
  ·rw[hpb,if_neg (by decide),zx7] at hsn;have R:=v6 @hpb (v6 @aU @U)
   repeat' ((first |(with_reducible refine .guard (fun hb =>?_) (fun hb =>?_) <;>try simp only[hb])|refine J.aL (by decide +kernel) rfl fun K hK =>?_|(refine .aG [0,1,4,5,6,7,12,14,20] hK ?_;clear hK K)|(with_reducible refine .done (hK _ ?_);clear hK K)|refine J.of rfl ?_|(with_reducible refine ak.aK (fun h =>?_) (fun h =>?_) <;>try simp only[h])) <;>try simp only[aM,R,simprocAttr])
   all_goals clear R
   refine ⟨(aG++[i],left.filter (· != i),some i),hC2,hpl2,?_⟩;simp only[hsn];refine aC.dh ?_ (fun n =>?_)
   ·simp[aT,aV]
   ·simp only[cg,tG];(repeat' split) <;>simp_all
  ·rw[hpb,if_pos rfl] at hsn;have R:=v6 @hpb (v6 @hap (v6 @aU @U))
   repeat' ((first |(with_reducible refine .guard (fun hb =>?_) (fun hb =>?_) <;>try simp only[hb])|refine J.aL (by decide +kernel) rfl fun K hK =>?_|(refine .aG [0,1,4,5,6,7,12,14,20] hK ?_;clear hK K)|(with_reducible refine .done (hK _ ?_);clear hK K)|refine J.of rfl ?_|(with_reducible refine ak.aK (fun h =>?_) (fun h =>?_) <;>try simp only[h])) <;>try simp only[aM,R,simprocAttr])
   all_goals clear R
   refine ⟨(aG++[i],left.filter (· != i),some i),hC2,hpl2,?_⟩;simp only[hsn];refine aC.dh ?_ (fun n =>?_)
   ·simp[aT,aV]
   ·simp only[cg,tG];(repeat' split) <;>simp_all
theorem AR{aA:Bool}{A0:ae}{os:List (Nat×ah)} : ∀ xs:List I,(∀ x∈xs,x.only (al os)=true∧x.cm=true)→jD aA A0 [] os xs xs
 | [],_=>trivial
 |x::xs,h=>⟨.inl ⟨(mq (ρ:=bA []) (fun _=>rfl) x).symm,(h x (by simp)).1,(h x (by simp)).2⟩,AR xs fun y hy=>h y (by simp[hy])⟩
theorem amu(ts:List (Nat×I))(k:Nat)(a b:List Int):au ts (bJ k a++bJ k b)=au ts (bJ k a):=by
 simp only[au];congr 1;funext n;simp only[bJ,zy0,zy3,aj];split <;>rfl
theorem bt.lu{K:ae→Prop}{f:FuncId}{avs:List I}{a1 a2:Option (List I)}{dst:Option Nat}{rest:List aB}{ts:List (Nat×I)}{ws:List Int}{post:cO}(hc:cC Tryz.prog f avs (bJ 1000000 ws) post)(hav:∀ x∈avs,x.only (al (bJ 1000000 ws))=true∧x.cm=true)
  (h:∀ r os',post r os'→∃ ws',os'=bJ 1000000 ws'∧r=.tuple []∧bt Tryz.prog iV false K (aE rest ((au ts (bJ 1000000 ws')).aP dst (.tuple [])))):bt Tryz.prog iV false K (.call f avs a1 a2 dst rest (au ts (bJ 1000000 ws))):=by
 refine .bS false [] (bJ 1000000 ws) avs post rfl hc ⟨fun m y hy =>?_,fun m m' _ _ h=>h⟩ (AR avs hav) ?_ ?_
 ·rw[ah.mq (ρ:=bA []) (fun n=>rfl)];refine ⟨hy,?_⟩;simp only[bJ,aj] at hy;split at hy
  ·cases hy;exact ⟨fZ _ _,rfl⟩
  ·cases hy
 ·intro r os' hp;obtain ⟨ws',rfl,rfl,_⟩:=h r os' hp;refine ⟨fun m y hy =>?_,fun m m' _ _ h=>h,fun m hm=>by rw[cE.1 hm];exact cE.2 rfl,fun m a b=>by rw[cE.1 a] at b;simp[bJ,al,aj] at b,rfl,fun h=>by cases h⟩;simp only[bJ,aj] at hy;split at hy
  ·cases hy;exact ⟨fZ _ _,rfl,fun h=>by cases h⟩
  ·cases hy
 ·intro r os' hp;obtain ⟨ws',rfl,rfl,hw⟩:=h r os' hp;rw[uy,amu];exact hw
theorem kP(ws:List Int)(n:Nat)(f:FuncId)(caps:List I)(hcl:I.bZ caps=true)(az:List Int):∀ x∈.view 1000000 [] 1 0 n::(az.map enc++[.func f caps]),x.only (al (bJ 1000000 ws))=true∧x.cm=true:=by
 intro x hx;simp only[zx6,zy4,zx9,List.not_mem_nil,or_false] at hx;rcases hx with rfl | ⟨y,_,rfl⟩ | rfl
 ·exact ⟨cE.2 rfl,rfl⟩
 ·exact ⟨bh _ _,dN _⟩
 ·exact ⟨nf _ _ (by simpa[I.bD] using hcl),rfl⟩
structure Rs where
 p:List Int
 u:List Int
 v:List Int
 q:List Int
theorem Q8(p u v q:List Int)(a m b n:Nat)(f:FuncId)(caps:List I)(hcl:I.bZ caps=true)(ha:p.length=a)(hm:a+u.length=m)(hb:m+v.length=b)(hu:0<u.length)(hv:0<v.length)(hn:b≤n)(hN:n≤1000) :
  cC Tryz.prog 213 [.view 1000000 [] 1 0 n,enc (a:Int),enc (m:Int),enc (b:Int),.func f caps] (bJ 1000000 (p++u++v++q)) (zi (p++v++u++q)):=by
 refine cC.bn Tryz.func213 TR VO X0 (t7 rfl) (t7 rfl) my (fun hwf W0 D0 E1 =>?_);simp only[Cn,N1,bg,zz4,Nat.reduceAdd];clear hwf;have w1:=je (x:=m) (y:=a) (by omega) (by omega);have w2:=je (x:=b) (y:=m) (by omega) (by omega);refine .ao (by decide +kernel) fun K hK =>?_;simp only[IJ,U,simprocAttr]
 try simp only[w1,simprocAttr]
 refine .done (hK _ ?_);clear hK K;refine .ao (by decide +kernel) fun K hK =>?_;simp only[IK,U,simprocAttr]
 try simp only[w2,simprocAttr]
 refine .done (hK _ ?_);clear hK K;refine J.seq (J.block (J.loop (fun s:Rs=>au [(0,.view 1000000 [] 1 0 n),(2,.int .i64 m),(4,.func f caps),(10,.int .i64 s.u.length),(11,.int .i64 s.v.length)] (bJ 1000000 (s.p++s.u++s.v++s.q))) (fun s=>0<s.u.length∧0<s.v.length∧s.p.length+s.u.length=m∧m+s.v.length≤b∧s.p++s.v++s.u++s.q=p++v++u++q) (fun s=>s.u.length+s.v.length) ⟨p,u,v,q⟩ ⟨hu,hv,by simp only;omega,by simp only;omega,rfl⟩ ?_ ?_))
 ·have e1:m-a=u.length:=by omega
  have e2:b-m=v.length:=by omega
  simp only[e1,e2];refine aC.dh ?_ (fun n=>rfl);simp[aT,aV]
 rintro ⟨p1,u1,v1,q1⟩ ⟨g1,g2,g3,g4,g5⟩;simp only at g1 g2 g3 g4 g5 ⊢;refine J.seq (J.seq ?_);refine .bx (by decide +kernel) fun K hK =>?_;simp only[IL,U,simprocAttr];refine .done (hK _ ?_);clear hK K;try simp only[ar]
 refine J.bM ?_;simp only[ak,U,simprocAttr];refine ⟨fun h =>?_,fun h =>?_⟩
 ·have hne:u1.length≠v1.length:=fun e=>by rw[e] at h;simp at h
  refine J.skip ?_;try simp only[ar,simprocAttr]
  refine J.block (J.seq ?_);refine .bx (by decide +kernel) fun K hK =>?_;simp only[IM,U,simprocAttr];refine .done (hK _ ?_);clear hK K;try simp only[ar]
  refine J.bM ?_;simp only[ak,U,simprocAttr];refine ⟨fun h =>?_,fun h =>?_⟩
  ·have hgt:v1.length<u1.length:=by simp at h;omega
   have w3:=je (x:=m) (y:=u1.length) (by omega) (by omega);have w4:=je (x:=u1.length) (y:=v1.length) (by omega) (by omega);have hs:u1=u1.take v1.length++u1.drop v1.length:=(zx0 _ _).symm;have ht:(u1.take v1.length).length=v1.length:=by rw[zy7];omega
   have hd:(u1.drop v1.length).length=u1.length-v1.length:=by rw[zy9]
   have hc:=vb p1 (u1.take v1.length) (u1.drop v1.length) v1 q1 (m-u1.length) m n v1.length (.func f caps) (by omega) (by omega) (by omega) (by omega) (by omega) hN;rw[zz5 p1,←hs] at hc;refine .ao (by decide +kernel) fun K hK =>?_;simp only[IN,U,simprocAttr]
   try simp only[w3,simprocAttr]
   refine bt.lu hc (kP _ n f caps hcl [_,_,_]) ?_;rintro r os' ⟨rfl,rfl⟩;refine ⟨_,rfl,rfl,?_⟩
   try simp only[U,simprocAttr]
   refine .done (hK _ ?_);clear hK K;refine .bx (by decide +kernel) fun K hK =>?_;simp only[IP,U,simprocAttr]
   try simp only[w4,simprocAttr]
   refine .done (hK _ ?_);clear hK K;try simp only[ar,bO]
   refine ⟨⟨p1++v1,u1.drop v1.length,u1.take v1.length,q1⟩,⟨by simp only;omega,by simp only;omega,by simp only[zz3];omega,by simp only;omega,?_⟩,by simp only;omega,?_⟩
   ·simp only;rw[←g5]
    conv=>rhs;rw[hs]
    simp only[zz5]
   ·simp only[hd,ht];refine aC.dh ?_ (fun n=>rfl);simp[aT,aV]
  ·have hlt:u1.length<v1.length:=by simp at h;omega
   have w3:=je (x:=m) (y:=u1.length) (by omega) (by omega);have w4:=je (x:=v1.length) (y:=u1.length) (by omega) (by omega);have w5:=km m v1.length (by omega);have w6:=je (x:=m+v1.length) (y:=u1.length) (by omega) (by omega);have hs:v1=v1.take (v1.length-u1.length)++v1.drop (v1.length-u1.length):=(zx0 _ _).symm;have ht:(v1.take (v1.length-u1.length)).length=v1.length-u1.length:=by rw[zy7];omega
   have hd:(v1.drop (v1.length-u1.length)).length=u1.length:=by rw[zy9];omega
   have hc:=vb p1 u1 (v1.take (v1.length-u1.length)) (v1.drop (v1.length-u1.length)) q1 (m-u1.length) (m+v1.length-u1.length) n u1.length (.func f caps) (by omega) (by omega) (by omega) (by omega) (by omega) hN;rw[zz5 (p1++u1),←hs] at hc;refine .ao (by decide +kernel) fun K hK =>?_;simp only[IQ,U,simprocAttr]
   try simp only[w3,w5,w6,simprocAttr]
   refine bt.lu hc (kP _ n f caps hcl [_,_,_]) ?_;rintro r os' ⟨rfl,rfl⟩;refine ⟨_,rfl,rfl,?_⟩
   try simp only[U,simprocAttr]
   refine .done (hK _ ?_);clear hK K;refine .bx (by decide +kernel) fun K hK =>?_;simp only[IS,U,simprocAttr]
   try simp only[w4,simprocAttr]
   refine .done (hK _ ?_);clear hK K;try simp only[ar,bO]
   refine ⟨⟨p1,v1.drop (v1.length-u1.length),v1.take (v1.length-u1.length),u1++q1⟩,⟨by simp only;omega,by simp only;omega,by simp only;omega,by simp only;omega,?_⟩,by simp only;omega,?_⟩
   ·simp only;rw[←g5]
    conv=>rhs;rw[hs]
    simp only[zz5]
   ·simp only[hd,ht];rw[←zz5 _ u1 q1];refine aC.dh ?_ (fun n=>rfl);simp[aT,aV]
 ·have he:u1.length=v1.length:=by simp at h;omega
  refine J.exit ?_;try simp only[ar,bO,simprocAttr]
  have w3:=je (x:=m) (y:=u1.length) (by omega) (by omega);have hc:=vb p1 u1 [] v1 q1 (m-u1.length) m n u1.length (.func f caps) (by omega) (by omega) (by simp;omega) rfl (by omega) hN;simp only[zx7] at hc;refine .bx (by decide +kernel) fun K hK =>?_;simp only[IT,U,simprocAttr]
  try simp only[w3,simprocAttr]
  refine bt.lu hc (kP _ n f caps hcl [_,_,_]) ?_;rintro r os' ⟨rfl,rfl⟩;refine ⟨_,rfl,rfl,?_⟩
  try simp only[U,simprocAttr]
  refine .done (hK _ ?_);clear hK K;rw[mu];exact oe rfl g5 ⟨rfl,rfl⟩
theorem uK{el:List aq}{s:List Int}(h:dA el s){i j:Nat}(hij:i<j)(hj:j<s.length):dT el (s.getD i 0) (s.getD j 0):=by
 rw[zz0,zz0,zz9 (by omega),zz9 hj];exact List.pairwise_iff_getElem.1 h i j (by omega) hj hij
theorem qA{el:List aq}{s:List Int}(h:dA el s){i j:Nat}(hij:i≤j)(hj:j<s.length){x:Int}(hx:dT el (s.getD j 0) x):dT el (s.getD i 0) x:=by
 rcases Nat.lt_or_ge i j with h1 | h1
 ·exact x8 (uK h h1 hj) hx
 ·have:i=j:=by omega
  rw[this];exact hx
theorem qz{el:List aq}{s:List Int}(h:dA el s){i j:Nat}(hij:i≤j)(hj:j<s.length){x:Int}(hx:dT el x (s.getD i 0)):dT el x (s.getD j 0):=by
 rcases Nat.lt_or_ge i j with h1 | h1
 ·exact x8 hx (uK h h1 hj)
 ·have:i=j:=by omega
  rw[←this];exact hx
theorem tL{s:List Int}{k:Nat}{x:Int}(h:x∈s.take k):∃ i,i<k∧i<s.length∧s.getD i 0=x:=by
 obtain ⟨i,hi,rfl⟩:=List.getElem_of_mem h;rw[zy7] at hi;exact ⟨i,by omega,by omega,by rw[zz0,zz9 (by omega),List.getElem_take];rfl⟩
theorem qa{s:List Int}{k:Nat}{x:Int}(h:x∈s.drop k):∃ i,k≤i∧i<s.length∧s.getD i 0=x:=by
 obtain ⟨i,hi,rfl⟩:=List.getElem_of_mem h;rw[zy9] at hi;exact ⟨k+i,by omega,by omega,by rw[zz0,zz9 (by omega),List.getElem_drop];rfl⟩
def sn(el:List aq)(l r:List Int)(k i:Nat):Prop:=∀ x∈l.take i++r.take (k-i),∀ y∈l.drop i++r.drop (k-i),dT el x y
theorem YD{el:List aq}{l r:List Int}{k i lo hi:Nat}(hl:dA el l)(hr:dA el r)(h1:lo≤i)(h2:i≤hi)(hlo:lo=0∨lo+r.length=k)(hhi:hi=l.length∨hi=k)(hil:hi≤l.length)(hik:hi≤k)(hlr:k≤lo+r.length)
  (g1:∀ j,lo≤j→j<i→dT el (l.getD j 0) (r.getD (k-1-j) 0)) (g2:∀ j,i≤j→j<hi→dT el (r.getD (k-1-j) 0) (l.getD j 0)):sn el l r k i:=by
 intro x hx y hy;rcases zy4.1 hx with hx | hx
 ·obtain ⟨a,ha1,ha2,rfl⟩:=tL hx;rcases zy4.1 hy with hy | hy
  ·obtain ⟨b,hb1,hb2,rfl⟩:=qa hy;exact uK hl (by omega) hb2
  ·obtain ⟨b,hb1,hb2,rfl⟩:=qa hy;by_cases hli:lo<i
   ·have:=g1 (i-1) (by omega) (by omega);have e:k-1-(i-1)=k-i:=by omega
    rw[e] at this;refine qA hl (j:=i-1) (by omega) (by omega) ?_;exact qz hr (i:=k-i) (by omega) hb2 this
   ·omega
 ·obtain ⟨a,ha1,ha2,rfl⟩:=tL hx;rcases zy4.1 hy with hy | hy
  ·obtain ⟨b,hb1,hb2,rfl⟩:=qa hy;by_cases hih:i<hi
   ·have:=g2 i (zz7 _) hih;refine qA hr (j:=k-1-i) (by omega) (by omega) ?_;exact qz hl (i:=i) (by omega) hb2 this
   ·omega
  ·obtain ⟨b,hb1,hb2,rfl⟩:=qa hy;exact uK hr (by omega) hb2
theorem amN{el:List aq}{l r s1 s2:List Int}{k i:Nat}(hc:sn el l r k i)(h1:s1.Perm (l.take i++r.take (k-i)))(h2:s2.Perm (l.drop i++r.drop (k-i)))(k1:dA el s1)(k2:dA el s2):(s1++s2).Perm (l++r)∧dA el (s1++s2):=by
 refine ⟨(h1.append h2).trans ?_,List.pairwise_append.2 ⟨k1,k2,fun x hx y hy=>hc x (h1.mem_iff.1 hx) y (h2.mem_iff.1 hy)⟩⟩;have e:l.take i++r.take (k-i)++(l.drop i++r.drop (k-i))=l.take i++(r.take (k-i)++l.drop i)++r.drop (k-i):=by simp only[zz5]
 rw[e];refine (((List.perm_append_comm (l₁:=r.take (k-i)) (l₂:=l.drop i)).append_left _).append_right _).trans ?_;have e2:l.take i++(l.drop i++r.take (k-i))++r.drop (k-i)=(l.take i++l.drop i)++(r.take (k-i)++r.drop (k-i)):=by simp only[zz5]
 rw[e2,zx0,zx0]
theorem Ps{el:List aq}{s:List Int}(h:dA el s)(k:Nat):dA el (s.take k):=h.sublist (List.take_sublist _ _)
theorem Pr{el:List aq}{s:List Int}(h:dA el s)(k:Nat):dA el (s.drop k):=h.sublist (List.drop_sublist _ _)
theorem xw{p l r q:List Int}{a i:Nat}(ha:p.length=a)(hi:i<l.length):(p++l++r++q).getD (a+i) 0=l.getD i 0:=by
 subst ha;rw[zz0,zz0,zz5,zz5,zw0 (by omega),Nat.add_sub_cancel_left,zy8 hi]
theorem xy{p l r q:List Int}{m i:Nat}(hm:p.length+l.length=m)(hi:i<r.length):(p++l++r++q).getD (m+i) 0=r.getD i 0:=by
 subst hm;rw[zz0,zz0,zz5 (p++l),zw0 (by rw[zz3];omega),zz3,Nat.add_sub_cancel_left,zy8 hi]
theorem nY(x:Nat):Int.fdiv (x:Int) (2^min (Int.toNat 1) IntKind.u64.bits)=((x / 2:Nat):Int):=by
 have:min (Int.toNat 1) IntKind.u64.bits=1:=rfl;rw[this]
 show Int.fdiv (x:Int) 2=_
 rw[Int.fdiv_eq_ediv_of_nonneg _ (by decide)];rfl
theorem m7{x:Nat}(h:x<9223372036854775807):IntKind.u64.wrap (x:Int)=(x:Int):=by
 simp only[IntKind.wrap,IntKind.bits,IntKind.signed];simp;omega
theorem nX:((0:Int)≤1)=True:=by simp
theorem J.ann{c:cU}{Q:Exit→ae→Prop}{A:ae}{x:aO}{σ:Type}(T:σ→ae)(C:σ→Prop)(h1:J c x (ar (fun B=>∃ s,C s∧Abs.aC B (T s)) fun _ _=>False) A)(h2:∀ s B,C s→Abs.aC B (T s)→Q .normal B):J c x Q A :=
 h1.mono fun e B hq=>by
  cases e <;>simp only[ar] at hq <;>first
   |(obtain ⟨s,k1,k2⟩:=hq;exact h2 s B k1 k2)
   |exact hq.elim
theorem ana{p r q:List Int}{x:Int}{a j:Nat}(ha:p.length=a)(hj:j<r.length):kK (en p r q x j) (a+j) (a+j+1)=en p r q x (j+1):=by
 have e1:en p r q x (j+1)=(p++r.take j)++r[j]::x::(r.drop (j+1)++q):=by
  simp only[en];rw[zy1 hj];simp only[zz5,zy0,zy3]
 have e2:en p r q x j=(p++r.take j)++x::r[j]::(r.drop (j+1)++q):=by
  simp only[en];rw[zv8 hj];simp only[zz5,zy0]
 rw[e1,e2];exact anb (by rw[zz3,zy7];omega) rfl
theorem ajd(p r q:List Int)(x:Int):en p r q x 0=p++[x]++r++q:=by simp[en]
theorem ajg(p r q:List Int)(x:Int):en p r q x r.length=p++r++[x]++q:=by simp[en]
theorem Q2(el:List aq)(hd:mQ el)(hel:el.length≤60)(p l r q:List Int)(a m b n:Nat)(hl0:0<l.length)(hr0:0<r.length)(ha:p.length=a)(hm:a+l.length=m)(hb:m+r.length=b)(hn:b≤n)(hnl:n≤(p++l++r++q).length)(hn1:n≤1000)(hsl:dA el l)(hsr:dA el r)(hlr:∀ x∈l,∀ y∈r,x<y)(hin:∀ x∈l++r,jI el x)(hl1:l.length=1) :
  cC Tryz.prog 204 [.view 1000000 [] 1 0 n,enc (a:Int),enc (m:Int),enc (b:Int),.func 138 [.ref (enc el)]] (bJ 1000000 (p++l++r++q)) (nx el p (l++r) q):=by
 have hlen:(p++l++r++q).length=p.length+l.length+r.length+q.length:=by simp only[zz3]
 have nK:=fun i (hi:i<l.length)=>xw (p:=p) (l:=l) (r:=r) (q:=q) (i:=i) ha hi;have gr:=fun i (hi:i<r.length)=>xy (p:=p) (l:=l) (r:=r) (q:=q) (m:=m) (i:=i) (by omega) hi;have ml:=fun i (hi:i<l.length)=>(show l.getD i 0∈l by rw[zz0,zz9 hi];exact zx3 _)
 have mr:=fun i (hi:i<r.length)=>(show r.getD i 0∈r by rw[zz0,zz9 hi];exact zx3 _)
 refine cC.bn Tryz.func204 vF vI vR (t7 rfl) (t7 rfl) my (fun hwf W0 D0 E1 =>?_);simp only[sO,um,bg,zz4,Nat.reduceAdd];clear hwf;have fo:=je (x:=m) (y:=a) (by omega) (by omega);refine J.seq (J.seq ?_);obtain ⟨x,rfl⟩:=List.length_eq_one_iff.1 hl1;obtain ⟨ws,hws⟩:∃ ws,ws=p++[x]++r++q:=⟨_,rfl⟩
 rw[←hws] at hnl hlen gr nK ⊢;have gx:ws.getD a 0=x:=by have:=nK 0 hl0;simpa using this
 have hxr:=hlr x (by simp);have hxS:=hin x (by simp);have hrS:=fun y (hy:y∈r)=>hin y (by simp[hy]);have h1:((m-a:Nat):Int)=1:=by omega
 refine .bx (by decide +kernel) fun K hK =>?_;simp only[th,U,Nat.reduceEqDiff,reduceIte]
 try simp only[fo,h1,Int.reduceBEq]
 refine .done (hK _ ?_);clear hK K;try simp only[ar]
 refine J.bM ?_
 try simp only[ak,U,Nat.reduceEqDiff,reduceIte]
 refine ⟨fun _ =>?_,fun h =>?_⟩
 rotate_left
 ·simp at h
 refine .ao (by decide +kernel) fun K hK =>?_;simp only[Ig,U,Nat.reduceEqDiff,reduceIte];refine .done (hK _ ?_);clear hK K;refine .ao (by decide +kernel) fun K hK =>?_;simp only[Ik,U,Nat.reduceEqDiff,reduceIte];refine .done (hK _ ?_);clear hK K;refine J.seq (J.block (J.loop (fun s:Nat×Nat=>au [(0,.view 1000000 [] 1 0 n),(1,.int .i64 a),(2,.int .i64 m),(3,.int .i64 b),(4,.func 138 [.ref (enc el)]),(10,.int .i64 ((m+s.1:Nat):Int)),(11,.int .i64 ((m+s.2:Nat):Int))] (bJ 1000000 ws))
  (fun s=>s.1≤s.2∧s.2≤r.length∧(∀ j,j<s.1→dT el (r.getD j 0) x)∧∀ j,s.2≤j→j<r.length→dT el x (r.getD j 0)) (fun s=>s.2-s.1) (0,r.length) ⟨zw7 _,zz7 _,fun j hj=>by omega,fun j h1 h2=>by simp only at h1;omega⟩ ?_ ?_))
 ·have e1:m+0=m:=rfl;simp only[e1,hb];refine aC.dh ?_ (fun n=>rfl);simp[aT,aV]
 rintro ⟨i,j⟩ ⟨g1,g2,g3,g4⟩;simp only at g1 g2 g3 g4 ⊢;by_cases hij:i<j
 ·have hc:decide (((m+i:Nat):Int)<((m+j:Nat):Int))=true:=by simp;omega
  have w1:=km (m+i) (m+j) (by omega);have w2:=m7 (x:=m+i+(m+j)) (by omega);obtain ⟨c,hcd⟩:∃ c,c=(i+j) / 2:=⟨_,rfl⟩
  have hci:i≤c∧c<j:=by omega
  have w3:(m+i+(m+j)) / 2=m+c:=by omega
  have w4:=m7 (x:=m+c) (by omega);have w5:=sj (n:=m+c) (by omega);have w6:=eB (i:=m+c) (by omega);have v1:=gW (n:=n) (i:=m+c) (by omega);have v2:=gW (n:=n) (i:=a) (by omega);have l1:=fD (xs:=ws) (i:=m+c) (by omega);have l2:=fD (xs:=ws) (i:=a) (by omega);rw[gr c (by omega)] at l1;rw[gx] at l2;have hrc:=mr c (by omega);have hcmp:=sr el hd hel (r.getD c 0) x (hrS _ hrc) hxS;have hlt:=tI (l:=el) (hxr _ hrc);simp only[bJ];cases hdc:decide (gF el (r.getD c 0)-gF el x<0) with
  |true =>
   have hd1:dT el (r.getD c 0) x:=hlt.2 (by have:=of_decide_eq_true hdc;omega);have R:=v6 @hc (v6 @w1 (v6 @w2 (v6 @w3 (v6 @w4 (v6 @w5 (v6 @w6 (v6 @nY (v6 @nX (v6 @v1 (v6 @v2 (v6 @l1 (v6 @l2 (v6 @hdc (v6 @dj (v6 @dG (v6 @aU @U))))))))))))))))
   repeat' ((first |(with_reducible refine .guard (fun hb =>?_) (fun hb =>?_) <;>try simp only[hb])|refine J.aL (by decide +kernel) rfl fun K hK =>?_|refine .flat _ (hcmp) rfl ?_|(refine .aG [0,1,2,3,4,10,11,12,13,14,15,16,17,18,19,20,21,22,23,24,28,33,50,58,80,85,103,110,140,151,171,185,199,213] hK ?_;clear hK K)|(with_reducible refine .done (hK _ ?_);clear hK K)|refine J.of rfl ?_|(with_reducible refine ak.aK (fun h =>?_) (fun h =>?_) <;>try simp only[h])) <;>try simp only[aM,R,zy0,Nat.reduceEqDiff,reduceIte,Nat.reduceBEq])
   all_goals clear R
   refine ⟨(c+1,j),⟨by simp only;omega,g2,fun k hk =>?_,g4⟩,by simp only;omega,?_⟩
   ·simp only at hk;exact qA hsr (j:=c) (by omega) (by omega) hd1
   ·refine aC.dh ?_ (fun n=>rfl);simp[aT,aV];omega
  |false =>
   have hd1:dT el x (r.getD c 0):=tH (hxr _ hrc) (by have:=of_decide_eq_false hdc;omega);have R:=v6 @hc (v6 @w1 (v6 @w2 (v6 @w3 (v6 @w4 (v6 @w5 (v6 @w6 (v6 @nY (v6 @nX (v6 @v1 (v6 @v2 (v6 @l1 (v6 @l2 (v6 @hdc (v6 @dj (v6 @dG (v6 @aU @U))))))))))))))))
   repeat' ((first |(with_reducible refine .guard (fun hb =>?_) (fun hb =>?_) <;>try simp only[hb])|refine J.aL (by decide +kernel) rfl fun K hK =>?_|refine .flat _ (hcmp) rfl ?_|(refine .aG [0,1,2,3,4,10,11,12,13,14,15,16,17,18,19,20,21,22,23,24,28,33,50,58,80,85,103,110,140,151,171,185,199,213] hK ?_;clear hK K)|(with_reducible refine .done (hK _ ?_);clear hK K)|refine J.of rfl ?_|(with_reducible refine ak.aK (fun h =>?_) (fun h =>?_) <;>try simp only[h])) <;>try simp only[aM,R,zy0,Nat.reduceEqDiff,reduceIte,Nat.reduceBEq])
   all_goals clear R
   refine ⟨(i,c),⟨by simp only;omega,by simp only;omega,g3,fun k hk hk2 =>?_⟩,by simp only;omega,?_⟩
   ·simp only at hk;exact qz hsr (i:=c) (by omega) hk2 hd1
   ·refine aC.dh ?_ (fun n=>rfl);simp[aT,aV]
 ·have hc:decide (((m+i:Nat):Int)<((m+j:Nat):Int))=false:=by simp;omega
  have he:j=i:=by omega
  subst he;refine J.seq (J.seq ?_);refine .bx (by decide +kernel) fun K hK =>?_;simp only[Iq,U,Nat.reduceEqDiff,reduceIte]
  try simp only[hc]
  refine .done (hK _ ?_);clear hK K;try simp only[ar]
  refine J.bM ?_;simp only[ak,U,Nat.reduceEqDiff,reduceIte];refine ⟨fun h =>?_,fun h =>?_⟩
  ·cases h
  refine J.exit ?_;try simp only[ar,bO,reduceIte]
  refine J.seq (J.seq ?_);refine .bx (by decide +kernel) fun K hK =>?_;simp only[Iu,U,Nat.reduceEqDiff,reduceIte];refine .done (hK _ ?_);clear hK K;try simp only[ar]
  have hi0:=ajd p r q x;rw[hws,←hi0];refine J.block (J.loop (fun k:Nat=>au [(0,.view 1000000 [] 1 0 n),(10,.int .i64 ((m+j:Nat):Int)),(13,.int .i64 ((a+k:Nat):Int))] (bJ 1000000 (en p r q x k))) (fun k=>k≤j) (fun k=>j-k) 0 (zw7 _) ?_ (fun k hk =>?_))
  ·refine aC.dh ?_ (fun n=>rfl);simp[aT,aV]
  have ww:IntKind.i64.wrap (((m+j:Nat):Int)-1)=((a+j:Nat):Int):=by rw[cF _ (by omega) (by omega)];simp at hm;omega
  have hil:(en p r q x k).length=p.length+r.length+1+q.length:=xQ (by omega);by_cases hkj:k<j
  ·have hc2:decide (((a+k:Nat):Int)<((a+j:Nat):Int))=true:=by simp;omega
   have hstep:=ana (p:=p) (r:=r) (q:=q) (x:=x) (j:=k) ha (by omega);generalize en p r q x k=ws at hil hstep ⊢;obtain ⟨i1,hi1e⟩:∃ i1,i1=a+k:=⟨_,rfl⟩
   obtain ⟨j1,hj1e⟩:∃ j1,j1=a+k+1:=⟨_,rfl⟩
   rw[←hj1e,←hi1e] at hstep;have wk:IntKind.i64.wrap ((i1:Int)+1)=(j1:Int):=by rw[cF _ (by omega) (by omega)];omega
   rw[←hi1e] at hc2 ⊢;have hi1:i1<n:=by simp at hm;omega
   have hj1:j1<n:=by simp at hm;omega
   simp only[bJ];have v1:=gW (n:=n) (i:=i1) hi1;have v2:=gW (n:=n) (i:=j1) hj1;have l1:=fD (xs:=ws) (i:=i1) (by omega);have l2:=fD (xs:=ws) (i:=j1) (by omega);have s1:=fun (A:ae) v u rest=>mD (A:=A) (n:=1000000) (xs:=ws) (i:=i1) (by omega) v u rest;obtain ⟨ws2,hws2⟩:∃ ws2,ws2=ws.set i1 (ws.getD j1 0):=⟨_,rfl⟩
   have hw2l:ws2.length=ws.length:=by rw[hws2];simp
   have s2:=fun (A:ae) v u rest=>mD (A:=A) (n:=1000000) (xs:=ws2) (i:=j1) (by omega) v u rest;have l3:=fD (xs:=ws2) (i:=j1) (by omega);have R:=v6 @ww (v6 @hc2 (v6 @wk (v6 @v1 (v6 @v2 (v6 @l1 (v6 @l2 (v6 @l3 (v6 @s1 (v6 @s2 (v6 @dj (v6 @aU @U)))))))))))
   repeat' ((first |(with_reducible refine .guard (fun hb =>?_) (fun hb =>?_) <;>try simp only[hb])|refine J.aL (by decide +kernel) rfl fun K hK =>?_|(refine .aG [0,1,2,3,4,10,11,12,13,14,15,16,17,18,19,20,21,22,23,24,28,33,50,58,80,85,103,110,140,151,171,185,199,213] hK ?_;clear hK K)|(with_reducible refine .done (hK _ ?_);clear hK K)|refine J.of rfl ?_|(with_reducible refine ak.aK (fun h =>?_) (fun h =>?_) <;>try simp only[h])) <;>try simp only[aM,R,←hws2,Nat.reduceEqDiff,reduceIte,Nat.reduceBEq])
   all_goals clear R
   refine ⟨k+1,by omega,by omega,?_⟩;rw[←hstep];simp only[kK,←hws2];have e:a+(k+1)=j1:=by omega
   rw[e];refine aC.dh ?_ (fun n =>?_)
   ·simp[aT,aV]
   ·simp only[aj];split <;>rfl
  ·have hc2:decide (((a+k:Nat):Int)<((a+j:Nat):Int))=false:=by simp;omega
   have hk2:k=j:=by omega
   subst hk2;have R:=v6 @ww (v6 @hc2 (v6 @aU (v6 @eY @U)))
   repeat' ((first |(with_reducible refine .guard (fun hb =>?_) (fun hb =>?_) <;>try simp only[hb])|refine J.aL (by decide +kernel) rfl fun K hK =>?_|(refine .aG [0,1,2,3,4,10,11,12,13,14,15,16,17,18,19,20,21,22,23,24,28,33,50,58,80,85,103,110,140,151,171,185,199,213] hK ?_;clear hK K)|(with_reducible refine .done (hK _ ?_);clear hK K)|refine J.of rfl ?_|(with_reducible refine ak.aK (fun h =>?_) (fun h =>?_) <;>try simp only[h])) <;>try simp only[aM,R,Nat.reduceEqDiff,reduceIte,Nat.reduceBEq])
   all_goals clear R
   refine oe rfl rfl ⟨rfl,r.take k++x::r.drop k,?_,?_,?_⟩
   ·refine List.perm_middle.trans ?_;rw[zx0];exact .refl _
   ·refine zA hsr (fun y hy =>?_) (fun y hy =>?_)
    ·obtain ⟨i,h1,h2,rfl⟩:=tL hy;exact g3 i h1
    ·obtain ⟨i,h1,h2,rfl⟩:=qa hy;exact g4 i h1 h2
   ·rfl
theorem Q3(el:List aq)(hd:mQ el)(hel:el.length≤60)(p l r q:List Int)(a m b n:Nat)(hl0:0<l.length)(hr0:0<r.length)(ha:p.length=a)(hm:a+l.length=m)(hb:m+r.length=b)(hn:b≤n)(hnl:n≤(p++l++r++q).length)(hn1:n≤1000)(hsl:dA el l)(hsr:dA el r)(hlr:∀ x∈l,∀ y∈r,x<y)(hin:∀ x∈l++r,jI el x)(hl1:¬ l.length=1)(hr1:r.length=1) :
  cC Tryz.prog 204 [.view 1000000 [] 1 0 n,enc (a:Int),enc (m:Int),enc (b:Int),.func 138 [.ref (enc el)]] (bJ 1000000 (p++l++r++q)) (nx el p (l++r) q):=by
 have hlen:(p++l++r++q).length=p.length+l.length+r.length+q.length:=by simp only[zz3]
 have nK:=fun i (hi:i<l.length)=>xw (p:=p) (l:=l) (r:=r) (q:=q) (i:=i) ha hi;have gr:=fun i (hi:i<r.length)=>xy (p:=p) (l:=l) (r:=r) (q:=q) (m:=m) (i:=i) (by omega) hi;have ml:=fun i (hi:i<l.length)=>(show l.getD i 0∈l by rw[zz0,zz9 hi];exact zx3 _)
 have mr:=fun i (hi:i<r.length)=>(show r.getD i 0∈r by rw[zz0,zz9 hi];exact zx3 _)
 refine cC.bn Tryz.func204 vF vI vR (t7 rfl) (t7 rfl) my (fun hwf W0 D0 E1 =>?_);simp only[sO,um,bg,zz4,Nat.reduceAdd];clear hwf;have fo:=je (x:=m) (y:=a) (by omega) (by omega);refine J.seq (J.seq ?_);have h1:(((m-a:Nat):Int)==1)=false:=by simp;omega
 obtain ⟨ws,hws⟩:∃ ws,ws=p++l++r++q:=⟨_,rfl⟩
 rw[←hws] at hnl hlen gr nK ⊢;have w0b:=je (x:=b) (y:=m) (by omega) (by omega);refine .bx (by decide +kernel) fun K hK =>?_;simp only[th,U,Nat.reduceEqDiff,reduceIte]
 try simp only[fo,h1]
 refine .done (hK _ ?_);clear hK K;try simp only[ar]
 refine J.bM ?_
 try simp only[ak,U,Nat.reduceEqDiff,reduceIte]
 refine ⟨fun h =>?_,fun _ =>?_⟩
 ·simp at h
 refine J.skip ?_;try simp only[ar]
 refine J.seq (J.seq ?_);obtain ⟨x,rfl⟩:=List.length_eq_one_iff.1 hr1;have gx:ws.getD m 0=x:=by have:=gr 0 hr0;simpa using this
 have hlx:∀ y∈l,y<x:=fun y hy=>hlr y hy x (by simp);have hxS:=hin x (by simp);have hlS:=fun y (hy:y∈l)=>hin y (by simp[hy]);have h2:((b-m:Nat):Int)=1:=by omega
 refine .bx (by decide +kernel) fun K hK =>?_;simp only[xf,U,Nat.reduceEqDiff,reduceIte]
 try simp only[w0b,h2,Int.reduceBEq]
 refine .done (hK _ ?_);clear hK K;try simp only[ar]
 refine J.bM ?_
 try simp only[ak,U,Nat.reduceEqDiff,reduceIte]
 refine ⟨fun _ =>?_,fun h =>?_⟩
 rotate_left
 ·simp at h
 refine .ao (by decide +kernel) fun K hK =>?_;simp only[Ih,U,Nat.reduceEqDiff,reduceIte];refine .done (hK _ ?_);clear hK K;refine .ao (by decide +kernel) fun K hK =>?_;simp only[Ii,U,Nat.reduceEqDiff,reduceIte];refine .done (hK _ ?_);clear hK K;refine J.seq (J.block (J.loop (fun s:Nat×Nat=>au [(0,.view 1000000 [] 1 0 n),(1,.int .i64 a),(2,.int .i64 m),(3,.int .i64 b),(4,.func 138 [.ref (enc el)]),(14,.int .i64 ((a+s.1:Nat):Int)),(15,.int .i64 ((a+s.2:Nat):Int))] (bJ 1000000 ws))
  (fun s=>s.1≤s.2∧s.2≤l.length∧(∀ j,j<s.1→dT el (l.getD j 0) x)∧∀ j,s.2≤j→j<l.length→dT el x (l.getD j 0)) (fun s=>s.2-s.1) (0,l.length) ⟨zw7 _,zz7 _,fun j hj=>by omega,fun j h1 h2=>by simp only at h1;omega⟩ ?_ ?_))
 ·have e1:a+0=a:=rfl;simp only[e1,hm];refine aC.dh ?_ (fun n=>rfl);simp[aT,aV]
 rintro ⟨i,j⟩ ⟨g1,g2,g3,g4⟩;simp only at g1 g2 g3 g4 ⊢;by_cases hij:i<j
 ·have hc:decide (((a+i:Nat):Int)<((a+j:Nat):Int))=true:=by simp;omega
  have w1:=km (a+i) (a+j) (by omega);have w2:=m7 (x:=a+i+(a+j)) (by omega);obtain ⟨c,hcd⟩:∃ c,c=(i+j) / 2:=⟨_,rfl⟩
  have hci:i≤c∧c<j:=by omega
  have w3:(a+i+(a+j)) / 2=a+c:=by omega
  have w4:=m7 (x:=a+c) (by omega);have w5:=sj (n:=a+c) (by omega);have w6:=eB (i:=a+c) (by omega);have v1:=gW (n:=n) (i:=a+c) (by omega);have v2:=gW (n:=n) (i:=m) (by omega);have l1:=fD (xs:=ws) (i:=a+c) (by omega);have l2:=fD (xs:=ws) (i:=m) (by omega);rw[nK c (by omega)] at l1;rw[gx] at l2;have hrc:=ml c (by omega);have hcmp:=sr el hd hel x (l.getD c 0) hxS (hlS _ hrc);have hlt:=tI (l:=el) (hlx _ hrc);simp only[bJ];cases hdc:decide (gF el x-gF el (l.getD c 0)<0) with
  |true =>
   have hd1:dT el x (l.getD c 0):=hlt.2 (by have:=of_decide_eq_true hdc;omega);have R:=v6 @hc (v6 @w1 (v6 @w2 (v6 @w3 (v6 @w4 (v6 @w5 (v6 @w6 (v6 @nY (v6 @nX (v6 @v1 (v6 @v2 (v6 @l1 (v6 @l2 (v6 @hdc (v6 @dj (v6 @dG (v6 @aU @U))))))))))))))))
   repeat' ((first |(with_reducible refine .guard (fun hb =>?_) (fun hb =>?_) <;>try simp only[hb])|refine J.aL (by decide +kernel) rfl fun K hK =>?_|refine .flat _ (hcmp) rfl ?_|(refine .aG [0,1,2,3,4,10,11,12,13,14,15,16,17,18,19,20,21,22,23,24,28,33,50,58,80,85,103,110,140,151,171,185,199,213] hK ?_;clear hK K)|(with_reducible refine .done (hK _ ?_);clear hK K)|refine J.of rfl ?_|(with_reducible refine ak.aK (fun h =>?_) (fun h =>?_) <;>try simp only[h])) <;>try simp only[aM,R,zy0,Nat.reduceEqDiff,reduceIte,Nat.reduceBEq])
   all_goals clear R
   refine ⟨(i,c),⟨by simp only;omega,by simp only;omega,g3,fun k hk hk2 =>?_⟩,by simp only;omega,?_⟩
   ·simp only at hk;exact qz hsl (i:=c) (by omega) hk2 hd1
   ·refine aC.dh ?_ (fun n=>rfl);simp[aT,aV]
  |false =>
   have hd1:dT el (l.getD c 0) x:=tH (hlx _ hrc) (by have:=of_decide_eq_false hdc;omega);have R:=v6 @hc (v6 @w1 (v6 @w2 (v6 @w3 (v6 @w4 (v6 @w5 (v6 @w6 (v6 @nY (v6 @nX (v6 @v1 (v6 @v2 (v6 @l1 (v6 @l2 (v6 @hdc (v6 @dj (v6 @dG (v6 @aU @U))))))))))))))))
   repeat' ((first |(with_reducible refine .guard (fun hb =>?_) (fun hb =>?_) <;>try simp only[hb])|refine J.aL (by decide +kernel) rfl fun K hK =>?_|refine .flat _ (hcmp) rfl ?_|(refine .aG [0,1,2,3,4,10,11,12,13,14,15,16,17,18,19,20,21,22,23,24,28,33,50,58,80,85,103,110,140,151,171,185,199,213] hK ?_;clear hK K)|(with_reducible refine .done (hK _ ?_);clear hK K)|refine J.of rfl ?_|(with_reducible refine ak.aK (fun h =>?_) (fun h =>?_) <;>try simp only[h])) <;>try simp only[aM,R,zy0,Nat.reduceEqDiff,reduceIte,Nat.reduceBEq])
   all_goals clear R
   refine ⟨(c+1,j),⟨by simp only;omega,g2,fun k hk =>?_,g4⟩,by simp only;omega,?_⟩
   ·simp only at hk;exact qA hsl (j:=c) (by omega) (by omega) hd1
   ·refine aC.dh ?_ (fun n=>rfl);simp[aT,aV];omega
 ·have hc:decide (((a+i:Nat):Int)<((a+j:Nat):Int))=false:=by simp;omega
  have he:j=i:=by omega
  subst he;refine J.seq (J.seq ?_);refine .bx (by decide +kernel) fun K hK =>?_;simp only[Ij,U,Nat.reduceEqDiff,reduceIte]
  try simp only[hc]
  refine .done (hK _ ?_);clear hK K;try simp only[ar]
  refine J.bM ?_;simp only[ak,U,Nat.reduceEqDiff,reduceIte];refine ⟨fun h =>?_,fun h =>?_⟩
  ·cases h
  refine J.exit ?_;try simp only[ar,bO,reduceIte]
  refine J.seq (J.seq ?_);refine .bx (by decide +kernel) fun K hK =>?_;simp only[Il,U,Nat.reduceEqDiff,reduceIte];refine .done (hK _ ?_);clear hK K;try simp only[ar]
  have hi0:=ajg p l q x;rw[hws,←hi0];refine J.block (J.loop (fun k:Nat=>au [(0,.view 1000000 [] 1 0 n),(14,.int .i64 ((a+j:Nat):Int)),(17,.int .i64 ((a+k:Nat):Int))] (bJ 1000000 (en p l q x k))) (fun k=>j≤k∧k≤l.length) (fun k=>k-j) l.length ⟨g2,zz7 _⟩ ?_ (fun k hk =>?_))
  ·rw[hm];refine aC.dh ?_ (fun n=>rfl);simp[aT,aV]
  have hil:(en p l q x k).length=p.length+l.length+1+q.length:=xQ (by omega);by_cases hkj:j<k
  ·have hc2:decide (((a+j:Nat):Int)<((a+k:Nat):Int))=true:=by simp;omega
   obtain ⟨k',rfl⟩:∃ k',k=k'+1:=⟨k-1,by omega⟩
   have hstep:=KZ (p:=p) (t:=l) (rest:=q) (x:=x) (c:=k') ha (by omega);generalize en p l q x (k'+1)=ws at hil hstep ⊢;obtain ⟨i1,hi1e⟩:∃ i1,i1=a+(k'+1):=⟨_,rfl⟩
   obtain ⟨j1,hj1e⟩:∃ j1,j1=a+k':=⟨_,rfl⟩
   have hij:a+k'+1=i1:=by omega
   rw[hij,←hj1e] at hstep;have wk:IntKind.i64.wrap ((i1:Int)-1)=(j1:Int):=by rw[cF _ (by omega) (by omega)];omega
   rw[←hi1e] at hc2 ⊢;have hi1:i1<n:=by omega
   have hj1:j1<n:=by omega
   simp only[bJ];have v1:=gW (n:=n) (i:=i1) hi1;have v2:=gW (n:=n) (i:=j1) hj1;have l1:=fD (xs:=ws) (i:=i1) (by omega);have l2:=fD (xs:=ws) (i:=j1) (by omega);have s1:=fun (A:ae) v u rest=>mD (A:=A) (n:=1000000) (xs:=ws) (i:=i1) (by omega) v u rest;obtain ⟨ws2,hws2⟩:∃ ws2,ws2=ws.set i1 (ws.getD j1 0):=⟨_,rfl⟩
   have hw2l:ws2.length=ws.length:=by rw[hws2];simp
   have s2:=fun (A:ae) v u rest=>mD (A:=A) (n:=1000000) (xs:=ws2) (i:=j1) (by omega) v u rest;have l3:=fD (xs:=ws2) (i:=j1) (by omega);have R:=v6 @hc2 (v6 @wk (v6 @v1 (v6 @v2 (v6 @l1 (v6 @l2 (v6 @l3 (v6 @s1 (v6 @s2 (v6 @dj (v6 @aU @U))))))))))
   repeat' ((first |(with_reducible refine .guard (fun hb =>?_) (fun hb =>?_) <;>try simp only[hb])|refine J.aL (by decide +kernel) rfl fun K hK =>?_|(refine .aG [0,1,2,3,4,10,11,12,13,14,15,16,17,18,19,20,21,22,23,24,28,33,50,58,80,85,103,110,140,151,171,185,199,213] hK ?_;clear hK K)|(with_reducible refine .done (hK _ ?_);clear hK K)|refine J.of rfl ?_|(with_reducible refine ak.aK (fun h =>?_) (fun h =>?_) <;>try simp only[h])) <;>try simp only[aM,R,←hws2,Nat.reduceEqDiff,reduceIte,Nat.reduceBEq])
   all_goals clear R
   refine ⟨k',by omega,by omega,?_⟩;rw[←hstep];simp only[kK,←hws2,←hj1e];refine aC.dh ?_ (fun n =>?_)
   ·simp[aT,aV]
   ·simp only[aj];split <;>rfl
  ·have hc2:decide (((a+j:Nat):Int)<((a+k:Nat):Int))=false:=by simp;omega
   have hk2:k=j:=by omega
   subst hk2;have R:=v6 @hc2 (v6 @aU (v6 @eY @U))
   repeat' ((first |(with_reducible refine .guard (fun hb =>?_) (fun hb =>?_) <;>try simp only[hb])|refine J.aL (by decide +kernel) rfl fun K hK =>?_|(refine .aG [0,1,2,3,4,10,11,12,13,14,15,16,17,18,19,20,21,22,23,24,28,33,50,58,80,85,103,110,140,151,171,185,199,213] hK ?_;clear hK K)|(with_reducible refine .done (hK _ ?_);clear hK K)|refine J.of rfl ?_|(with_reducible refine ak.aK (fun h =>?_) (fun h =>?_) <;>try simp only[h])) <;>try simp only[aM,R,Nat.reduceEqDiff,reduceIte,Nat.reduceBEq])
   all_goals clear R
   refine oe rfl rfl ⟨rfl,l.take k++x::l.drop k,?_,?_,?_⟩
   ·refine List.perm_middle.trans ?_;rw[zx0];exact List.perm_append_comm (l₁:=[x])
   ·refine zA hsl (fun y hy =>?_) (fun y hy =>?_)
    ·obtain ⟨i,h1,h2,rfl⟩:=tL hy;exact g3 i h1
    ·obtain ⟨i,h1,h2,rfl⟩:=qa hy;exact g4 i h1 h2
   ·rfl
theorem Q4(el:List aq)(hd:mQ el)(hel:el.length≤60)(N:Nat)(ih:∀ (p l r q:List Int) (a m b n:Nat),l.length+r.length≤N→0<l.length→0<r.length→p.length=a→a+l.length=m→m+r.length=b→b≤n→n≤(p++l++r++q).length→n≤1000→dA el l→dA el r→(∀ x∈l,∀ y∈r,x<y)→(∀ x∈l++r,jI el x) →
  cC Tryz.prog 204 [.view 1000000 [] 1 0 n,enc (a:Int),enc (m:Int),enc (b:Int),.func 138 [.ref (enc el)]] (bJ 1000000 (p++l++r++q)) (nx el p (l++r) q)) (p l r q:List Int) (a m b n:Nat) (hl0:0<l.length) (hr0:0<r.length) (ha:p.length=a) (hm:a+l.length=m) (hb:m+r.length=b) (hn:b≤n) (hnl:n≤(p++l++r++q).length) (hn1:n≤1000) (hsl:dA el l) (hsr:dA el r) (hlr:∀ x∈l,∀ y∈r,x<y) (hin:∀ x∈l++r,jI el x) (hN:l.length+r.length≤N+1) (hl1:¬ l.length=1) (hr1:¬ r.length=1) :
  cC Tryz.prog 204 [.view 1000000 [] 1 0 n,enc (a:Int),enc (m:Int),enc (b:Int),.func 138 [.ref (enc el)]] (bJ 1000000 (p++l++r++q)) (nx el p (l++r) q):=by
 have hlen:(p++l++r++q).length=p.length+l.length+r.length+q.length:=by simp only[zz3]
 have nK:=fun i (hi:i<l.length)=>xw (p:=p) (l:=l) (r:=r) (q:=q) (i:=i) ha hi;have gr:=fun i (hi:i<r.length)=>xy (p:=p) (l:=l) (r:=r) (q:=q) (m:=m) (i:=i) (by omega) hi;have ml:=fun i (hi:i<l.length)=>(show l.getD i 0∈l by rw[zz0,zz9 hi];exact zx3 _)
 have mr:=fun i (hi:i<r.length)=>(show r.getD i 0∈r by rw[zz0,zz9 hi];exact zx3 _)
 refine cC.bn Tryz.func204 vF vI vR (t7 rfl) (t7 rfl) my (fun hwf W0 D0 E1 =>?_);simp only[sO,um,bg,zz4,Nat.reduceAdd];clear hwf;have fo:=je (x:=m) (y:=a) (by omega) (by omega);refine J.seq (J.seq ?_);have h1:(((m-a:Nat):Int)==1)=false:=by simp;omega
 obtain ⟨ws,hws⟩:∃ ws,ws=p++l++r++q:=⟨_,rfl⟩
 rw[←hws] at hnl hlen gr nK ⊢;have w0b:=je (x:=b) (y:=m) (by omega) (by omega);refine .bx (by decide +kernel) fun K hK =>?_;simp only[th,U,Nat.reduceEqDiff,reduceIte]
 try simp only[fo,h1]
 refine .done (hK _ ?_);clear hK K;try simp only[ar]
 refine J.bM ?_
 try simp only[ak,U,Nat.reduceEqDiff,reduceIte]
 refine ⟨fun h =>?_,fun _ =>?_⟩
 ·simp at h
 refine J.skip ?_;try simp only[ar]
 refine J.seq (J.seq ?_);have h2:(((b-m:Nat):Int)==1)=false:=by simp;omega
 refine .bx (by decide +kernel) fun K hK =>?_;simp only[xf,U,Nat.reduceEqDiff,reduceIte]
 try simp only[w0b,h2]
 refine .done (hK _ ?_);clear hK K;try simp only[ar]
 refine J.bM ?_
 try simp only[ak,U,Nat.reduceEqDiff,reduceIte]
 refine ⟨fun h =>?_,fun _ =>?_⟩
 ·simp at h
 refine J.skip ?_;try simp only[ar]
 obtain ⟨k,hk⟩:∃ k,k=(l.length+r.length) / 2:=⟨_,rfl⟩
 have w1:=km a b (by omega);have w2:=m7 (x:=a+b) (by omega);have w3:(a+b) / 2=a+k:=by omega
 have w4:=m7 (x:=a+k) (by omega);have w5:=sj (n:=a+k) (by omega);have w6:=km (a+k) m (by omega);refine .ao (by decide +kernel) fun K hK =>?_;simp only[Im,U,Nat.reduceEqDiff,reduceIte]
 try simp only[w1,w2,w3,w5,nY,nX,U,Nat.reduceEqDiff,reduceIte]
 refine .done (hK _ ?_);clear hK K;refine .ao (by decide +kernel) fun K hK =>?_;simp only[Io,U,Nat.reduceEqDiff,reduceIte]
 try simp only[w6]
 refine .done (hK _ ?_);clear hK K;refine .ao (by decide +kernel) fun K hK =>?_;simp only[Ip,U];refine .done (hK _ ?_);clear hK K;obtain ⟨lo,hi,q1,q2,q3,q4,q5,q6,q7⟩:∃ lo hi,(if a+k<m then lo+r.length=k∧hi=k else lo=0∧hi=l.length)∧lo≤hi∧hi≤l.length∧hi≤k∧k≤lo+r.length∧(lo=0∨lo+r.length=k)∧(hi=l.length∨hi=k):=by
  by_cases h:a+k<m
  ·exact ⟨k-r.length,k,by rw[if_pos h];omega,by omega,by omega,by omega,by omega,by omega,by omega⟩
  ·exact ⟨0,l.length,by rw[if_neg h];omega,by omega,by omega,by omega,by omega,by omega,by omega⟩
 refine J.seq (J.zR (au [(0,.view 1000000 [] 1 0 n),(1,.int .i64 a),(2,.int .i64 m),(3,.int .i64 b),(4,.func 138 [.ref (enc el)]),(18,.int .i64 ((a+k:Nat):Int)),(19,.int .i64 ((a+k+m:Nat):Int)),(20,.int .i64 ((a+lo:Nat):Int)),(21,.int .i64 ((a+hi:Nat):Int))] (bJ 1000000 ws)) ?_ fun B hB=>J.sub hB ?_)
 ·by_cases h:a+k<m
  ·rw[if_pos h] at q1;have hc:decide (((a+k:Nat):Int)<(m:Int))=true:=by simp;omega
   have w7:=je (x:=a+k+m) (y:=b) (by omega) (by omega);have e1:a+k+m-b=a+lo:=by omega
   have R:=v6 @hc (v6 @w7 (v6 @e1 (v6 @aU @U)))
   repeat' ((first |(with_reducible refine .guard (fun hb =>?_) (fun hb =>?_) <;>try simp only[hb])|refine J.aL (by decide +kernel) rfl fun K hK =>?_|(refine .aG [0,1,2,3,4,10,11,12,13,14,15,16,17,18,19,20,21,22,23,24,28,33,50,58,80,85,103,110,140,151,171,185,199,213] hK ?_;clear hK K)|(with_reducible refine .done (hK _ ?_);clear hK K)|refine J.of rfl ?_|(with_reducible refine ak.aK (fun h =>?_) (fun h =>?_) <;>try simp only[h])) <;>try simp only[aM,R,Nat.reduceEqDiff,reduceIte,Nat.reduceBEq])
   all_goals clear R
   rw[q1.2];refine aC.dh ?_ (fun n=>rfl);simp[aT,aV]
  ·rw[if_neg h] at q1;have hc:decide (((a+k:Nat):Int)<(m:Int))=false:=by simp;omega
   have R:=v6 @hc (v6 @aU @U)
   repeat' ((first |(with_reducible refine .guard (fun hb =>?_) (fun hb =>?_) <;>try simp only[hb])|refine J.aL (by decide +kernel) rfl fun K hK =>?_|(refine .aG [0,1,2,3,4,10,11,12,13,14,15,16,17,18,19,20,21,22,23,24,28,33,50,58,80,85,103,110,140,151,171,185,199,213] hK ?_;clear hK K)|(with_reducible refine .done (hK _ ?_);clear hK K)|refine J.of rfl ?_|(with_reducible refine ak.aK (fun h =>?_) (fun h =>?_) <;>try simp only[h])) <;>try simp only[aM,R,Nat.reduceEqDiff,reduceIte,Nat.reduceBEq])
   all_goals clear R
   rw[q1.2,q1.1,hm];refine aC.dh ?_ (fun n=>rfl);simp[aT,aV]
 clear q1 w1 w2 w3 w4 w5 w6 hl1 hr1 fo w0b;have hcrF:∀ i,lo≤i→i≤hi→(∀ j,lo≤j→j<i→dT el (l.getD j 0) (r.getD (k-1-j) 0))→(∀ j,i≤j→j<hi→dT el (r.getD (k-1-j) 0) (l.getD j 0))→sn el l r k i:=fun i a1 a2 a3 a4=>YD hsl hsr a1 a2 q6 q7 q3 q4 q5 a3 a4;have hk2:2*k≤l.length+r.length:=by omega
 have hk3:1≤k:=by omega
 clear q6 q7 hk;have w8:IntKind.i64.wrap (((a+k+m:Nat):Int)-1)=((a+k+m-1:Nat):Int):=by rw[cF _ (by omega) (by omega)];omega
 refine .ao (by decide +kernel) fun K hK =>?_;simp only[Ir,U,Nat.reduceEqDiff,reduceIte]
 try simp only[w8]
 refine .done (hK _ ?_);clear hK K;refine J.seq (J.block (J.loop (fun s:Nat×Nat=>au [(0,.view 1000000 [] 1 0 n),(1,.int .i64 a),(2,.int .i64 m),(3,.int .i64 b),(4,.func 138 [.ref (enc el)]),(18,.int .i64 ((a+k:Nat):Int)),(19,.int .i64 ((a+k+m:Nat):Int)),(22,.int .i64 ((a+k+m-1:Nat):Int)),(20,.int .i64 ((a+s.1:Nat):Int)),(21,.int .i64 ((a+s.2:Nat):Int))] (bJ 1000000 ws))
  (fun s=>lo≤s.1∧s.1≤s.2∧s.2≤hi∧(∀ j,lo≤j→j<s.1→dT el (l.getD j 0) (r.getD (k-1-j) 0))∧∀ j,s.2≤j→j<hi→dT el (r.getD (k-1-j) 0) (l.getD j 0)) (fun s=>s.2-s.1) (lo,hi) ⟨zz7 _,q2,zz7 _,fun j h1 h2=>by simp only at h2;omega,fun j h1 h2=>by simp only at h1;omega⟩ ?_ ?_))
 ·refine aC.dh ?_ (fun n=>rfl);simp[aT,aV]
 rintro ⟨i,j⟩ ⟨fF,g1,g2,g3,g4⟩;simp only at fF g1 g2 g3 g4 ⊢;by_cases hij:i<j
 ·have hc:decide (((a+i:Nat):Int)<((a+j:Nat):Int))=true:=by simp;omega
  have w1:=km (a+i) (a+j) (by omega);have w2:=m7 (x:=a+i+(a+j)) (by omega);obtain ⟨c,hcd⟩:∃ c,c=(i+j) / 2:=⟨_,rfl⟩
  have hci:i≤c∧c<j:=by omega
  have w3:(a+i+(a+j)) / 2=a+c:=by omega
  have w4:=m7 (x:=a+c) (by omega);have w5:=sj (n:=a+c) (by omega);have w6:=eB (i:=a+c) (by omega);have w9:=je (x:=a+k+m-1) (y:=a+c) (by omega) (by omega);have e1:a+k+m-1-(a+c)=m+(k-1-c):=by omega
  have v1:=gW (n:=n) (i:=a+c) (by omega);have v2:=gW (n:=n) (i:=m+(k-1-c)) (by omega);have l1:=fD (xs:=ws) (i:=a+c) (by omega);have l2:=fD (xs:=ws) (i:=m+(k-1-c)) (by omega);rw[nK c (by omega)] at l1;rw[gr (k-1-c) (by omega)] at l2;have hlc:=ml c (by omega);have hrc:=mr (k-1-c) (by omega);have hcmp:=sr el hd hel (r.getD (k-1-c) 0) (l.getD c 0) (hin _ (by simp only[zy4];exact .inr hrc)) (hin _ (by simp only[zy4];exact .inl hlc));have hlt:=tI (l:=el) (hlr _ hlc _ hrc);simp only[bJ];cases hdc:decide (gF el (r.getD (k-1-c) 0)-gF el (l.getD c 0)<0) with
  |true =>
   have hd1:dT el (r.getD (k-1-c) 0) (l.getD c 0):=hlt.2 (by have:=of_decide_eq_true hdc;omega);have R:=v6 @hc (v6 @w1 (v6 @w2 (v6 @w3 (v6 @w4 (v6 @w5 (v6 @w6 (v6 @w9 (v6 @e1 (v6 @nY (v6 @nX (v6 @v1 (v6 @v2 (v6 @l1 (v6 @l2 (v6 @hdc (v6 @dj (v6 @dG (v6 @aU @U))))))))))))))))))
   repeat' ((first |(with_reducible refine .guard (fun hb =>?_) (fun hb =>?_) <;>try simp only[hb])|refine J.aL (by decide +kernel) rfl fun K hK =>?_|refine .flat _ (hcmp) rfl ?_|(refine .aG [0,1,2,3,4,10,11,12,13,14,15,16,17,18,19,20,21,22,23,24,28,33,50,58,80,85,103,110,140,151,171,185,199,213] hK ?_;clear hK K)|(with_reducible refine .done (hK _ ?_);clear hK K)|refine J.of rfl ?_|(with_reducible refine ak.aK (fun h =>?_) (fun h =>?_) <;>try simp only[h])) <;>try simp only[aM,R,zy0,Nat.reduceEqDiff,reduceIte,Nat.reduceBEq])
   all_goals clear R
   refine ⟨(i,c),⟨fF,by simp only;omega,by simp only;omega,g3,fun t ht ht2 =>?_⟩,by simp only;omega,?_⟩
   ·simp only at ht;exact qA hsr (j:=k-1-c) (by omega) (by omega) (qz hsl (i:=c) (by omega) (by omega) hd1)
   ·refine aC.dh ?_ (fun n=>rfl);simp[aT,aV]
  |false =>
   have hd1:dT el (l.getD c 0) (r.getD (k-1-c) 0):=tH (hlr _ hlc _ hrc) (by have:=of_decide_eq_false hdc;omega);have R:=v6 @hc (v6 @w1 (v6 @w2 (v6 @w3 (v6 @w4 (v6 @w5 (v6 @w6 (v6 @w9 (v6 @e1 (v6 @nY (v6 @nX (v6 @v1 (v6 @v2 (v6 @l1 (v6 @l2 (v6 @hdc (v6 @dj (v6 @dG (v6 @aU @U))))))))))))))))))
   repeat' ((first |(with_reducible refine .guard (fun hb =>?_) (fun hb =>?_) <;>try simp only[hb])|refine J.aL (by decide +kernel) rfl fun K hK =>?_|refine .flat _ (hcmp) rfl ?_|(refine .aG [0,1,2,3,4,10,11,12,13,14,15,16,17,18,19,20,21,22,23,24,28,33,50,58,80,85,103,110,140,151,171,185,199,213] hK ?_;clear hK K)|(with_reducible refine .done (hK _ ?_);clear hK K)|refine J.of rfl ?_|(with_reducible refine ak.aK (fun h =>?_) (fun h =>?_) <;>try simp only[h])) <;>try simp only[aM,R,zy0,Nat.reduceEqDiff,reduceIte,Nat.reduceBEq])
   all_goals clear R
   refine ⟨(c+1,j),⟨by simp only;omega,by simp only;omega,g2,fun t ht ht2 =>?_,g4⟩,by simp only;omega,?_⟩
   ·simp only at ht2;exact qA hsl (j:=c) (by omega) (by omega) (qz hsr (i:=k-1-c) (by omega) (by omega) hd1)
   ·refine aC.dh ?_ (fun n=>rfl);simp[aT,aV];omega
 have hc:decide (((a+i:Nat):Int)<((a+j:Nat):Int))=false:=by simp;omega
 have he:j=i:=by omega
 subst he;have hcr:sn el l r k j:=hcrF _ fF g2 g3 g4;refine J.seq (J.seq ?_);refine .bx (by decide +kernel) fun K hK =>?_;simp only[Is,U,Nat.reduceEqDiff,reduceIte]
 try simp only[hc]
 refine .done (hK _ ?_);clear hK K;try simp only[ar]
 refine J.bM ?_;simp only[ak,U,Nat.reduceEqDiff,reduceIte];refine ⟨fun h =>?_,fun h =>?_⟩
 ·cases h
 refine J.exit ?_;try simp only[ar,bO,reduceIte]
 have w10:=je (x:=a+k+m) (y:=a+j) (by omega) (by omega);have e2:a+k+m-(a+j)=m+(k-j):=by omega
 refine .ao (by decide +kernel) fun K hK =>?_;simp only[It,U,Nat.reduceEqDiff,reduceIte]
 try simp only[w10,e2]
 refine .done (hK _ ?_);clear hK K
 -- the four parts
 have hl12:l.take j++l.drop j=l:=zx0 _ _;have hr12:r.take (k-j)++r.drop (k-j)=r:=zx0 _ _;obtain ⟨l1,hl1e⟩:∃ l1,l1=l.take j:=⟨_,rfl⟩
 obtain ⟨l2,hl2e⟩:∃ l2,l2=l.drop j:=⟨_,rfl⟩
 obtain ⟨r1,hr1e⟩:∃ r1,r1=r.take (k-j):=⟨_,rfl⟩
 obtain ⟨dV,hr2e⟩:∃ dV,dV=r.drop (k-j):=⟨_,rfl⟩
 have ll1:l1.length=j:=by rw[hl1e,zy7];omega
 have ll2:l2.length=l.length-j:=by rw[hl2e,zy9]
 have lr1:r1.length=k-j:=by rw[hr1e,zy7];omega
 have lr2:dV.length=r.length-(k-j):=by rw[hr2e,zy9]
 have sl1:dA el l1:=hl1e▸Ps hsl _;have sl2:dA el l2:=hl2e▸Pr hsl _;have sr1:dA el r1:=hr1e▸Ps hsr _;have sr2:dA el dV:=hr2e▸Pr hsr _;have ml1:∀ x∈l1,x∈l:=fun x hx=>List.mem_of_mem_take (hl1e▸hx);have ml2:∀ x∈l2,x∈l:=fun x hx=>List.mem_of_mem_drop (hl2e▸hx);have mr1:∀ x∈r1,x∈r:=fun x hx=>List.mem_of_mem_take (hr1e▸hx);have mr2:∀ x∈dV,x∈r:=fun x hx=>List.mem_of_mem_drop (hr2e▸hx);rw[←hl1e,←hl2e] at hl12;rw[←hr1e,←hr2e] at hr12;have hws4:ws=(p++l1)++l2++r1++(dV++q):=by rw[hws,←hl12,←hr12];simp only[zz5]
 have e3:((a+j:Nat):Int)<m↔j<l.length:=by omega
 -- the parts change places
 refine J.seq (J.zR (au [(0,.view 1000000 [] 1 0 n),(1,.int .i64 a),(3,.int .i64 b),(4,.func 138 [.ref (enc el)]),(18,.int .i64 ((a+k:Nat):Int)),(20,.int .i64 ((a+j:Nat):Int)),(24,.int .i64 ((m+(k-j):Nat):Int))] (bJ 1000000 (p++l1++r1++(l2++dV++q)))) ?_ fun B hB=>J.sub hB ?_)
 ·by_cases h1:j<l.length
  ·have hc1:decide (((a+j:Nat):Int)<(m:Int))=true:=by simp;omega
   by_cases h2:j<k
   ·have hc2:decide ((m:Int)<((m+(k-j):Nat):Int))=true:=by simp;omega
    have hrot:=Q8 (p++l1) l2 r1 (dV++q) (a+j) m (m+(k-j)) n 138 [.ref (enc el)] (by simp[I.bZ,I.bD,dG]) (by rw[zz3];omega) (by omega) (by omega) (by omega) (by omega) (by omega) hn1;rw[←hws4] at hrot;have R:=v6 @hc1 (v6 @hc2 (v6 @aU @U))
    repeat' ((first |(with_reducible refine .guard (fun hb =>?_) (fun hb =>?_) <;>try simp only[hb])|refine J.aL (by decide +kernel) rfl fun K hK =>?_|(refine .aG [0,1,2,3,4,10,11,12,13,14,15,16,17,18,19,20,21,22,23,24,28,33,50,58,80,85,103,110,140,151,171,185,199,213] hK ?_;clear hK K)|(with_reducible refine .done (hK _ ?_);clear hK K)|refine J.of rfl ?_|(with_reducible refine ak.aK (fun h =>?_) (fun h =>?_) <;>try simp only[h])) <;>try simp only[aM,R,Nat.reduceEqDiff,reduceIte,Nat.reduceBEq])
    all_goals clear R
    refine bt.lu hrot (kP _ n 138 [.ref (enc el)] (by simp[I.bZ,I.bD,dG]) [_,_,_]) ?_;rintro eH os' ⟨rfl,rfl⟩;refine ⟨_,rfl,rfl,?_⟩
    try simp only[U]
    refine .done (hK _ ?_);clear hK K;have e5:p++l1++r1++l2++(dV++q)=p++l1++r1++(l2++dV++q):=by simp only[zz5]
    rw[e5];refine aC.dh ?_ (fun n=>rfl);simp[aT,aV]
   ·have hc2:decide ((m:Int)<((m+(k-j):Nat):Int))=false:=by simp;omega
    have hn0:r1=[]:=zv1.1 (by omega);have e5:ws=p++l1++r1++(l2++dV++q):=by rw[hws4,hn0];simp only[zz5,zx7]
    rw[e5];have R:=v6 @hc1 (v6 @hc2 (v6 @aU @U))
    repeat' ((first |(with_reducible refine .guard (fun hb =>?_) (fun hb =>?_) <;>try simp only[hb])|refine J.aL (by decide +kernel) rfl fun K hK =>?_|(refine .aG [0,1,2,3,4,10,11,12,13,14,15,16,17,18,19,20,21,22,23,24,28,33,50,58,80,85,103,110,140,151,171,185,199,213] hK ?_;clear hK K)|(with_reducible refine .done (hK _ ?_);clear hK K)|refine J.of rfl ?_|(with_reducible refine ak.aK (fun h =>?_) (fun h =>?_) <;>try simp only[h])) <;>try simp only[aM,R,Nat.reduceEqDiff,reduceIte,Nat.reduceBEq])
    all_goals clear R
    refine aC.dh ?_ (fun n=>rfl);simp[aT,aV]
  ·have hc1:decide (((a+j:Nat):Int)<(m:Int))=false:=by simp;omega
   have hn0:l2=[]:=zv1.1 (by omega);have e5:ws=p++l1++r1++(l2++dV++q):=by rw[hws4,hn0];simp only[zz5,zx7,zy3]
   rw[e5];have R:=v6 @hc1 (v6 @aU @U)
   repeat' ((first |(with_reducible refine .guard (fun hb =>?_) (fun hb =>?_) <;>try simp only[hb])|refine J.aL (by decide +kernel) rfl fun K hK =>?_|(refine .aG [0,1,2,3,4,10,11,12,13,14,15,16,17,18,19,20,21,22,23,24,28,33,50,58,80,85,103,110,140,151,171,185,199,213] hK ?_;clear hK K)|(with_reducible refine .done (hK _ ?_);clear hK K)|refine J.of rfl ?_|(with_reducible refine ak.aK (fun h =>?_) (fun h =>?_) <;>try simp only[h])) <;>try simp only[aM,R,Nat.reduceEqDiff,reduceIte,Nat.reduceBEq])
   all_goals clear R
   refine aC.dh ?_ (fun n=>rfl);simp[aT,aV]
 -- the lower half
 refine J.seq (J.ann (fun s1:List Int=>au [(0,.view 1000000 [] 1 0 n),(3,.int .i64 b),(4,.func 138 [.ref (enc el)]),(18,.int .i64 ((a+k:Nat):Int)),(24,.int .i64 ((m+(k-j):Nat):Int))] (bJ 1000000 (p++s1++l2++dV++q))) (fun s1=>s1.Perm (l1++r1)∧dA el s1) ?_ fun s1 B hC hB=>J.sub hB ?_)
 ·by_cases h1:0<j
  ·have hc1:decide ((a:Int)<((a+j:Nat):Int))=true:=by simp;omega
   by_cases h2:j<k
   ·have hc2:decide (((a+j:Nat):Int)<((a+k:Nat):Int))=true:=by simp;omega
    have hrec:=ih p l1 r1 (l2++dV++q) a (a+j) (a+k) n (by omega) (by omega) (by omega) ha (by omega) (by omega) (by omega) (by simp only[zz3];omega) hn1 sl1 sr1 (fun x hx y hy=>hlr x (ml1 x hx) y (mr1 y hy)) (fun x hx=>hin x (by
     rcases zy4.1 hx with h | h
     ·exact zy4.2 (.inl (ml1 x h))
     ·exact zy4.2 (.inr (mr1 x h))))
    have R:=v6 @hc1 (v6 @hc2 (v6 @aU @U))
    repeat' ((first |(with_reducible refine .guard (fun hb =>?_) (fun hb =>?_) <;>try simp only[hb])|refine J.aL (by decide +kernel) rfl fun K hK =>?_|(refine .aG [0,1,2,3,4,10,11,12,13,14,15,16,17,18,19,20,21,22,23,24,28,33,50,58,80,85,103,110,140,151,171,185,199,213] hK ?_;clear hK K)|(with_reducible refine .done (hK _ ?_);clear hK K)|refine J.of rfl ?_|(with_reducible refine ak.aK (fun h =>?_) (fun h =>?_) <;>try simp only[h])) <;>try simp only[aM,R,Nat.reduceEqDiff,reduceIte,Nat.reduceBEq])
    all_goals clear R
    refine bt.lu hrec (kP _ n 138 [.ref (enc el)] (by simp[I.bZ,I.bD,dG]) [_,_,_]) ?_;rintro eH os' ⟨rfl,s1,k1,k2,rfl⟩;refine ⟨_,rfl,rfl,?_⟩
    try simp only[U]
    refine .done (hK _ ?_);clear hK K;refine ⟨s1,⟨k1,k2⟩,?_⟩;have e5:p++s1++(l2++dV++q)=p++s1++l2++dV++q:=by simp only[zz5]
    rw[e5];refine aC.dh ?_ (fun n=>rfl);simp[aT,aV]
   ·have hc2:decide (((a+j:Nat):Int)<((a+k:Nat):Int))=false:=by simp;omega
    have hn0:r1=[]:=zv1.1 (by omega);have R:=v6 @hc1 (v6 @hc2 (v6 @aU @U))
    repeat' ((first |(with_reducible refine .guard (fun hb =>?_) (fun hb =>?_) <;>try simp only[hb])|refine J.aL (by decide +kernel) rfl fun K hK =>?_|(refine .aG [0,1,2,3,4,10,11,12,13,14,15,16,17,18,19,20,21,22,23,24,28,33,50,58,80,85,103,110,140,151,171,185,199,213] hK ?_;clear hK K)|(with_reducible refine .done (hK _ ?_);clear hK K)|refine J.of rfl ?_|(with_reducible refine ak.aK (fun h =>?_) (fun h =>?_) <;>try simp only[h])) <;>try simp only[aM,R,Nat.reduceEqDiff,reduceIte,Nat.reduceBEq])
    all_goals clear R
    refine ⟨l1++r1,⟨.refl _,by rw[hn0,zx7];exact sl1⟩,?_⟩;have e5:p++l1++r1++(l2++dV++q)=p++(l1++r1)++l2++dV++q:=by simp only[zz5]
    rw[e5];refine aC.dh ?_ (fun n=>rfl);simp[aT,aV]
  ·have hc1:decide ((a:Int)<((a+j:Nat):Int))=false:=by simp;omega
   have hn0:l1=[]:=zv1.1 (by omega);have R:=v6 @hc1 (v6 @aU @U)
   repeat' ((first |(with_reducible refine .guard (fun hb =>?_) (fun hb =>?_) <;>try simp only[hb])|refine J.aL (by decide +kernel) rfl fun K hK =>?_|(refine .aG [0,1,2,3,4,10,11,12,13,14,15,16,17,18,19,20,21,22,23,24,28,33,50,58,80,85,103,110,140,151,171,185,199,213] hK ?_;clear hK K)|(with_reducible refine .done (hK _ ?_);clear hK K)|refine J.of rfl ?_|(with_reducible refine ak.aK (fun h =>?_) (fun h =>?_) <;>try simp only[h])) <;>try simp only[aM,R,Nat.reduceEqDiff,reduceIte,Nat.reduceBEq])
   all_goals clear R
   refine ⟨l1++r1,⟨.refl _,by rw[hn0,zy3];exact sr1⟩,?_⟩;have e5:p++l1++r1++(l2++dV++q)=p++(l1++r1)++l2++dV++q:=by simp only[zz5]
   rw[e5];refine aC.dh ?_ (fun n=>rfl);simp[aT,aV]
 -- the upper half
 obtain ⟨k1,k2⟩:=hC;have ls1:s1.length=k:=by rw[k1.length_eq,zz3];omega
 have done:∀ s2,s2.Perm (l2++dV)→dA el s2→∀ ts ws',ws'=p++s1++s2++q→lG [] (nx el p (l++r) q) (au ts (bJ 1000000 ws')):=fun s2 k3 k4 ts ws' he=>by
  obtain ⟨j1,j2⟩:=amN hcr (hl1e▸hr1e▸k1) (hl2e▸hr2e▸k3) k2 k4;exact oe rfl (he.trans (by simp only[zz5])) ⟨rfl,s1++s2,j1,j2,rfl⟩
 by_cases h1:j<l.length
 ·have hc1:decide (((a+k:Nat):Int)<((m+(k-j):Nat):Int))=true:=by simp;omega
  by_cases h2:k-j<r.length
  ·have hc2:decide (((m+(k-j):Nat):Int)<(b:Int))=true:=by simp;omega
   have hrec:=ih (p++s1) l2 dV q (a+k) (m+(k-j)) b n (by omega) (by omega) (by omega) (by rw[zz3];omega) (by omega) (by omega) hn (by simp only[zz3];omega) hn1 sl2 sr2 (fun x hx y hy=>hlr x (ml2 x hx) y (mr2 y hy)) (fun x hx=>hin x (by
    rcases zy4.1 hx with h | h
    ·exact zy4.2 (.inl (ml2 x h))
    ·exact zy4.2 (.inr (mr2 x h))))
   have R:=v6 @hc1 (v6 @hc2 (v6 @aU @U))
   repeat' ((first |(with_reducible refine .guard (fun hb =>?_) (fun hb =>?_) <;>try simp only[hb])|refine J.aL (by decide +kernel) rfl fun K hK =>?_|(refine .aG [0,1,2,3,4,10,11,12,13,14,15,16,17,18,19,20,21,22,23,24,28,33,50,58,80,85,103,110,140,151,171,185,199,213] hK ?_;clear hK K)|(with_reducible refine .done (hK _ ?_);clear hK K)|refine J.of rfl ?_|(with_reducible refine ak.aK (fun h =>?_) (fun h =>?_) <;>try simp only[h])) <;>try simp only[aM,R,Nat.reduceEqDiff,reduceIte,Nat.reduceBEq])
   all_goals clear R
   refine bt.lu hrec (kP _ n 138 [.ref (enc el)] (by simp[I.bZ,I.bD,dG]) [_,_,_]) ?_;rintro eH os' ⟨rfl,s2,k3,k4,rfl⟩;refine ⟨_,rfl,rfl,?_⟩
   try simp only[U]
   refine .done (hK _ ?_);clear hK K;rw[mu];exact done s2 k3 k4 _ _ rfl
  ·have hc2:decide (((m+(k-j):Nat):Int)<(b:Int))=false:=by simp;omega
   have hn0:dV=[]:=zv1.1 (by omega);have R:=v6 @hc1 (v6 @hc2 (v6 @aU @U))
   repeat' ((first |(with_reducible refine .guard (fun hb =>?_) (fun hb =>?_) <;>try simp only[hb])|refine J.aL (by decide +kernel) rfl fun K hK =>?_|(refine .aG [0,1,2,3,4,10,11,12,13,14,15,16,17,18,19,20,21,22,23,24,28,33,50,58,80,85,103,110,140,151,171,185,199,213] hK ?_;clear hK K)|(with_reducible refine .done (hK _ ?_);clear hK K)|refine J.of rfl ?_|(with_reducible refine ak.aK (fun h =>?_) (fun h =>?_) <;>try simp only[h])) <;>try simp only[aM,R,Nat.reduceEqDiff,reduceIte,Nat.reduceBEq])
   all_goals clear R
   rw[mu];exact done (l2++dV) (.refl _) (by rw[hn0,zx7];exact sl2) _ (p++s1++l2++dV++q) (by simp only[zz5])
 ·have hc1:decide (((a+k:Nat):Int)<((m+(k-j):Nat):Int))=false:=by simp;omega
  have hn0:l2=[]:=zv1.1 (by omega);have R:=v6 @hc1 (v6 @aU @U)
  repeat' ((first |(with_reducible refine .guard (fun hb =>?_) (fun hb =>?_) <;>try simp only[hb])|refine J.aL (by decide +kernel) rfl fun K hK =>?_|(refine .aG [0,1,2,3,4,10,11,12,13,14,15,16,17,18,19,20,21,22,23,24,28,33,50,58,80,85,103,110,140,151,171,185,199,213] hK ?_;clear hK K)|(with_reducible refine .done (hK _ ?_);clear hK K)|refine J.of rfl ?_|(with_reducible refine ak.aK (fun h =>?_) (fun h =>?_) <;>try simp only[h])) <;>try simp only[aM,R,Nat.reduceEqDiff,reduceIte,Nat.reduceBEq])
  all_goals clear R
  rw[mu];exact done (l2++dV) (.refl _) (by rw[hn0,zy3];exact sr2) _ (p++s1++l2++dV++q) (by simp only[zz5])
theorem Al(el:List aq)(hd:mQ el)(hel:el.length≤60):∀ (N:Nat) (p l r q:List Int) (a m b n:Nat),l.length+r.length≤N→0<l.length→0<r.length→p.length=a→a+l.length=m→m+r.length=b→b≤n→n≤(p++l++r++q).length→n≤1000→dA el l→dA el r→(∀ x∈l,∀ y∈r,x<y)→(∀ x∈l++r,jI el x) →
  cC Tryz.prog 204 [.view 1000000 [] 1 0 n,enc (a:Int),enc (m:Int),enc (b:Int),.func 138 [.ref (enc el)]] (bJ 1000000 (p++l++r++q)) (nx el p (l++r) q):=by
 intro N
 induction N with
 |zero=>intro p l r q a m b n h1 h2;omega
 |succ N ih =>
  intro p l r q a m b n hN hl0 hr0 ha hm hb hn hnl hn1 hsl hsr hlr hin;by_cases hl1:l.length=1
  ·exact Q2 el hd hel p l r q a m b n hl0 hr0 ha hm hb hn hnl hn1 hsl hsr hlr hin hl1
  by_cases hr1:r.length=1
  ·exact Q3 el hd hel p l r q a m b n hl0 hr0 ha hm hb hn hnl hn1 hsl hsr hlr hin hl1 hr1
  ·exact Q4 el hd hel N ih p l r q a m b n hl0 hr0 ha hm hb hn hnl hn1 hsl hsr hlr hin hN hl1 hr1
def dM(ws:List Int)(bs t:Nat):List Int:=(ws.drop (t*bs)).take bs
theorem Dp(ws:List Int)(bs u:Nat):dM ws (2*bs) u=dM ws bs (2*u)++dM ws bs (2*u+1):=by
 simp only[dM];rw[show 2*bs=bs+bs by omega,List.take_add,List.drop_drop];have e1:u*(bs+bs)=2*u*bs:=by rw[Nat.mul_add,show 2*u=u+u by omega,zu4]
 have e2:2*u*bs+bs=(2*u+1)*bs:=by rw[zu4];omega
 rw[e1,e2]
def mI(el:List aq)(bs:Nat)(o d:List Int):Prop:=o.length=d.length∧∀ t,(dM d bs t).Perm (dM o bs t)∧dA el (dM d bs t)
theorem AD(el:List aq)(bs:Nat):mI el bs [] []:=⟨rfl,fun t=>by simp[dM,dA]⟩
theorem Dn{o b:List Int}{bs t t':Nat}(ho:o.length=t*bs)(hb:b.length≤bs):dM (o++b) bs t'=if t'<t then dM o bs t' else if t'=t then b else []:=by
 simp only[dM];by_cases h1:t'<t
 ·rw[if_pos h1];have h2:(t'+1)*bs≤t*bs:=Nat.mul_le_mul_right _ h1;rw[zu4,Nat.one_mul] at h2;rw[List.drop_append_of_le_length (by omega),zx8 (by rw[zy9];omega)]
 ·rw[if_neg h1];by_cases h2:t'=t
  ·subst h2;rw[if_pos rfl,←ho,List.drop_left,zv6 hb]
  ·rw[if_neg h2];have h3:(t+1)*bs≤t'*bs:=Nat.mul_le_mul_right _ (by omega);rw[zu4,Nat.one_mul] at h3;rw[zw9 (by rw[zz3];omega)];exact List.take_nil
theorem sE{el:List aq}{bs t:Nat}{o d b b':List Int}(h:mI el bs o d)(ho:o.length=t*bs)(hp:b'.Perm b)(hs:dA el b')(hl:b.length≤bs):mI el bs (o++b) (d++b'):=by
 refine ⟨by rw[zz3,zz3,h.1,hp.length_eq],fun t' =>?_⟩;rw[Dn (by rw[←h.1];exact ho) (by rw[hp.length_eq];exact hl),Dn ho hl];split
 ·exact h.2 t'
 ·split
  ·exact ⟨hp,hs⟩
  ·exact ⟨.refl _,List.Pairwise.nil⟩
theorem Ru{el:List aq}{bs:Nat}{o d:List Int}(h:mI el bs o d)(hn:o.length≤bs):d.Perm o∧dA el d:=by
 have:=h.2 0;simp only[dM,Nat.zero_mul,List.drop_zero] at this;rw[zv6 (by rw[←h.1];exact hn),zv6 hn] at this;exact this
theorem Ws{xs:List Int}(hx:xs.Pairwise (· < ·))(bs u:Nat):∀ x∈dM xs bs (2*u),∀ y∈dM xs bs (2*u+1),x<y:=by
 have h:(dM xs (2*bs) u).Pairwise (· < ·):=(hx.sublist (List.drop_sublist _ _)).sublist (List.take_sublist _ _);rw[Dp,List.pairwise_append] at h;exact h.2.2
theorem vM{xs:List Int}{bs t:Nat}{x:Int}(h:x∈dM xs bs t):x∈xs:=List.mem_of_mem_drop (List.mem_of_mem_take h)
theorem PL(xs:List Int)(bs t:Nat):xs.take ((t+1)*bs)=xs.take (t*bs)++dM xs bs t:=by
 rw[zu4,Nat.one_mul,List.take_add];rfl
theorem qY(xs:List Int)(bs t:Nat):xs.drop (t*bs)=dM xs bs t++xs.drop ((t+1)*bs):=by
 simp only[dM];rw[zu4,Nat.one_mul,←List.drop_drop,zx0]
theorem qW{xs:List Int}{bs t:Nat}(h:(t+1)*bs≤xs.length):(dM xs bs t).length=bs:=by
 rw[zu4,Nat.one_mul] at h;simp only[dM,zy7,zy9];omega
theorem anu{x:Nat}(h:x<1000000):IntKind.i64.wrap (2*(x:Int))=((2*x:Nat):Int):=by rw[cF _ (by omega) (by omega)];omega
theorem anv{x:Nat}(h:x<1000000):IntKind.i64.wrap ((x:Int)*2)=((2*x:Nat):Int):=by rw[cF _ (by omega) (by omega)];omega
theorem Le{i n:Nat}(h:i≤n):decide ((i:Int)≤(n:Int))=true:=by simp;omega
theorem LL{i n:Nat}(h:¬ i≤n):decide ((i:Int)≤(n:Int))=false:=by simp;omega
structure Rv where
 bs:Nat
 d:List Int
theorem QJ(el:List aq)(hd:mQ el)(hel:el.length≤60)(xs q:List Int)(hx:xs.Pairwise (· < ·))(hS:∀ x∈xs,jI el x)(hn:xs.length≤60) :
  cC Tryz.prog 171 [.view 1000000 [] 1 0 xs.length,enc (xs.length:Int),.func 138 [.ref (enc el)]] (bJ 1000000 (xs++q)) (nx el [] xs q):=by
 refine cC.bn Tryz.func171 C5 Di DF (t7 rfl) (t7 rfl) my (fun hwf W0 D0 E1 =>?_);simp only[vz,y6,bg,zz4,Nat.reduceAdd];clear hwf;have hcl:I.bZ [.ref (enc el)]=true:=by simp[I.bZ,I.bD,dG]
 refine .ao (by decide +kernel) fun K hK =>?_;simp only[wW,U,simprocAttr];refine .done (hK _ ?_);clear hK K;refine .ao (by decide +kernel) fun K hK =>?_;simp only[wX,U,simprocAttr];refine .done (hK _ ?_);clear hK K
 -- blocks of twenty
 refine J.seq (J.block (J.loop (fun s:Nat×List Int=>au [(0,.view 1000000 [] 1 0 xs.length),(1,.int .i64 xs.length),(2,.func 138 [.ref (enc el)]),(6,.int .i64 20),(7,.int .i64 ((s.1*20:Nat):Int)),(8,.int .i64 (((s.1+1)*20:Nat):Int))] (bJ 1000000 (s.2++xs.drop (s.1*20)++q)))
  (fun s=>s.1*20≤xs.length∧mI el 20 (xs.take (s.1*20)) s.2) (fun s=>xs.length-s.1*20) (0,[]) ⟨zw7 _,AD el 20⟩ ?_ ?_))
 ·refine aC.dh ?_ (fun n=>rfl);simp[aT,aV]
 rintro ⟨t,d⟩ ⟨g1,g2⟩;simp only at g1 g2 ⊢;have ht:(xs.take (t*20)).length=t*20:=by rw[zy7];omega
 have hdl:d.length=t*20:=by rw[←g2.1,ht]
 by_cases hb:(t+1)*20≤xs.length
 ·have hc:=Le hb;have w1:IntKind.i64.wrap ((((t+1)*20:Nat):Int)+20)=(((t+1+1)*20:Nat):Int):=by rw[cF _ (by omega) (by omega)];omega
  have hcl2:=qW hb;have hins:=Ak el hd hel d (dM xs 20 t) (xs.drop ((t+1)*20)++q) (t*20) ((t+1)*20) xs.length hdl (by omega) hb (by simp only[zz3,zy9];omega) (by omega) ((hx.sublist (List.drop_sublist _ _)).sublist (List.take_sublist _ _)) (fun x hx=>hS x (vM hx));have e1:d++dM xs 20 t++(xs.drop ((t+1)*20)++q)=d++xs.drop (t*20)++q:=by rw[qY xs 20 t];simp only[zz5]
  rw[e1] at hins;have R:=v6 @hc (v6 @aU @U)
  repeat' ((first |(with_reducible refine .guard (fun hb =>?_) (fun hb =>?_) <;>try simp only[hb])|refine J.aL (by decide +kernel) rfl fun K hK =>?_|(refine .aG [0,1,2,6,7,8,9,13,30,35,54] hK ?_;clear hK K)|(with_reducible refine .done (hK _ ?_);clear hK K)|refine J.of rfl ?_|(with_reducible refine ak.aK (fun h =>?_) (fun h =>?_) <;>try simp only[h])) <;>try simp only[aM,R,simprocAttr])
  all_goals clear R
  refine bt.lu hins (kP _ xs.length 138 [.ref (enc el)] hcl [_,_]) ?_;rintro eH os' ⟨rfl,s',k1,k2,rfl⟩;refine ⟨_,rfl,rfl,?_⟩
  try simp only[U,simprocAttr]
  refine .done (hK _ ?_);clear hK K;have R:=v6 @w1 (v6 @aU @U)
  repeat' ((first |(with_reducible refine .guard (fun hb =>?_) (fun hb =>?_) <;>try simp only[hb])|refine J.aL (by decide +kernel) rfl fun K hK =>?_|(refine .aG [0,1,2,6,7,8,9,13,30,35,54] hK ?_;clear hK K)|(with_reducible refine .done (hK _ ?_);clear hK K)|refine J.of rfl ?_|(with_reducible refine ak.aK (fun h =>?_) (fun h =>?_) <;>try simp only[h])) <;>try simp only[aM,R,simprocAttr])
  all_goals clear R
  refine ⟨(t+1,d++s'),⟨hb,?_⟩,by simp only;omega,?_⟩
  ·simp only;rw[PL];exact sE g2 ht k1 k2 (by omega)
  ·simp only[←zz5];refine aC.dh ?_ (fun n=>rfl);simp[aT,aV]
 have hc:=LL hb;refine J.seq (J.seq ?_);refine .bx (by decide +kernel) fun K hK =>?_;simp only[Hq,U,simprocAttr]
 try simp only[hc,simprocAttr]
 refine .done (hK _ ?_);clear hK K;try simp only[ar]
 refine J.bM ?_;simp only[ak,U,simprocAttr];refine ⟨fun h =>?_,fun h =>?_⟩
 ·cases h
 refine J.exit ?_;try simp only[ar,bO,simprocAttr]
 -- what is left
 have hins:=Ak el hd hel d (xs.drop (t*20)) q (t*20) xs.length xs.length hdl (by rw[zy9];omega) (zz7 _) (by simp only[zz3,zy9];omega) (by omega) (hx.sublist (List.drop_sublist _ _)) (fun x hx=>hS x (List.mem_of_mem_drop hx));refine .ao (by decide +kernel) fun K hK =>?_;simp only[Hr,U,simprocAttr];refine bt.lu hins (kP _ xs.length 138 [.ref (enc el)] hcl [_,_]) ?_;rintro eH os' ⟨rfl,s',k1,k2,rfl⟩;refine ⟨_,rfl,rfl,?_⟩
 try simp only[U,simprocAttr]
 refine .done (hK _ ?_);clear hK K;have hSB:mI el 20 xs (d++s'):=by
  have:=sE g2 ht k1 k2 (by rw[zy9];omega)
  rwa [zx0] at this
 clear k1 k2 hins g2 ht hdl hb hc g1;generalize d++s'=d0 at hSB ⊢
 -- blocks are merged
 refine J.block (J.loop (fun s:Rv=>au [(0,.view 1000000 [] 1 0 xs.length),(1,.int .i64 xs.length),(2,.func 138 [.ref (enc el)]),(6,.int .i64 s.bs)] (bJ 1000000 (s.d++q))) (fun s=>20≤s.bs∧s.bs≤120∧mI el s.bs xs s.d) (fun s=>200-s.bs) ⟨20,d0⟩ ⟨zz7 _,(by show 20≤120;omega),hSB⟩ ?_ ?_)
 ·refine aC.dh ?_ (fun n=>rfl);simp[aT,aV]
 rintro ⟨bs,d1⟩ ⟨g1,g2,g3⟩;simp only at g1 g2 g3 ⊢;have hdl:=g3.1;by_cases hb:bs<xs.length
 case neg =>
  have hc:=gi hb;refine J.seq (J.seq ?_);refine .bx (by decide +kernel) fun K hK =>?_;simp only[wY,U,simprocAttr]
  try simp only[hc,simprocAttr]
  refine .done (hK _ ?_);clear hK K;try simp only[ar]
  refine J.bM ?_;simp only[ak,U,simprocAttr];refine ⟨fun h =>?_,fun h =>?_⟩
  ·cases h
  refine J.exit ?_;try simp only[ar,bO,simprocAttr]
  rw[mu];obtain ⟨k1,k2⟩:=Ru g3 (by omega);exact oe rfl rfl ⟨rfl,d1,k1,k2,rfl⟩
 have hc:=fO hb;have w1:=anu (x:=bs) (by omega);refine J.seq (J.seq ?_);refine .bx (by decide +kernel) fun K hK =>?_;simp only[wY,U,simprocAttr]
 try simp only[hc,simprocAttr]
 refine .done (hK _ ?_);clear hK K;try simp only[ar]
 refine J.bM ?_;simp only[ak,U,simprocAttr];refine ⟨fun h =>?_,fun h =>?_⟩
 rotate_left
 ·cases h
 refine J.skip ?_;try simp only[ar,simprocAttr]
 refine J.block (J.seq ?_);refine .bx (by decide +kernel) fun K hK =>?_;simp only[Hs,U,simprocAttr]
 try simp only[w1,simprocAttr]
 refine .done (hK _ ?_);clear hK K;try simp only[ar]
 refine J.seq (J.block (J.loop (fun s:Nat×List Int=>au [(0,.view 1000000 [] 1 0 xs.length),(1,.int .i64 xs.length),(2,.func 138 [.ref (enc el)]),(6,.int .i64 bs),(7,.int .i64 ((s.1*(2*bs):Nat):Int)),(8,.int .i64 (((s.1+1)*(2*bs):Nat):Int))] (bJ 1000000 (s.2++d1.drop (s.1*(2*bs))++q)))
  (fun s=>s.1*(2*bs)≤xs.length∧mI el (2*bs) (xs.take (s.1*(2*bs))) s.2) (fun s=>xs.length-s.1*(2*bs)) (0,[]) ⟨by simp,by simp only[Nat.zero_mul,List.take_zero];exact AD el _⟩ ?_ ?_))
 ·simp only[Nat.zero_mul,zz4,Nat.one_mul,List.drop_zero,zy3];refine aC.dh ?_ (fun n=>rfl);simp[aT,aV]
 rintro ⟨u,e⟩ ⟨q1,q2⟩;simp only at q1 q2 ⊢;obtain ⟨A,hA⟩:∃ A,A=u*(2*bs):=⟨_,rfl⟩
 have hA1:(u+1)*(2*bs)=A+2*bs:=by rw[hA,zu4];omega
 have hA2:2*u*bs=A:=by rw[hA,Nat.mul_comm 2 u,Nat.mul_assoc]
 have hA3:(2*u+1)*bs=A+bs:=by rw[zu4,hA2];omega
 have hA4:(2*u+1+1)*bs=A+2*bs:=by rw[zu4,hA3];omega
 have ht:(xs.take A).length=A:=by rw[zy7,hA];omega
 have hel2:e.length=A:=by rw[←q2.1,←hA,ht]
 obtain ⟨kl1,kl2⟩:=g3.2 (2*u);obtain ⟨kr1,kr2⟩:=g3.2 (2*u+1);have hlt2:=Ws hx bs u;have hd2:d1.drop A=dM d1 bs (2*u)++d1.drop (A+bs):=by
  have:=qY d1 bs (2*u)
  rwa [hA2,hA3] at this
 have hd3:d1.drop (A+bs)=dM d1 bs (2*u+1)++d1.drop (A+2*bs):=by
  have:=qY d1 bs (2*u+1)
  rwa [hA3,hA4] at this
 have hlr:∀ x∈dM d1 bs (2*u),∀ y∈dM d1 bs (2*u+1),x<y:=fun x h1 y h2=>hlt2 x (kl1.mem_iff.1 h1) y (kr1.mem_iff.1 h2);have hin:∀ x∈dM d1 bs (2*u)++dM d1 bs (2*u+1),jI el x:=fun x h1=>by
  rcases zy4.1 h1 with h1 | h1
  ·exact hS x (vM (kl1.mem_iff.1 h1))
  ·exact hS x (vM (kr1.mem_iff.1 h1))
 rw[hA1];rw[←hA] at q1 q2 ⊢;by_cases hb2:A+2*bs≤xs.length
 ·have hc2:=Le hb2;have w2:=km A bs (by omega);have w3:IntKind.i64.wrap (((A+2*bs:Nat):Int)+((2*bs:Nat):Int))=((A+2*bs+2*bs:Nat):Int):=km _ _ (by omega);have ll:(dM d1 bs (2*u)).length=bs:=qW (by rw[hA3];omega);have lr:(dM d1 bs (2*u+1)).length=bs:=qW (by rw[hA4];omega);have hm:=Al el hd hel _ e (dM d1 bs (2*u)) (dM d1 bs (2*u+1)) (d1.drop (A+2*bs)++q) A (A+bs) (A+2*bs) xs.length (zz7 _) (by omega) (by omega) hel2 (by omega) (by omega) hb2 (by simp only[zz3,zy9];omega) (by omega) kl2 kr2 hlr hin;have e1:e++dM d1 bs (2*u)++dM d1 bs (2*u+1)++(d1.drop (A+2*bs)++q)=e++d1.drop A++q:=by rw[hd2,hd3];simp only[zz5]
  rw[e1] at hm;have R:=v6 @hc2 (v6 @w2 (v6 @aU @U))
  repeat' ((first |(with_reducible refine .guard (fun hb =>?_) (fun hb =>?_) <;>try simp only[hb])|refine J.aL (by decide +kernel) rfl fun K hK =>?_|(refine .aG [0,1,2,6,7,8,9,13,30,35,54] hK ?_;clear hK K)|(with_reducible refine .done (hK _ ?_);clear hK K)|refine J.of rfl ?_|(with_reducible refine ak.aK (fun h =>?_) (fun h =>?_) <;>try simp only[h])) <;>try simp only[aM,R,simprocAttr])
  all_goals clear R
  refine bt.lu hm (kP _ xs.length 138 [.ref (enc el)] hcl [_,_,_]) ?_;rintro eH os' ⟨rfl,s',k1,k2,rfl⟩;refine ⟨_,rfl,rfl,?_⟩
  try simp only[U,simprocAttr]
  refine .done (hK _ ?_);clear hK K;try simp only[ar]
  have R:=v6 @w1 (v6 @w3 (v6 @aU @U))
  repeat' ((first |(with_reducible refine .guard (fun hb =>?_) (fun hb =>?_) <;>try simp only[hb])|refine J.aL (by decide +kernel) rfl fun K hK =>?_|(refine .aG [0,1,2,6,7,8,9,13,30,35,54] hK ?_;clear hK K)|(with_reducible refine .done (hK _ ?_);clear hK K)|refine J.of rfl ?_|(with_reducible refine ak.aK (fun h =>?_) (fun h =>?_) <;>try simp only[h])) <;>try simp only[aM,R,simprocAttr])
  all_goals clear R
  refine ⟨(u+1,e++s'),⟨by simp only;omega,?_⟩,by simp only;omega,?_⟩
  ·simp only;rw[PL,←hA];refine sE q2 (ht.trans hA) (k1.trans ?_) k2 (by rw[qW (by omega)];omega);rw[Dp];exact kl1.append kr1
  ·have e2:(u+1+1)*(2*bs)=A+2*bs+2*bs:=by rw[zu4,hA1];omega
   simp only[hA1,e2,←zz5];refine aC.dh ?_ (fun n=>rfl);simp[aT,aV]
 have hc2:=LL hb2;refine J.seq (J.seq ?_);refine .bx (by decide +kernel) fun K hK =>?_;simp only[Ht,U,simprocAttr]
 try simp only[hc2,simprocAttr]
 refine .done (hK _ ?_);clear hK K;try simp only[ar]
 refine J.bM ?_;simp only[ak,U,simprocAttr];refine ⟨fun h =>?_,fun h =>?_⟩
 ·cases h
 refine J.exit ?_;try simp only[ar,bO,simprocAttr]
 have w2:=km A bs (by omega);have w4:=anv (x:=bs) (by omega);have bl:∀ s',s'.Perm (xs.drop A)→dA el s'→mI el (2*bs) xs (e++s'):=fun s' k1 k2=>by
  have:=sE q2 (ht.trans hA) k1 k2 (by rw[zy9];omega)
  rwa [zx0] at this
 have hx1:xs.drop A=dM xs bs (2*u)++xs.drop (A+bs):=by
  have:=qY xs bs (2*u)
  rwa [hA2,hA3] at this
 have hx2:xs.drop (A+bs)=dM xs bs (2*u+1)++xs.drop (A+2*bs):=by
  have:=qY xs bs (2*u+1)
  rwa [hA3,hA4] at this
 by_cases hb3:A+bs<xs.length
 ·have hc3:=fO hb3;have ll:(dM d1 bs (2*u)).length=bs:=qW (by rw[hA3];omega);have hdn:d1.drop (A+2*bs)=[]:=zw9 (by omega);have hxn:xs.drop (A+2*bs)=[]:=zw9 (by omega);have lr:(dM d1 bs (2*u+1)).length=xs.length-(A+bs):=by
   have:=congrArg List.length hd3;rw[hdn,zx7,zy9] at this;omega
  have hm:=Al el hd hel _ e (dM d1 bs (2*u)) (dM d1 bs (2*u+1)) q A (A+bs) xs.length xs.length (zz7 _) (by omega) (by omega) hel2 (by omega) (by omega) (zz7 _) (by simp only[zz3];omega) (by omega) kl2 kr2 hlr hin;have e1:e++dM d1 bs (2*u)++dM d1 bs (2*u+1)++q=e++d1.drop A++q:=by rw[hd2,hd3,hdn];simp only[zz5,zx7]
  rw[e1] at hm;have R:=v6 @hc3 (v6 @w2 (v6 @aU @U))
  repeat' ((first |(with_reducible refine .guard (fun hb =>?_) (fun hb =>?_) <;>try simp only[hb])|refine J.aL (by decide +kernel) rfl fun K hK =>?_|(refine .aG [0,1,2,6,7,8,9,13,30,35,54] hK ?_;clear hK K)|(with_reducible refine .done (hK _ ?_);clear hK K)|refine J.of rfl ?_|(with_reducible refine ak.aK (fun h =>?_) (fun h =>?_) <;>try simp only[h])) <;>try simp only[aM,R,simprocAttr])
  all_goals clear R
  refine bt.lu hm (kP _ xs.length 138 [.ref (enc el)] hcl [_,_,_]) ?_;rintro eH os' ⟨rfl,s',k1,k2,rfl⟩;refine ⟨_,rfl,rfl,?_⟩
  try simp only[U,simprocAttr]
  refine .done (hK _ ?_);clear hK K;try simp only[ar]
  have R:=v6 @w4 (v6 @aU @U)
  repeat' ((first |(with_reducible refine .guard (fun hb =>?_) (fun hb =>?_) <;>try simp only[hb])|refine J.aL (by decide +kernel) rfl fun K hK =>?_|(refine .aG [0,1,2,6,7,8,9,13,30,35,54] hK ?_;clear hK K)|(with_reducible refine .done (hK _ ?_);clear hK K)|refine J.of rfl ?_|(with_reducible refine ak.aK (fun h =>?_) (fun h =>?_) <;>try simp only[h])) <;>try simp only[aM,R,simprocAttr])
  all_goals clear R
  refine ⟨⟨2*bs,e++s'⟩,⟨by simp only;omega,by simp only;omega,bl s' (k1.trans ?_) k2⟩,by simp only;omega,?_⟩
  ·rw[hx1,hx2,hxn,zx7];exact kl1.append kr1
  ·refine aC.dh ?_ (fun n=>rfl);simp[aT,aV]
 ·have hc3:=gi hb3;have hdn:d1.drop (A+bs)=[]:=zw9 (by omega);have hxn:xs.drop (A+bs)=[]:=zw9 (by omega);rw[hdn,zx7] at hd2;rw[hxn,zx7] at hx1;have R:=v6 @hc3 (v6 @w2 (v6 @w4 (v6 @aU @U)))
  repeat' ((first |(with_reducible refine .guard (fun hb =>?_) (fun hb =>?_) <;>try simp only[hb])|refine J.aL (by decide +kernel) rfl fun K hK =>?_|(refine .aG [0,1,2,6,7,8,9,13,30,35,54] hK ?_;clear hK K)|(with_reducible refine .done (hK _ ?_);clear hK K)|refine J.of rfl ?_|(with_reducible refine ak.aK (fun h =>?_) (fun h =>?_) <;>try simp only[h])) <;>try simp only[aM,R,simprocAttr])
  all_goals clear R
  refine ⟨⟨2*bs,e++d1.drop A⟩,⟨by simp only;omega,by simp only;omega,bl _ (by rw[hd2,hx1];exact kl1) (by rw[hd2];exact kl2)⟩,by simp only;omega,?_⟩;refine aC.dh ?_ (fun n=>rfl);simp[aT,aV]
theorem Qm(el:List aq)(hd:mQ el)(hel:el.length≤60)(xs q:List Int)(hx:xs.Pairwise (· < ·))(hS:∀ x∈xs,jI el x)(hn:xs.length≤60) :
  cC Tryz.prog 137 [.view 1000000 [] 1 0 xs.length,.func 138 [.ref (enc el)]] (bJ 1000000 (xs++q)) (nx el [] xs q):=by
 refine cC.bn Tryz.func137 C1 De DB (t7 rfl) (t7 rfl) my (fun hwf W0 D0 E1 =>?_);simp only[vw,yZ,bg,zz4];clear hwf;refine .bx (by decide +kernel) fun K hK =>?_;simp only[F5,U,simprocAttr]
 try simp only[dj,U,simprocAttr]
 refine bt.lu (QJ el hd hel xs q hx hS hn) (kP _ xs.length 138 [.ref (enc el)] (by simp[I.bZ,I.bD,dG]) [_]) ?_;rintro eH os' ⟨rfl,s',k1,k2,rfl⟩;refine ⟨_,rfl,rfl,?_⟩
 try simp only[U,simprocAttr]
 refine .done (hK _ ?_);clear hK K;rw[mu];exact oe rfl rfl ⟨rfl,s',k1,k2,rfl⟩
def jA(l:List aq)(day:Int)(xs:List Int):List (Nat×ah):=[(1000008,.box (.own 1000080 xs.length)),(1000080,.cT 3 xs),(1000003,.box (enc l)),(1000004,.box (enc day))]
theorem amY(l:List aq)(day:Int)(xs ys:List Int):fu (jA l day xs) (jA l day ys):=by
 refine ⟨fun n=>by simp only[jA,al,aj];(repeat' split) <;>rfl,fun n x h =>?_,fun n h =>?_⟩
 ·simp only[jA,aj] at h
  repeat' split at h
  all_goals first | (cases h;done) | (simp only[u8] at h;subst h;exact ⟨by simp[jA,al,aj,ah.only,bh,I.only],rfl⟩)
 ·simp only[jA,al,aj] at h
  repeat' split at h
  all_goals first | omega | (simp at h;done)
def rz(l:List aq)(day:Int)(i:Nat):Bool:=decide ((ab l i).kind≠0)&&decide ((ab l i).day≤day)
def lU(l:List aq)(day known:Int)(k:Nat):List Nat:=((eQ l known).take k).filter (rz l day)
theorem Z3{l:List aq}{day known:Int}{k:Nat}(hk:k<(eQ l known).length):lU l day known (k+1)=lU l day known k++(if rz l day ((eQ l known).getD k 0) then [(eQ l known).getD k 0] else []):=by
 have e:(eQ l known).getD k 0=(eQ l known)[k]:=by rw[zz0,zz9 hk];rfl
 simp only[lU];rw[zy1 hk,List.filter_append,e];simp only[zx4,zv5]
theorem Z1(l:List aq)(day known:Int):lU l day known (eQ l known).length=jj l day known:=by
 simp only[lU,List.take_length];rfl
theorem Z2(l:List aq)(day known:Int)(k:Nat):(lU l day known k).length≤l.length:=by
 have h1:=zv9 (rz l day) ((eQ l known).take k);have h2:((eQ l known).take k).length≤(eQ l known).length:=by rw[zy7];omega
 have h3:(eQ l known).length≤l.length:=by
  have:=zv9 (fun i=>(gp l known).getD i false) (List.range l.length)
  rwa [List.length_range] at this
 exact zu1 h1 (zu1 h2 h3)
theorem Px:(∀ (A:ae) n b m k m' k' rest,dR A none n [] b (.own m k) rest (some (.own m' k'))=aE rest (A.aS n (.box (.own m k)))) :=
 fun _ _ _ m k m' k' _=>by rw[ez (s:=none) (v:=.own m k) (old:=.own m' k') rfl rfl rfl,fI]
theorem PI:(∀ n k,fm n k (.own n k)=.view n [] 1 0 k)∧(∀ n k m p,fm n k (.ptr m p)=.ptr m p)∧(∀ n k z,fm n k (.nils z)=.nils z)∧(∀ {α:Type} [Enc α] n k (x:α),fm n k (enc x)=enc x)∧(∀ n k i (x:Int),fm n k (.int i x)=.int i x)∧(∀ n k f xs,fm n k (.func f xs)=.func f xs)∧(∀ n k ks vs,fm n k (.cX ks vs)=.cX ks vs)∧(∀ n k b,fm n k (.bool b)=.bool b) ∧
  (∀ n,fR n (.own n 0)=.nils 1)∧(∀ n m p,fR n (.ptr m p)=.ptr m p)∧(∀ n z,fR n (.nils z)=.nils z)∧(∀ {α:Type} [Enc α] n (x:α),fR n (enc x)=enc x)∧(∀ n i (x:Int),fR n (.int i x)=.int i x)∧(∀ n f xs,fR n (.func f xs)=.func f xs)∧(∀ n ks vs,fR n (.cX ks vs)=.cX ks vs)∧(∀ n b,fR n (.bool b)=.bool b) ∧
  (∀ f v,iJ f (.box v)=.box (f v))∧(∀ f T xs,iJ f (.cT T xs)=.cT T xs)∧(∀ f ks vs,iJ f (.cB ks vs)=.cB ks vs) :=
 ⟨fun _ _=>by simp[fm],fun _ _ _ _=>rfl,fun _ _ _=>rfl,fun _ _ x=>qF (bh _ x),fun _ _ _ _=>rfl,fun _ _ _ _=>rfl,fun _ _ _ _=>rfl,fun _ _ _=>rfl,fun _=>by simp[fR],fun _ _ _=>rfl,fun _ _=>rfl,fun _ x=>zI (bh _ x),fun _ _ _=>rfl,fun _ _ _=>rfl,fun _ _ _=>rfl,fun _ _=>rfl,fun _ _=>rfl,fun _ _ _=>rfl,fun _ _ _=>rfl⟩
theorem sA(l:List aq)(day known:Int)(hok:dQ l=true):ay Tryz.prog 88 [enc l,enc day,enc known] (rQ l day known):=by
 have hl:=n9 hok;have hd:mQ l:=fun i hi=>alc (yI hok hi);refine ay.bn Tryz.func88 Up Wk Yw (t7 rfl) (fun hwf W0 D0 E1 =>?_);simp only[CS,OB,bg,zz4,Nat.reduceAdd];clear hwf;refine .ao (by decide +kernel) fun K hK =>?_;simp only[Kc,U,simprocAttr];refine .done (hK _ ?_);clear hK K;refine .ao (by decide +kernel) fun K hK =>?_;simp only[Kd,U,simprocAttr];refine .done (hK _ ?_);clear hK K;refine J.seq (J.seq ?_);refine .bx (by decide +kernel) fun K hK =>?_;simp only[Ki,U,simprocAttr]
 try simp only[eG,aU,U,simprocAttr]
 refine .lead _ (P8 l known hl) ?_
 try simp only[U,simprocAttr]
 refine .done (hK _ ?_);clear hK K;try simp only[ar]
 refine J.sub (aC.RJ 8 80 3 1 [] _ rfl rfl rfl (B:=au [(3,.ptr 3 []),(4,.ptr 4 []),(8,.ptr 8 []),(9,.nils 1),(17,.func 146 [.ref (enc l),.ref (enc (gp l known))])] [(8,.box (.own 80 0)),(80,.cT 3 []),(3,.box (enc l)),(4,.box (enc day))]) ?_) ?_
 ·simp only[fI];refine aC.bI ?_ ?_ ?_ ?_ <;>simp[aT,bC,bB,a6,al,aV,cg,I.only,I.bT,ah.only,bh,gT]
 refine J.block (J.kd (osb0:=jA l day []) (tsR:=[(3,.ptr 1000003 []),(4,.ptr 1000004 []),(8,.ptr 1000008 [])]) (ρ:=[(1999999,999999),(1000003,3),(1000004,4),(1000008,8),(1000080,80)])
  (fun k os=>os=jA l day (cL (lU l day known k)))
  (fun _ _=>False)
  rfl (t7 rfl) (by simp only[U,simprocAttr]) (by simp[I.bZ,I.bD,dG]) vE (Ab l (gp l known) hl (uO l known)) (fun _=>rfl) rfl rfl rfl (fun o=>⟨?_,?_⟩) ?_ ?_ ?_ ?_ ?_ ?_ ?_)
 ·intro n x hx;simp only[dp,jA,aj] at hx
  repeat' split at hx
  all_goals first | (cases hx;done) | (subst_vars;simp only[u8] at hx;subst hx;simp[dp,jA,al,bA,aj,ah.aN,I.aN,j4,ah.only,I.only,bh,ah.eX,gT])
 ·intro a b ha hb;simp only[dp,jA,al,aj] at ha hb
  repeat' split at ha
  all_goals first | (simp at ha;done) | skip
  all_goals (repeat' split at hb)
  all_goals first | (simp at hb;done) | (subst_vars;simp[bA])
 ·simp[mB,aV,I.aN,bA,I.only,jA,al,aj]
 ·rintro k os rfl;exact amY ..
 ·rintro e os h;exact h.elim
 ·simp[jA,lU,cL]
 ·rintro k osb hk rfl W1 D1 E1 La o1 o2;have hk':k<(eQ l known).length:=hk;have hdl:=Z2 l day known k;have hsu:=Z3 (day:=day) hk';generalize lU l day known k=dk at hsu hdl ⊢;obtain ⟨i,hi⟩:∃ i,i=(eQ l known).getD k 0:=⟨_,rfl⟩
  have hil:i<l.length:=by
   rw[hi,zz0,zz9 hk'];exact PC (zx3 hk')
  have hit:((iK (fun i=>(gp l known).getD i false) l.length).getD k 0)=i:=hi.symm;rw[←hi] at hsu;have he:=kZ hil;simp only[hit,qp,dp,jA];have R:=v6 @aU @U
  repeat' ((first |(with_reducible refine .guard (fun hb =>?_) (fun hb =>?_) <;>try simp only[hb])|refine J.aL (by decide +kernel) rfl fun K hK =>?_|(refine .aG [0,1,2,3,4,6,7,8,9,10,11,12,14,17,18,33,45,46,47,48,64] hK ?_;clear hK K)|(with_reducible refine .done (hK _ ?_);clear hK K)|refine J.of rfl ?_|(with_reducible refine ak.aK (fun h =>?_) (fun h =>?_) <;>try simp only[h])) <;>try simp only[aM,R,simprocAttr])
  all_goals clear R
  refine ⟨by simp[],?_⟩;have hap:=fun (A:ae) d rest=>vk (A:=A) (d:=d) (e:=3) (bytes:=8) (n:=1000080) (l:=(cL dk).length) (xs:=cL dk) (y:=(i:Int)) (rest:=rest) rfl (by simp[cL,maxLen];omega) (by simp[cL];omega);rcases h1:((ab l i).kind != 0) <;>rcases h2:decide ((ab l i).day≤day)
  all_goals
   have R:=v6 @h1 (v6 @h2 (v6 @he (v6 @hap (v6 @eG (v6 @Px (v6 @eM (v6 @bd (v6 @aU @U))))))))
   repeat' ((first |(with_reducible refine .guard (fun hb =>?_) (fun hb =>?_) <;>try simp only[hb])|refine J.aL (by decide +kernel) rfl fun K hK =>?_|(refine .aG [0,1,2,3,4,6,7,8,9,10,11,12,14,17,18,33,45,46,47,48,64] hK ?_;clear hK K)|(with_reducible refine .done (hK _ ?_);clear hK K)|refine J.of rfl ?_|(with_reducible refine ak.aK (fun h =>?_) (fun h =>?_) <;>try simp only[h])) <;>try simp only[aM,R,simprocAttr])
   all_goals clear R
  all_goals
   have hdue:rz l day i=(((ab l i).kind != 0)&&decide ((ab l i).day≤day)):=by simp only[rz,bne,ne_eq,decide_not];rfl
   rw[h1,h2] at hdue;rw[hdue] at hsu;refine ⟨_,?_,rfl⟩;rw[hsu];intro n x hx;simp only[dp,aj,if_true,zz6,zw5,Bool.and_true,Bool.and_false,if_false,zx7] at hx
   (repeat' split at hx) <;>first
    |(cases hx;done)
    |(subst_vars;simp only[u8] at hx;subst hx;simp[dp,al,au,aj,ah.only,I.only,bh,ah.eX,cL])
 ·rintro os rfl;have eN:lU l day known (iK (fun i=>(gp l known).getD i false) l.length).length=jj l day known:=Z1 l day known;simp only[eN,jA,dI,zz8,zx1,bA,ah.aN,I.aN,j4,ar,bO,reduceIte,Nat.reduceEqDiff,zy0,zy3];refine J.sub (B:=au [(3,.ptr 3 []),(8,.ptr 8 []),(9,.nils 1)] [(8,.box (.own 80 (lT l day known).length)),(80,.cT 3 (lT l day known)),(3,.box (enc l))]) ?_ ?_
  ·refine aC.bI ?_ ?_ ?_ ?_ <;>simp[*,aT,bC,bB,a6,al,aV,cg,I.only,ah.only,bh,gT,lT]
  have hlen:(lT l day known).length≤60:=by simp only[lT,cL,zy2];exact zu1 (vW l day known) hl
  have hris:=Z0 l day known;have hin:=ZZ (l:=l) (day:=day) (known:=known);have heq:=fun s=>alC (l:=l) (day:=day) (known:=known) (s:=s);generalize lT l day known=xs at hlen hris hin heq ⊢;by_cases hx0:xs=[]
  ·subst hx0;have ho0:ql l day known=[]:=(heq [] (List.Perm.refl _) List.Pairwise.nil).symm;refine J.sub (aC.PO (n:=80) (T:=3) rfl (B:=au [(3,.ptr 3 []),(8,.ptr 8 []),(9,.nils 1)] [(8,.box (.nils 1)),(3,.box (enc l))]) ?_) ?_
   ·simp only[zz8,zx1,PI,zu2];refine aC.bI ?_ ?_ ?_ ?_ <;>simp[aT,bC,bB,a6,al,aV,cg,I.only,ah.only,bh]
   refine .ao (by decide +kernel) fun K hK =>?_;simp only[xl,U,simprocAttr]
   try simp only[qc,gv,U,simprocAttr]
   refine .flat _ (Qn l) rfl ?_
   try simp only[U,simprocAttr]
   refine .done (hK _ ?_);clear hK K;refine .ao (by decide +kernel) fun K hK =>?_;simp only[xm,U,simprocAttr]
   try simp only[eM,U,simprocAttr]
   refine .done (hK _ ?_);clear hK K;refine .ao (by decide +kernel) fun K hK =>?_;simp only[xn,U,simprocAttr];refine .lead _ z8 ?_
   try simp only[U,simprocAttr]
   refine .done (hK _ ?_);clear hK K;refine J.seq (J.seq ?_);refine .bx (by decide +kernel) fun K hK =>?_;simp only[xp,U,simprocAttr]
   try simp only[eG,dj,bd,eM,U,simprocAttr]
   refine .done (hK _ ?_);clear hK K;try simp only[ar]
   have hF:=Ax l day known hok (W0:=W0) (D0:=D0) (E1:=E1);rw[ho0] at hF;refine J.sub (aC.rn [8] 45 (x:=.nils 1) (y:=enc ([]:List Int)) rfl (by rfl) ?_ ?_ ?_ ?_ ?_) hF
   ·simp[cW,a6,ah.only,I.only,I.bT,bh]
   ·simp[aT,gU,aV,I.only,I.bT,kS]
   ·simp[bC,cW,aj]
   ·simp[bB,al,aj,I.only,I.bT,bh,kS]
   ·simp[a6,al,aj,ah.only,I.only,I.bT,bh]
  ·refine J.zP (n:=80) rfl hx0 (by omega) (ud (by simp[nc,I.only])) ?_ (fun q =>?_)
   ·intro m y hy hm;simp only[aj] at hy
    repeat' split at hy
    all_goals first | (cases hy;done) | (exact absurd (by assumption) hm) | (simp only[u8] at hy;subst hy;first | exact .inl rfl | exact .inr (by simp[ah.only,bh]))
   simp only[zz8,zx1,PI];refine .ao (by decide +kernel) fun K hK =>?_;simp only[xl,U,simprocAttr]
   try simp only[eG,qc,gv,U,simprocAttr]
   refine .bS true [(1000000,80)] (bJ 1000000 (xs++List.replicate q 0)) [.view 1000000 [] 1 0 xs.length,.func 138 [.ref (enc l)]] _ rfl (Qm l hd hl xs _ hris hin hlen) ?_ ?_ ?_ ?_
   ·refine ⟨fun m y hy =>?_,fun m m' h h' _=>by rw[cE.1 h,cE.1 h']⟩;simp only[bJ,aj] at hy;split at hy
    ·rename_i hm;cases hy;subst hm;exact ⟨by simp only[bA,if_true,aj,ah.aN,I.aN,fB],fZ _ _,rfl⟩
    ·cases hy
   ·refine ⟨.inl ⟨by simp[I.aN,bA],cE.2 rfl,rfl⟩,.inr ?_,trivial⟩;simp[bl,ca,cD,au,cW,jM,bJ,bA,aj,dG,iO]
   ·rintro eH os' ⟨rfl,s',k1,k2,rfl⟩;refine ⟨fun m y hy =>?_,fun m m' h h' _=>by rw[cE.1 h,cE.1 h'],fun m hm=>by rw[cE.1 hm];exact cE.2 rfl,fun m a b=>by rw[cE.1 a] at b;simp[bJ,al,aj] at b,rfl,fun _=>rfl⟩;simp only[bJ,aj] at hy;split at hy
    ·cases hy;exact ⟨fZ _ _,rfl,fun _=>ajP _⟩
    ·cases hy
   ·rintro eH os' ⟨rfl,s',k1,k2,rfl⟩;have hs':=heq s' k1 k2;have hsl:xs.length=s'.length:=k1.length_eq.symm
    try simp only[bJ,dI,zz8,zx1,ah.aN,I.aN,fB,bA,reduceIte,zy0,zy3,I.cQ,U,simprocAttr]
    refine .done (hK _ ?_);clear hK K;refine .ao (by decide +kernel) fun K hK =>?_;simp only[xm,U,simprocAttr]
    try simp only[eM,U,simprocAttr]
    refine .done (hK _ ?_);clear hK K;refine .ao (by decide +kernel) fun K hK =>?_;simp only[xn,U,simprocAttr];refine .lead _ z8 ?_
    try simp only[U,simprocAttr]
    refine .done (hK _ ?_);clear hK K;refine J.seq (J.seq ?_);refine .bx (by decide +kernel) fun K hK =>?_;simp only[xp,U,simprocAttr]
    try simp only[eG,dj,U,simprocAttr]
    refine .done (hK _ ?_);clear hK K;try simp only[ar]
    have hF:=Ax l day known hok (W0:=W0) (D0:=D0) (E1:=E1);rw[←hs'] at hF;refine J.sub (aC.rn [80,8] 45 (x:=.view 80 [] 1 0 xs.length) (y:=enc s') rfl ?_ ?_ ?_ ?_ ?_ ?_) hF
    ·have:aj (iU [80,8] [(43,ah.box (I.agg ([I.raw (Value.map none)].set 0 (I.mref 41)))),(41,ah.cB [] []),(80,ah.box (I.agg ((s'++List.replicate q 0).map enc))),(80,ah.box (I.agg ((xs++List.replicate q 0).map enc))),(8,ah.box (I.view 80 [] 1 0 xs.length)),(80,ah.cT 3 xs),(3,ah.box (enc l))]) 80=some (.box (.agg ((s'++List.replicate q 0).map enc))):=by
      rw[oS];simp[aj]
     try simp only[this,U,simprocAttr]
     exact wo hsl.symm
    ·simp[cW,a6,ah.only,I.only,I.bT,bh]
    ·simp[aT,gU,aV,I.only,I.bT,kS,hsl]
    ·simp[bC,cW,aj]
    ·simp[bB,al,aj,I.only,I.bT,bh,kS]
    ·simp[a6,al,aj,ah.only,I.only,I.bT,bh]
 ·rintro e os h;exact h.elim
theorem Qf(n:Int):ay Tryz.prog 126 [enc n] (enc (!cj 0 100000 n)):=by
 refine ay.bn Tryz.func126 SW UQ W3 (t7 rfl) (fun hwf W0 D0 E1 =>?_);simp only[Bn,MZ,bg];have R:=v6 @aU @U
 repeat' ((first |(with_reducible refine .guard (fun hb =>?_) (fun hb =>?_) <;>try simp only[hb])|refine J.aL (by decide +kernel) rfl fun K hK =>?_|refine .flat _ (u4 _) rfl ?_|(refine .aG [0,2] hK ?_;clear hK K)|(with_reducible refine .done (hK _ ?_);clear hK K)|refine J.of rfl ?_|(with_reducible refine ak.aK (fun h =>?_) (fun h =>?_) <;>try simp only[h])) <;>try simp only[aM,R,simprocAttr])
 all_goals clear R
abbrev jC:=aW 2 Int
def ee(a b:Int):jC:=⟨[a,b],rfl⟩
def eK(l:List aq)(ns:List jC)(ds:List Int):Int:=if dQ l then (if ns.all (fun n=>cj 1 (n.g 1) (n.g 0)) then (if ds.any (fun d => !cj 0 100000 d) then 6 else 0) else 1) else 41
theorem Pw{A:ae}{n:Nat}{b:I}{x:jC}{u v:Int}{rest:List aB} : dR A (some 2) n [] b (enc x) rest (some (.agg [.int .i64 u,.int .i64 v]))=aE rest (A.aS n (.box (enc x))):=by
 have:=ez (A:=A) (n:=n) (p:=[]) (b:=b) (v:=enc x) (old:=.agg [.int .i64 u,.int .i64 v]) (rest:=rest) (s:=some 2) (dN _) (by rw[fL];rfl) (eL x);rw[this,fI]
theorem x4 :
  (∀ (x:jC) y,fN (0:Int) 2 (fM 2 1 (x.l.map enc) y)=y)∧(∀ (x:jC) y,fN (1:Int) 2 (fM 2 1 (x.l.map enc) y)=y)∧(∀ x:jC,(x.l.map (enc (α:=Int)))[0]?=some (I.int .i64 (x.g 0)))∧(∀ x:jC,(x.l.map (enc (α:=Int)))[1]?=some (I.int .i64 (x.g 1))) ∧
  (∀ x:jC,(enc x:I).dH=some (x.l.map enc))∧(∀ x:jC,b8 (some 2) (enc x)=true)∧((0:Int).toNat=0)∧((1:Int).toNat=1) :=
 ⟨fun x y=>gw 1 x (by decide) rfl,fun x y=>gw 1 x (by decide) rfl,fun x=>rp x (by decide),fun x=>rp x (by decide),fun _=>rfl,fun x=>by rw[fL];rfl,rfl,rfl⟩
theorem ot(l:List aq)(ns:List jC)(ds:List Int):ay Tryz.prog 67 [enc l,enc ns,enc ds] (enc (eK l ns ds)):=by
 refine ay.bn Tryz.func67 Ub V6 Yi (t7 rfl) (fun hwf W0 D0 E1 =>?_);simp only[CE,Oj,bg,zz4,Nat.reduceAdd];have hnl:ns.length≤maxLen:=((lC ns).1 hwf.2.1).1;simp only[maxLen] at hnl;have hF64:=Au l;simp only[eK];rcases hok:dQ l
 ·rw[hok,if_neg (by decide)] at hF64;have R:=v6 @hok (v6 @bd (v6 @aU @U))
  repeat' ((first |(with_reducible refine .guard (fun hb =>?_) (fun hb =>?_) <;>try simp only[hb])|refine J.aL (by decide +kernel) rfl fun K hK =>?_|refine .flat _ (hF64) rfl ?_|(refine .aG [0,1,2,6,7,9,13,15,16,17,18,26,29] hK ?_;clear hK K)|(with_reducible refine .done (hK _ ?_);clear hK K)|refine J.of rfl ?_|(with_reducible refine ak.aK (fun h =>?_) (fun h =>?_) <;>try simp only[h])) <;>try simp only[aM,R,simprocAttr])
  all_goals clear R
 rw[hok,if_pos rfl] at hF64;have R:=v6 @hok (v6 @bd (v6 @aU @U))
 repeat' ((first |(with_reducible refine .guard (fun hb =>?_) (fun hb =>?_) <;>try simp only[hb])|refine J.aL (by decide +kernel) rfl fun K hK =>?_|refine .flat _ (hF64) rfl ?_|(refine .aG [0,1,2,6,7,9,13,15,16,17,18,26,29] hK ?_;clear hK K)|(with_reducible refine .done (hK _ ?_);clear hK K)|refine J.of rfl ?_|(with_reducible refine ak.aK (fun h =>?_) (fun h =>?_) <;>try simp only[h])) <;>try simp only[aM,R,simprocAttr])
 all_goals clear R
 refine J.loop (fun i:Nat=>au [(2,enc ds),(15,enc ns),(16,.int .i64 ns.length),(17,.int .i64 i)] []) (fun i=>i≤ns.length∧∀ k,(h:k<ns.length)→k<i→cj 1 ((ns[k]).g 1) ((ns[k]).g 0)=true) (fun i=>ns.length-i) 0 ⟨zw7 _,fun k _ hk=>by omega⟩ ?_ (fun i hi =>?_)
 ·refine aC.bI ?_ ?_ ?_ ?_ <;>simp[aT,bC,bB,a6,aV,I.only,bh]
 obtain ⟨hi1,hi2⟩:=hi;by_cases hlt:i<ns.length
 ·have hc:=fO hlt;have he:=fun A=>ft (A:=A) 2 hlt rfl;have hw:=eB (i:=i) (by omega);obtain ⟨x,hx⟩:∃ x,x=ns[i]:=⟨_,rfl⟩
  rw[←hx] at he;rcases hp:cj 1 (x.g 1) (x.g 0)
  ·have hall:(ns.all fun n=>cj 1 (n.g 1) (n.g 0))=false:=by
    rw[List.all_eq_false];exact ⟨x,hx▸zx3 hlt,by rw[hp];decide⟩
   have R:=v6 @hc (v6 @he (v6 @hp (v6 @hall (v6 @Pw (v6 @x4 (v6 @bd @U))))))
   repeat' ((first |(with_reducible refine .guard (fun hb =>?_) (fun hb =>?_) <;>try simp only[hb])|refine J.aL (by decide +kernel) rfl fun K hK =>?_|refine .flat _ (mG _ _ _) rfl ?_|(refine .aG [0,1,2,6,7,9,13,15,16,17,18,26,29] hK ?_;clear hK K)|(with_reducible refine .done (hK _ ?_);clear hK K)|refine J.of rfl ?_|(with_reducible refine ak.aK (fun h =>?_) (fun h =>?_) <;>try simp only[h])) <;>try simp only[aM,R,simprocAttr])
   all_goals clear R
  ·have R:=v6 @hc (v6 @he (v6 @hp (v6 @hw (v6 @Pw (v6 @x4 (v6 @bd @U))))))
   repeat' ((first |(with_reducible refine .guard (fun hb =>?_) (fun hb =>?_) <;>try simp only[hb])|refine J.aL (by decide +kernel) rfl fun K hK =>?_|refine .flat _ (mG _ _ _) rfl ?_|(refine .aG [0,1,2,6,7,9,13,15,16,17,18,26,29] hK ?_;clear hK K)|(with_reducible refine .done (hK _ ?_);clear hK K)|refine J.of rfl ?_|(with_reducible refine ak.aK (fun h =>?_) (fun h =>?_) <;>try simp only[h])) <;>try simp only[aM,R,simprocAttr])
   all_goals clear R
   refine ⟨i+1,⟨by omega,fun k hk hki =>?_⟩,by omega,?_⟩
   ·by_cases e:k=i
    ·subst e;rw[←hx];exact hp
    ·exact hi2 k hk (by omega)
   ·refine aC.bI ?_ ?_ ?_ ?_ <;>simp[aT,bC,bB,a6,aV,bh,I.only]
 ·have hc:=gi hlt;have hall:(ns.all fun n=>cj 1 (n.g 1) (n.g 0))=true:=by
   rw[zx2];intro x hx;obtain ⟨k,hk,rfl⟩:=List.getElem_of_mem hx;exact hi2 k hk (by omega)
  have hF:=u3 ds 126 [] rfl (fun d => !cj 0 100000 d) (fun x _=>Qf x);rcases hd:ds.any fun d => !cj 0 100000 d
  all_goals
   rw[hd] at hF;have R:=v6 @hc (v6 @hall (v6 @hd (v6 @bd (v6 @aU @U))))
   repeat' ((first |(with_reducible refine .guard (fun hb =>?_) (fun hb =>?_) <;>try simp only[hb])|refine J.aL (by decide +kernel) rfl fun K hK =>?_|refine .flat _ (hF) rfl ?_|(refine .aG [0,1,2,6,7,9,13,15,16,17,18,26,29] hK ?_;clear hK K)|(with_reducible refine .done (hK _ ?_);clear hK K)|refine J.of rfl ?_|(with_reducible refine ak.aK (fun h =>?_) (fun h =>?_) <;>try simp only[h])) <;>try simp only[aM,R,simprocAttr])
   all_goals clear R
def cu(l:List aq)(day known:Int):List aD:=(rR c5 l (jQ l day known)).1
def ano(l:List aq)(day known:Int):List Int:=c4 (cL (rR c5 l (jQ l day known)).2)
theorem uk(l:List aq)(day known:Int):rQ l day known=.tuple [eU (cu l day known),enc (ano l day known)]:=rfl
theorem nM{l:List aq}(hok:dQ l=true)(day known:Int):((cu l day known).map (·.no)).Nodup∧(cu l day known).length≤60∧∀ b∈cu l day known,b.b9.length≤60:=by
 have h:=yS l (jQ l day known) _ (zz7 _);rw[My] at h;have h2:(jQ l day known).length≤60:=by rw[Mt];exact zu1 (vW l day known) (n9 hok)
 exact ⟨h.1,by simp only[cu];omega,fun b hb=>by have:=h.2.2.1 b hb;omega⟩
theorem p7(bs:List aD)(no:Int):gA (.i .i64) .nilp (.int .i64 no) (dx bs) (bs.map fun b=>.ref (enc (⟨b⟩:eJ)))=match cw bs no with
  |some b=>some (.ref (enc (⟨b⟩:eJ)),true)
  |none=>some (.nilp,false):=by
 have h1:=xv (bs:=bs) (no:=no);have h2:=x5 wb .nilp no (bs.map (·.no)) (bs.map fun b=>.ref (enc (⟨b⟩:eJ)));rw[gT] at h2;unfold dx;rw[h2];cases h:(bs.map (·.no)).findIdx? fun x=>decide (no=x) with
 |none=>rw[h] at h1;simp only at h1;rw[h1]
 |some i =>
  rw[h] at h1;obtain ⟨hi,g1,g2⟩:=h1;rw[g1];simp[hi]
theorem WD(bs:List aD):I.bZ (bs.map fun b=>.ref (enc (⟨b⟩:eJ)))=true:=by
 induction bs with
 |nil=>rfl
 |cons b bs ih=>simp only[zz8,I.bZ,I.bD,dG,ih,zw5]
theorem Wx(bs:List aD):(I.cX (dx bs) (bs.map fun b=>.ref (enc (⟨b⟩:eJ)))).bD=true:=by
 simp only[I.bD,WD,Bool.and_true];exact kR _
theorem nQ:(∀ bs,(eU bs).bD=true)∧(∀ aA A bs,bl aA A (eU bs)=some (eU bs))∧(∀ bs,(eU bs).cm=true)∧(∀ bs,b8 none (eU bs)=true)∧(∀ p bs,(eU bs).only p=true)∧(∀ x:eJ,(enc x:I).bD=true)∧(∀ bs,na (eU bs)=some (eU bs)) ∧
  (∀ A bs,lX A 0 0 (eU bs)=some (.ref (.cX (dx bs) (bs.map fun b=>.ref (enc (⟨b⟩:eJ))))))∧(∀ x:eJ,na (.ref (enc x))=some (.ref (enc x))) :=
 have h:∀ bs,(I.agg [.cX (dx bs) (bs.map fun b=>.ref (enc (⟨b⟩:eJ)))]).bD=true:=fun bs=>by simp only[I.bD,I.bZ,Bool.and_true];exact Wx bs
 ⟨fun bs=>by simp only[eU,I.bD];exact h bs,fun aA A bs=>by simp only[eU,bl,h bs,if_true],fun _=>rfl,fun _=>rfl,fun p bs=>nf p _ (by simp only[eU,I.bD];exact h bs),fun x=>dG x,fun _=>rfl,
  fun A bs=>by simp[eU,lX,I.dH,rj,pS,ef,I.sizes],fun _=>rfl⟩
theorem PR:(∀ k n,(I.int k n).cm=true)∧(∀ b,(I.bool b).cm=true):=⟨fun _ _=>rfl,fun _=>rfl⟩
theorem mP{l:List aq}{ns:List jC}{ds:List Int}(h:eK l ns ds=0):dQ l=true:=by
 simp only[eK] at h;split at h
 ·assumption
 ·cases h
theorem nZ{a:Int}(h:a=0):(a != 0)=false:=by simp[h]
theorem n8{a:Int}(h:¬ a=0):(a != 0)=true:=by simp[h]
theorem qV(a b:Int):iC 1 (some [.int .i64 a,.int .i64 b])=some (enc [a,b]):=mM (ys:=[a,b]) 1 rfl
theorem ou(l:List aq)(known:Int)(hok:dQ l=true):ay Tryz.prog 68 [enc l,enc known] (eU (cu l 100000 known)):=by
 refine ay.bn Tryz.func68 Uc V7 Yj (t7 rfl) (fun hwf W0 D0 E1 =>?_);simp only[CF,Ol,bg,zz4];have hF:=sA l 100000 known hok;rw[uk] at hF;have R:=v6 @nQ (v6 @aU @U)
 repeat' ((first |(with_reducible refine .guard (fun hb =>?_) (fun hb =>?_) <;>try simp only[hb])|refine J.aL (by decide +kernel) rfl fun K hK =>?_|refine .lead _ (hF) ?_|(refine .aG [0,1,4,5] hK ?_;clear hK K)|(with_reducible refine .done (hK _ ?_);clear hK K)|refine J.of rfl ?_|(with_reducible refine ak.aK (fun h =>?_) (fun h =>?_) <;>try simp only[h])) <;>try simp only[aM,R,simprocAttr])
 all_goals clear R
theorem Rm(b:aD):ay Tryz.prog 89 [.ref (enc (⟨b⟩:eJ))] (enc (!decide (0≤b.cV))):=by
 refine ay.bn Tryz.func89 Uq Wl Yx (t7 rfl) (fun hwf W0 D0 E1 =>?_);simp only[CT,OC,bg];have R:=v6 @nQ (v6 @aU @U)
 repeat' ((first |(with_reducible refine .guard (fun hb =>?_) (fun hb =>?_) <;>try simp only[hb])|refine J.aL (by decide +kernel) rfl fun K hK =>?_|refine .flat _ (jB _) rfl ?_|(refine .aG [0,2] hK ?_;clear hK K)|(with_reducible refine .done (hK _ ?_);clear hK K)|refine J.of rfl ?_|(with_reducible refine ak.aK (fun h =>?_) (fun h =>?_) <;>try simp only[h])) <;>try simp only[aM,R,simprocAttr])
 all_goals clear R
def oA(l:List aq)(day known:Int):List Int×Int:=if eK l [] [day,known]=0 then (c4 (((cu l day known).filter fun b => !decide (0≤b.cV)).map (·.no)),0) else ([],eK l [] [day,known])
theorem Ap(l:List aq)(day known:Int):ay Tryz.prog 26 [enc l,enc day,enc known] (.tuple [enc (oA l day known).1,enc (oA l day known).2]):=by
 refine ay.bn Tryz.func26 TX VU X6 (t7 rfl) (fun hwf W0 D0 E1 =>?_);simp only[Ct,N7,bg,zz4,Nat.reduceAdd];clear hwf;have hC:=ot l [] [day,known];simp only[oA];generalize hc:eK l [] [day,known]=e at hC ⊢;by_cases he:e=0
 ·have hn:=nZ he;subst he;have hok:=mP hc;have hF:=sA l day known hok;rw[uk] at hF;have hb:=nM hok day known;have hN:=sx (cu l day known) hb.2.1 89 [] rfl (fun b => !decide (0≤b.cV)) (fun b _=>Rm b);have R:=v6 @hn (v6 @qV (v6 @nQ (v6 @gv (v6 @aU @U))))
  repeat' ((first |(with_reducible refine .guard (fun hb =>?_) (fun hb =>?_) <;>try simp only[hb])|refine J.aL (by decide +kernel) rfl fun K hK =>?_|refine .flat _ (hC) rfl ?_|refine .lead _ (hF) ?_|refine .lead _ (hN) ?_|(refine .aG [0,1,2,6,7,8,9,17] hK ?_;clear hK K)|(with_reducible refine .done (hK _ ?_);clear hK K)|refine J.of rfl ?_|(with_reducible refine ak.aK (fun h =>?_) (fun h =>?_) <;>try simp only[h])) <;>try simp only[aM,R,simprocAttr])
  all_goals clear R
  all_goals rfl
 ·have hn:=n8 he;have R:=v6 @hn (v6 @he (v6 @qV (v6 @aU @U)))
  repeat' ((first |(with_reducible refine .guard (fun hb =>?_) (fun hb =>?_) <;>try simp only[hb])|refine J.aL (by decide +kernel) rfl fun K hK =>?_|refine .flat _ (hC) rfl ?_|(refine .aG [0,1,2,6,7,8,9,17] hK ?_;clear hK K)|(with_reducible refine .done (hK _ ?_);clear hK K)|refine J.of rfl ?_|(with_reducible refine ak.aK (fun h =>?_) (fun h =>?_) <;>try simp only[h])) <;>try simp only[aM,R,simprocAttr])
  all_goals clear R
  all_goals rfl
def nL(l:List aq)(no day known:Int):Int×Int:=if eK l [ee no 9999] [day,known]=0 then (match cw (cu l day known) no with
 |none=>(0,42)
 |some b=>if 0≤b.cV then (0,0) else (b.bP,0)) else (0,eK l [ee no 9999] [day,known])
theorem A5(a b:Int):iC 2 (some [.agg [.int .i64 a,.int .i64 b]])=some (enc [ee a b]):=mM (ys:=[ee a b]) 2 rfl
theorem A6(a b c d:Int):iC 2 (some [.agg [.int .i64 a,.int .i64 b],.agg [.int .i64 c,.int .i64 d]])=some (enc [ee a b,ee c d]):=mM (ys:=[ee a b,ee c d]) 2 rfl
theorem dE:(type_of% @aU)∧(type_of% @hT)∧(type_of% @nQ)∧(type_of% @gv)∧(type_of% @eM)∧(type_of% @eG)∧(type_of% @bd)∧(type_of% @qV)∧(type_of% @A5)∧(type_of% @A6)∧(type_of% @A2)∧(type_of% @PR)∧(type_of% @U):=⟨@aU,@hT,@nQ,@gv,@eM,@eG,@bd,@qV,@A5,@A6,@A2,@PR,@U⟩
theorem Aq(l:List aq)(no day known:Int):ay Tryz.prog 27 [enc l,enc no,enc day,enc known] (.tuple [enc (nL l no day known).1,enc (nL l no day known).2]):=by
 refine ay.bn Tryz.func27 TY VV X7 (t7 rfl) (fun hwf W0 D0 E1 =>?_);simp only[Cu,N8,bg,zz4,Nat.reduceAdd];clear hwf;have hC:=ot l [ee no 9999] [day,known];simp only[nL];generalize hc:eK l [ee no 9999] [day,known]=e at hC ⊢;by_cases he:e=0
 ·have hn:=nZ he;subst he;have hok:=mP hc;have hF:=sA l day known hok;rw[uk] at hF;have hk:=p7 (cu l day known) no;cases hg:cw (cu l day known) no with
  |none =>
   rw[hg] at hk;have R:=v6 @hn (v6 @hk dE)
   repeat' ((first |(with_reducible refine .guard (fun hb =>?_) (fun hb =>?_) <;>try simp only[hb])|refine J.aL (by decide +kernel) rfl fun K hK =>?_|refine .flat _ (hC) rfl ?_|refine .lead _ (hF) ?_|(refine .aG [0,1,2,3,8,9,10,11,13,23,38,41] hK ?_;clear hK K)|(with_reducible refine .done (hK _ ?_);clear hK K)|refine J.of rfl ?_|(with_reducible refine ak.aK (fun h =>?_) (fun h =>?_) <;>try simp only[h])) <;>try simp only[aM,R,simprocAttr])
   all_goals clear R
  |some b =>
   rw[hg] at hk;rcases hd:decide (0≤b.cV)
   all_goals
    have R:=v6 @hn (v6 @hk (v6 @hd dE))
    repeat' ((first |(with_reducible refine .guard (fun hb =>?_) (fun hb =>?_) <;>try simp only[hb])|refine J.aL (by decide +kernel) rfl fun K hK =>?_|refine .flat _ (hC) rfl ?_|refine .lead _ (hF) ?_|refine .flat _ (jB _) rfl ?_|(refine .aG [0,1,2,3,8,9,10,11,13,23,38,41] hK ?_;clear hK K)|(with_reducible refine .done (hK _ ?_);clear hK K)|refine J.of rfl ?_|(with_reducible refine ak.aK (fun h =>?_) (fun h =>?_) <;>try simp only[h])) <;>try simp only[aM,R,simprocAttr])
    all_goals clear R
    simp only[decide_eq_true_eq,decide_eq_false_iff_not] at hd;simp[hd]
 ·have hn:=n8 he;have R:=v6 @hn (v6 @he dE)
  repeat' ((first |(with_reducible refine .guard (fun hb =>?_) (fun hb =>?_) <;>try simp only[hb])|refine J.aL (by decide +kernel) rfl fun K hK =>?_|refine .flat _ (hC) rfl ?_|(refine .aG [0,1,2,3,8,9,10,11,13,23,38,41] hK ?_;clear hK K)|(with_reducible refine .done (hK _ ?_);clear hK K)|refine J.of rfl ?_|(with_reducible refine ak.aK (fun h =>?_) (fun h =>?_) <;>try simp only[h])) <;>try simp only[aM,R,simprocAttr])
  all_goals clear R
  all_goals rfl
theorem Rn(b:aD)(o s:Int):ay Tryz.prog 91 [.ref (enc (⟨b⟩:eJ)),.ref (enc o),.ref (enc s)] (enc (!decide (0≤b.cV)&&(b.bP==o&&b.dq==s))):=by
 refine ay.bn Tryz.func91 Us Wn Yz (t7 rfl) (fun hwf W0 D0 E1 =>?_);simp only[CV,OE,bg,zz4,Nat.reduceAdd];have R:=dE
 repeat' ((first |(with_reducible refine .guard (fun hb =>?_) (fun hb =>?_) <;>try simp only[hb])|refine J.aL (by decide +kernel) rfl fun K hK =>?_|refine .flat _ (jB _) rfl ?_|(refine .aG [0,1,2,4] hK ?_;clear hK K)|(with_reducible refine .done (hK _ ?_);clear hK K)|refine J.of rfl ?_|(with_reducible refine ak.aK (fun h =>?_) (fun h =>?_) <;>try simp only[h])) <;>try simp only[aM,R,simprocAttr])
 all_goals clear R
 all_goals simp_all
def pM(l:List aq)(o s day known:Int):Int×Int:=if eK l [ee o 99,ee s 9] [day,known]=0 then ((((cu l day known).filter fun b => !decide (0≤b.cV)&&(b.bP==o&&b.dq==s)).length:Int),0) else (0,eK l [ee o 99,ee s 9] [day,known])
theorem Ar(l:List aq)(o s day known:Int):ay Tryz.prog 28 [enc l,enc o,enc s,enc day,enc known] (.tuple [enc (pM l o s day known).1,enc (pM l o s day known).2]):=by
 refine ay.bn Tryz.func28 TZ VW X8 (t7 rfl) (fun hwf W0 D0 E1 =>?_);simp only[Cv,N9,bg,zz4,Nat.reduceAdd];clear hwf;have hC:=ot l [ee o 99,ee s 9] [day,known];simp only[pM];generalize hc:eK l [ee o 99,ee s 9] [day,known]=e at hC ⊢;by_cases he:e=0
 ·have hn:=nZ he;subst he;have hok:=mP hc;have hF:=sA l day known hok;rw[uk] at hF;have hb:=nM hok day known;have hN:=sx (cu l day known) hb.2.1 91 [.ref (enc o),.ref (enc s)] rfl (fun b => !decide (0≤b.cV)&&(b.bP==o&&b.dq==s)) (fun b _=>Rn b o s);have R:=v6 @hn (v6 @qc dE)
  repeat' ((first |(with_reducible refine .guard (fun hb =>?_) (fun hb =>?_) <;>try simp only[hb])|refine J.aL (by decide +kernel) rfl fun K hK =>?_|refine .flat _ (hC) rfl ?_|refine .lead _ (hF) ?_|(refine .aG [0,1,2,3,4,6,7,10,11,12,13,26] hK ?_;clear hK K)|(with_reducible refine .done (hK _ ?_);clear hK K)|refine J.of rfl ?_|(with_reducible refine ak.aK (fun h =>?_) (fun h =>?_) <;>try simp only[h])) <;>try simp only[aM,R,simprocAttr])
  all_goals clear R
  refine .iE [6,7] _ rfl hN ?_ ?_ ?_
  ·simp[bl,ca,cD,au,iU,aj,iO,nQ,I.bD];exact ⟨rfl,rfl⟩
  ·simp[a6,cW]
  ·have hlen:(c4 (((cu l day known).filter fun b => !decide (0≤b.cV)&&(b.bP==o&&b.dq==s)).map (·.no))).length=((cu l day known).filter fun b => !decide (0≤b.cV)&&(b.bP==o&&b.dq==s)).length:=by simp[c4]
   try simp only[gU,zz8,zx1,hlen,dE,U,simprocAttr]
   have R:=v6 @hlen dE
   repeat' ((first |(with_reducible refine .guard (fun hb =>?_) (fun hb =>?_) <;>try simp only[hb])|refine J.aL (by decide +kernel) rfl fun K hK =>?_|(refine .aG [0,1,2,3,4,6,7,10,11,12,13,26] hK ?_;clear hK K)|(with_reducible refine .done (hK _ ?_);clear hK K)|refine J.of rfl ?_|(with_reducible refine ak.aK (fun h =>?_) (fun h =>?_) <;>try simp only[h])) <;>try simp only[aM,R,simprocAttr])
   all_goals clear R
 ·have hn:=n8 he;have R:=v6 @hn (v6 @he dE)
  repeat' ((first |(with_reducible refine .guard (fun hb =>?_) (fun hb =>?_) <;>try simp only[hb])|refine J.aL (by decide +kernel) rfl fun K hK =>?_|refine .flat _ (hC) rfl ?_|(refine .aG [0,1,2,3,4,6,7,10,11,12,13,26] hK ?_;clear hK K)|(with_reducible refine .done (hK _ ?_);clear hK K)|refine J.of rfl ?_|(with_reducible refine ak.aK (fun h =>?_) (fun h =>?_) <;>try simp only[h])) <;>try simp only[aM,R,simprocAttr])
  all_goals clear R
  all_goals rfl
theorem eO(m:bU):b8 (some 7) (enc m)=true:=by rw[fL];rfl
theorem sw(m:bU)(b:aD):ay Tryz.prog 69 [enc m,.ref (enc (⟨b⟩:eJ))] (enc (jr m b.b9).1):=by
 refine ay.bn Tryz.func69 Ud V8 Yk (t7 rfl) (fun hwf W0 D0 E1 =>?_);simp only[CG,Om,bg,zz4];clear hwf;have hC:=Qg m b.b9;have R:=v6 @eO dE
 repeat' ((first |(with_reducible refine .guard (fun hb =>?_) (fun hb =>?_) <;>try simp only[hb])|refine J.aL (by decide +kernel) rfl fun K hK =>?_|refine .lead _ (hC) ?_|(refine .aG [0,1,2,4,5] hK ?_;clear hK K)|(with_reducible refine .done (hK _ ?_);clear hK K)|refine J.of rfl ?_|(with_reducible refine ak.aK (fun h =>?_) (fun h =>?_) <;>try simp only[h])) <;>try simp only[aM,R,simprocAttr])
 all_goals clear R
theorem Qi(l:List Int)(n:Int):ay Tryz.prog 131 [enc l,enc n] (enc (j7 (fun x=>n==x) l)):=by
 refine ay.bn Tryz.func131 S0 UU W7 (t7 rfl) (fun hwf W0 D0 E1 =>?_);simp only[Br,M4,bg,zz4];have hlen:l.length≤maxLen:=((lC l).1 hwf.1).1;simp only[maxLen] at hlen;clear hwf;have R:=v6 @bd @U
 repeat' ((first |(with_reducible refine .guard (fun hb =>?_) (fun hb =>?_) <;>try simp only[hb])|refine J.aL (by decide +kernel) rfl fun K hK =>?_|(refine .aG [0,1,4,5,7,8,9,16] hK ?_;clear hK K)|(with_reducible refine .done (hK _ ?_);clear hK K)|refine J.of rfl ?_|(with_reducible refine ak.aK (fun h =>?_) (fun h =>?_) <;>try simp only[h])) <;>try simp only[aM,R,simprocAttr])
 all_goals clear R
 refine J.loop (fun i:Nat=>au [(0,enc l),(1,.int .i64 n),(7,.int .i64 l.length),(8,.int .i64 i)] []) (fun i=>i≤l.length∧∀ x∈l.take i,(n==x)=false) (fun i=>l.length-i) 0 ⟨zw7 _,by simp⟩ ?_ (fun i hi =>?_)
 ·refine aC.bI ?_ ?_ ?_ ?_ <;>simp[aT,bC,bB,a6,aV,I.only,bh]
 obtain ⟨hi1,hi2⟩:=hi;by_cases hlt:i<l.length
 ·have hc:=fO hlt;have he:=fun A=>ft (A:=A) 1 hlt rfl;have hw:=eB (i:=i) (by omega);rcases hp:(n==l[i])
  ·have R:=v6 @hc (v6 @he (v6 @hp (v6 @hw (v6 @lh (v6 @bd @U)))))
   repeat' ((first |(with_reducible refine .guard (fun hb =>?_) (fun hb =>?_) <;>try simp only[hb])|refine J.aL (by decide +kernel) rfl fun K hK =>?_|(refine .aG [0,1,4,5,7,8,9,16] hK ?_;clear hK K)|(with_reducible refine .done (hK _ ?_);clear hK K)|refine J.of rfl ?_|(with_reducible refine ak.aK (fun h =>?_) (fun h =>?_) <;>try simp only[h])) <;>try simp only[aM,R,simprocAttr])
   all_goals clear R
   refine ⟨i+1,⟨by omega,fun x hm =>?_⟩,by omega,?_⟩
   ·rw[zy1 hlt] at hm;rcases zy4.1 hm with hm | hm
    ·exact hi2 x hm
    ·simp at hm;rw[hm];exact hp
   ·refine aC.bI ?_ ?_ ?_ ?_ <;>simp[aT,bC,bB,a6,aV,I.only,bh]
  ·have R:=v6 @hc (v6 @he (v6 @hp (v6 @lh (v6 @bd @U))))
   repeat' ((first |(with_reducible refine .guard (fun hb =>?_) (fun hb =>?_) <;>try simp only[hb])|refine J.aL (by decide +kernel) rfl fun K hK =>?_|(refine .aG [0,1,4,5,7,8,9,16] hK ?_;clear hK K)|(with_reducible refine .done (hK _ ?_);clear hK K)|refine J.of rfl ?_|(with_reducible refine ak.aK (fun h =>?_) (fun h =>?_) <;>try simp only[h])) <;>try simp only[aM,R,simprocAttr])
   all_goals clear R
   simp[j7,wu hlt hi2 hp]
 ·have hc:=gi hlt;have hge:i=l.length:=by omega
  have R:=v6 @hc (v6 @bd @U)
  repeat' ((first |(with_reducible refine .guard (fun hb =>?_) (fun hb =>?_) <;>try simp only[hb])|refine J.aL (by decide +kernel) rfl fun K hK =>?_|(refine .aG [0,1,4,5,7,8,9,16] hK ?_;clear hK K)|(with_reducible refine .done (hK _ ?_);clear hK K)|refine J.of rfl ?_|(with_reducible refine ak.aK (fun h =>?_) (fun h =>?_) <;>try simp only[h])) <;>try simp only[aM,R,simprocAttr])
  all_goals clear R
  subst hge;rw[List.take_length] at hi2;simp[j7,wq hi2]
theorem Rf(l:List Int)(n:Int):ay Tryz.prog 74 [enc l,enc n] (enc (decide (n∈l))):=by
 refine ay.bn Tryz.func74 Ug Wb Yn (t7 rfl) (fun hwf W0 D0 E1 =>?_);simp only[CJ,Oq,bg,zz4];clear hwf;have R:=v6 @aU @U
 repeat' ((first |(with_reducible refine .guard (fun hb =>?_) (fun hb =>?_) <;>try simp only[hb])|refine J.aL (by decide +kernel) rfl fun K hK =>?_|refine .flat _ (Qi _ _) rfl ?_|(refine .aG [0,1,4] hK ?_;clear hK K)|(with_reducible refine .done (hK _ ?_);clear hK K)|refine J.of rfl ?_|(with_reducible refine ak.aK (fun h =>?_) (fun h =>?_) <;>try simp only[h])) <;>try simp only[aM,R,simprocAttr])
 all_goals clear R
 rw[KS]
 congr 1
 rw[Bool.eq_iff_iff];simp[List.any_eq_true]
theorem Re(m:bU)(b:aD):ay Tryz.prog 73 [.ref (enc (⟨b⟩:eJ)),.ref (enc m)] (enc (decide (0<b.jZ) && !decide (b.jZ∈(jr m b.b9).1))):=by
 refine ay.bn Tryz.func73 Uf Wa Ym (t7 rfl) (fun hwf W0 D0 E1 =>?_);simp only[CI,Oo,bg,zz4];clear hwf;have hC:=sw m b;have R:=v6 @eO dE
 repeat' ((first |(with_reducible refine .guard (fun hb =>?_) (fun hb =>?_) <;>try simp only[hb])|refine J.aL (by decide +kernel) rfl fun K hK =>?_|refine .lead _ (hC) ?_|refine .flat _ (Rf _ _) rfl ?_|(refine .aG [0,1,3] hK ?_;clear hK K)|(with_reducible refine .done (hK _ ?_);clear hK K)|refine J.of rfl ?_|(with_reducible refine ak.aK (fun h =>?_) (fun h =>?_) <;>try simp only[h])) <;>try simp only[aM,R,simprocAttr])
 all_goals clear R
 all_goals first | (simp_all;done) | (simp_all;intro h;omega)
def lK(m:bU)(l:List aq)(no known:Int):List Int×Int:=if eg m then (if eK l [ee no 9999] [known]=0 then (match cw (cu l 100000 known) no with
 |none=>([],42)
 |some b=>((jr m b.b9).1,0)) else ([],eK l [ee no 9999] [known])) else ([],13)
theorem mN(a:Int):iC 1 (some [.int .i64 a])=some (enc [a]):=mM (ys:=[a]) 1 rfl
theorem u5(m:bU)(l:List aq)(no known:Int):ay Tryz.prog 14 [enc m,enc l,enc no,enc known] (.tuple [enc (lK m l no known).1,enc (lK m l no known).2]):=by
 refine ay.bn Tryz.func14 S7 U2 Xe (t7 rfl) (fun hwf W0 D0 E1 =>?_);simp only[Bz,Nb,bg,zz4,Nat.reduceAdd];clear hwf;have hM:=sv m;have hC:=ot l [ee no 9999] [known];simp only[lK];rcases hm:eg m
 ·rw[hm,if_neg (by decide)] at hM;have R:=v6 @eO dE
  repeat' ((first |(with_reducible refine .guard (fun hb =>?_) (fun hb =>?_) <;>try simp only[hb])|refine J.aL (by decide +kernel) rfl fun K hK =>?_|refine .flat _ (hM) rfl ?_|(refine .aG [0,1,2,3,4,8,9,10,11,12,16,26,37] hK ?_;clear hK K)|(with_reducible refine .done (hK _ ?_);clear hK K)|refine J.of rfl ?_|(with_reducible refine ak.aK (fun h =>?_) (fun h =>?_) <;>try simp only[h])) <;>try simp only[aM,R,simprocAttr])
  all_goals clear R
  all_goals rfl
 rw[hm,if_pos rfl] at hM;generalize hc:eK l [ee no 9999] [known]=e at hC ⊢;by_cases he:e=0
 ·have hn:=nZ he;subst he;have hok:=mP hc;have hF:=ou l known hok;have hk:=p7 (cu l 100000 known) no;cases hg:cw (cu l 100000 known) no with
  |none =>
   rw[hg] at hk;have R:=v6 @hn (v6 @hk (v6 @eO dE))
   repeat' ((first |(with_reducible refine .guard (fun hb =>?_) (fun hb =>?_) <;>try simp only[hb])|refine J.aL (by decide +kernel) rfl fun K hK =>?_|refine .flat _ (hM) rfl ?_|refine .flat _ (hC) rfl ?_|refine .lead _ (hF) ?_|(refine .aG [0,1,2,3,4,8,9,10,11,12,16,26,37] hK ?_;clear hK K)|(with_reducible refine .done (hK _ ?_);clear hK K)|refine J.of rfl ?_|(with_reducible refine ak.aK (fun h =>?_) (fun h =>?_) <;>try simp only[h])) <;>try simp only[aM,R,simprocAttr])
   all_goals clear R
   all_goals rfl
  |some b =>
   rw[hg] at hk;have hB:=sw m b;have R:=v6 @hn (v6 @hk (v6 @eO dE))
   repeat' ((first |(with_reducible refine .guard (fun hb =>?_) (fun hb =>?_) <;>try simp only[hb])|refine J.aL (by decide +kernel) rfl fun K hK =>?_|refine .flat _ (hM) rfl ?_|refine .flat _ (hC) rfl ?_|refine .lead _ (hF) ?_|refine .lead _ (hB) ?_|(refine .aG [0,1,2,3,4,8,9,10,11,12,16,26,37] hK ?_;clear hK K)|(with_reducible refine .done (hK _ ?_);clear hK K)|refine J.of rfl ?_|(with_reducible refine ak.aK (fun h =>?_) (fun h =>?_) <;>try simp only[h])) <;>try simp only[aM,R,simprocAttr])
   all_goals clear R
 ·have hn:=n8 he;have R:=v6 @hn (v6 @he (v6 @eO dE))
  repeat' ((first |(with_reducible refine .guard (fun hb =>?_) (fun hb =>?_) <;>try simp only[hb])|refine J.aL (by decide +kernel) rfl fun K hK =>?_|refine .flat _ (hM) rfl ?_|refine .flat _ (hC) rfl ?_|(refine .aG [0,1,2,3,4,8,9,10,11,12,16,26,37] hK ?_;clear hK K)|(with_reducible refine .done (hK _ ?_);clear hK K)|refine J.of rfl ?_|(with_reducible refine ak.aK (fun h =>?_) (fun h =>?_) <;>try simp only[h])) <;>try simp only[aM,R,simprocAttr])
  all_goals clear R
  all_goals rfl
def sk(m:bU)(l:List aq)(known:Int):List Int×Int:=if eg m then (if eK l [] [known]=0 then
 (c4 (((cu l 100000 known).filter fun b=>decide (0<b.jZ) && !decide (b.jZ∈(jr m b.b9).1)).map (·.no)),0) else ([],eK l [] [known])) else ([],13)
theorem QB(m:bU)(l:List aq)(known:Int):ay Tryz.prog 16 [enc m,enc l,enc known] (.tuple [enc (sk m l known).1,enc (sk m l known).2]):=by
 refine ay.bn Tryz.func16 Tl Vh Xt (t7 rfl) (fun hwf W0 D0 E1 =>?_);simp only[BO,Nt,bg,zz4,Nat.reduceAdd];clear hwf;have hM:=sv m;have hC:=ot l [] [known];simp only[sk];rcases hm:eg m
 ·rw[hm,if_neg (by decide)] at hM;have R:=v6 @eO dE
  repeat' ((first |(with_reducible refine .guard (fun hb =>?_) (fun hb =>?_) <;>try simp only[hb])|refine J.aL (by decide +kernel) rfl fun K hK =>?_|refine .flat _ (hM) rfl ?_|(refine .aG [0,1,2,3,6,7,8,9,13,20] hK ?_;clear hK K)|(with_reducible refine .done (hK _ ?_);clear hK K)|refine J.of rfl ?_|(with_reducible refine ak.aK (fun h =>?_) (fun h =>?_) <;>try simp only[h])) <;>try simp only[aM,R,simprocAttr])
  all_goals clear R
  all_goals rfl
 rw[hm,if_pos rfl] at hM;generalize hc:eK l [] [known]=e at hC ⊢;by_cases he:e=0
 ·have hn:=nZ he;subst he;have hok:=mP hc;have hF:=ou l known hok;have hb:=nM hok 100000 known;have hN:=sx (cu l 100000 known) hb.2.1 73 [.ref (enc m)] (by simp[I.eS,I.done,dG]) (fun b=>decide (0<b.jZ) && !decide (b.jZ∈(jr m b.b9).1)) (fun b _=>Re m b);have R:=v6 @hn (v6 @eO (v6 @qc dE))
  repeat' ((first |(with_reducible refine .guard (fun hb =>?_) (fun hb =>?_) <;>try simp only[hb])|refine J.aL (by decide +kernel) rfl fun K hK =>?_|refine .flat _ (hM) rfl ?_|refine .flat _ (hC) rfl ?_|refine .lead _ (hF) ?_|(refine .aG [0,1,2,3,6,7,8,9,13,20] hK ?_;clear hK K)|(with_reducible refine .done (hK _ ?_);clear hK K)|refine J.of rfl ?_|(with_reducible refine ak.aK (fun h =>?_) (fun h =>?_) <;>try simp only[h])) <;>try simp only[aM,R,simprocAttr])
  all_goals clear R
  refine .iE [3] _ rfl hN ?_ ?_ ?_
  ·simp[bl,ca,cD,au,iU,aj,iO,nQ,dG]
  ·simp[a6,cW]
  ·try simp only[gU,zz8,zx1,dE,U,simprocAttr]
   have R:=dE
   repeat' ((first |(with_reducible refine .guard (fun hb =>?_) (fun hb =>?_) <;>try simp only[hb])|refine J.aL (by decide +kernel) rfl fun K hK =>?_|(refine .aG [0,1,2,3,6,7,8,9,13,20] hK ?_;clear hK K)|(with_reducible refine .done (hK _ ?_);clear hK K)|refine J.of rfl ?_|(with_reducible refine ak.aK (fun h =>?_) (fun h =>?_) <;>try simp only[h])) <;>try simp only[aM,R,simprocAttr])
   all_goals clear R
 ·have hn:=n8 he;have R:=v6 @hn (v6 @he (v6 @eO dE))
  repeat' ((first |(with_reducible refine .guard (fun hb =>?_) (fun hb =>?_) <;>try simp only[hb])|refine J.aL (by decide +kernel) rfl fun K hK =>?_|refine .flat _ (hM) rfl ?_|refine .flat _ (hC) rfl ?_|(refine .aG [0,1,2,3,6,7,8,9,13,20] hK ?_;clear hK K)|(with_reducible refine .done (hK _ ?_);clear hK K)|refine J.of rfl ?_|(with_reducible refine ak.aK (fun h =>?_) (fun h =>?_) <;>try simp only[h])) <;>try simp only[aM,R,simprocAttr])
  all_goals clear R
  all_goals rfl
def nT{α:Type}(f:α→Int)(l:List α)(x:α):List α:=(l.takeWhile fun a=>decide (f a≤f x))++x::l.dropWhile fun a=>decide (f a≤f x)
def oz(l:List Int)(x:Int):List Int:=if x∈l then l else nT id l x
def lz(l:List Int):List Int:=l.foldl oz []
theorem amS{A:ae}{n:Nat}{w:I}{b:aD}{rest:List aB} : dR A (some 9) n [] w (enc b) rest (some (.agg [.int .i64 0,.int .i64 0,.int .i64 0,.int .i64 0,.int .i64 0,.int .i64 0,.int .i64 0,.bool false,.nils 6]))=aE rest (A.aS n (.box (enc b))):=by
 refine (ez (s:=some 9) (dN _) (by rw[fL];rfl) (eL b)).trans ?_;rw[fI]
end Go.Proofs.YtcldiigclhgafaaGreat
namespace Go.Proofs.YtcldiigclhgafaaGreat
open Go Go.Abs Go.ChangeShapes Go.WideShapes Go.RowKit
open Go.Abs.Enc (enc)
theorem Tryz.own:ownKnob Tryz.prog.godebug=none:=by kernel_rfl
theorem Tryz.Lb:laidOutB Tryz.prog=true:=by kernel_rfl
theorem tV:jW Tryz.prog 3 Int:=alB (by kernel_rfl) (by kernel_rfl)
theorem LP:jW Tryz.prog 29 (List Int):=Mo (by kernel_rfl) tV (by kernel_rfl)
theorem akr:jW Tryz.prog 28 jC:=Mn (K3 (by kernel_rfl)) tV (by kernel_rfl) (by decide)
theorem O8{w:World}{D:aR}{E:aZ}{x y z:I}{a b c:Value}(hx:∃ cs,bL x a cs∧af w D E x cs)(hy:∃ cs,bL y b cs∧af w D E y cs)(hz:∃ cs,bL z c cs∧af w D E z cs):aH w D E [x,y,z] [a,b,c]:=by
 obtain ⟨c1,h1,h2⟩:=hx;obtain ⟨c2,h3,h4⟩:=hy;obtain ⟨c3,h5,h6⟩:=hz;simp only[aH];exact ⟨a,[b,c],c1,rfl,h1,h2,b,[c],c2,rfl,h3,h4,c,[],c3,rfl,h5,h6,rfl⟩
end Go.Proofs.YtcldiigclhgafaaGreat
namespace Go.Proofs.YtcldiigclhgafaaGreat
open Go Go.Abs
open Go.Abs.Enc (enc)
theorem Sw(w:aW 5 Int)(n:Int):dZ [enc (a5 0 0 0 0 0),.int .i64 0,.nils 7] [(0,enc w),(1,.int .i64 n)]=some [enc w,.int .i64 n,.nils 7]:=by
 have h1:((enc w:I).cm=true∧(enc w:I).size=(enc (a5 0 0 0 0 0)).size):=⟨dN _,by rw[gH,gH]⟩
 rw[pf (z:=enc (a5 0 0 0 0 0)) rfl h1.1 h1.2,pf (v:=.int .i64 n) (z:=.int .i64 0) rfl rfl rfl];rfl
theorem mL(w:aW 5 Int)(n:Int)(x:I)(h1:x.cm=true)(h2:x.aQ=.one)(h3:x.size=1):(I.agg [enc w,.int .i64 n,x]).cm=true∧b8 (some 7) (I.agg [enc w,.int .i64 n,x])=true∧(I.agg [enc w,.int .i64 n,x]).aQ=.ep [.ep (List.replicate 5 .one),.one,.one]:=by
 refine ⟨rfl,?_,?_⟩
 ·simp[b8,I.isAgg,I.size,I.sizes,gH,h3,kU,kV]
 ·simp[I.aQ,I.cS,eL,h2,sX,sY]
theorem yB(w:aW 5 Int)(n:Int)(x:I)(v:I):ef [enc w,.int .i64 n,x] 2 6 v=some v:=mf (t7 rfl) (by simp[I.sizes,I.size,gH,kU,kV])
theorem Ao(c:List Int)(hl:c.length≤4611686018427387904):ay Tryz.prog 24 [enc c] (enc (m0 c)):=by
 refine ay.bn Tryz.func24 TV VS X4 (t7 rfl) (fun hwf W0 D0 E1 =>?_);simp only[Cr,N5,bg];refine .ao (by decide +kernel) fun K hK =>?_;simp only[IV,U,simprocAttr];refine .done (hK _ ?_);clear hK K;obtain ⟨w,hw⟩:∃ w,w=fS c 5:=⟨_,rfl⟩
 obtain ⟨f,hf⟩:∃ f,f=bF c 5%2:=⟨_,rfl⟩
 refine .ao (by decide +kernel) fun K hK =>?_;simp only[IW,U,simprocAttr]
 try simp only[c8,U,simprocAttr]
 refine .lead _ (Rj c hl) ?_
 try simp only[c8,U,simprocAttr]
 refine .flat _ (mH c 5 hl) rfl ?_
 try simp only[U,simprocAttr]
 refine .flat _ (gN (bF c 5) 2 (by decide) (by decide)) rfl ?_
 try simp only[DZ,Sw,←hw,←hf,U,simprocAttr]
 obtain ⟨q1,q2,q3⟩:=mL w f (.nils 7) rfl rfl rfl;rw[ez q1 q2 (q3.trans (mL (a5 0 0 0 0 0) 0 (.nils 7) rfl rfl rfl).2.2.symm)]
 try simp only[fI,U,simprocAttr]
 refine .done (hK _ ?_);clear hK K;refine .ao (by decide +kernel) fun K hK =>?_;simp only[IX,U,simprocAttr];refine .done (hK _ ?_);clear hK K;refine J.seq (J.seq ?_);refine .bx (by decide +kernel) fun K hK =>?_;simp only[IY,U,simprocAttr];refine .done (hK _ ?_);clear hK K;try simp only[ar]
 refine J.block (J.loop (fun i:Nat=>au [(0,enc c),(2,.ptr 2 []),(3,.ptr 3 []),(4,.int .i64 (db c i).1),(5,.int .i64 i)] [(1,.bY 63 7 ((db c i).2.map enc)),(2,.box (.agg [enc (a5 0 0 0 0 0),.int .i64 0,.nils 7])),(3,.box (.agg [enc w,.int .i64 f,.own 1 (db c i).2.length]))]) (fun i=>i≤12) (fun i=>12-i) 0 (by omega) ?_ (fun i hi =>?_))
 ·refine aC.vi 3 1 63 7 7 [2] (.agg [enc w,.int .i64 f,.nils 7]) ?_ rfl ?_ ?_
  ·try simp only[U,simprocAttr]
  ·try simp only[U,simprocAttr]
  ·have e1:(I.agg [enc w,.int .i64 f,.nils 7]).dO [2] (.own 1 0)=.agg [enc w,.int .i64 f,.own 1 0]:=rfl;rw[e1];simp only[db,zx1,zu2];refine aC.bI ?_ ?_ ?_ ?_ <;>simp[aT,bC,bB,a6,al,aV,cg,I.only,I.bT,ah.only,bh]
 obtain ⟨b1,b2,b3,_,_⟩:=yd c i;have q4:=LF (c.getD i 0);have fin12:¬ (i<c.length∧i<12∧(db c i).2.length<9)→(m0 c).given=(db c i).2:=by
  intro hn;by_cases e:i=12
  ·subst e;rfl
  ·have:db c 12=db c i:=Lv (fun hh=>hn ⟨hh.1,by omega,hh.2⟩) 12 hi;simp only[m0,j8,this]
 refine J.seq (J.seq ?_);refine .bx (by decide +kernel) fun K hK =>?_;simp only[IZ,U,simprocAttr]
 try simp only[bd,U,simprocAttr]
 generalize hz:decide ((i:Int)<c.length)=bz;cases bz
 ·have hout:=fin12 (fun hh=>by simp at hz;omega)
  try simp only[U,simprocAttr]
  refine .done (hK _ ?_);clear hK K;try simp only[ar]
  refine J.bM ?_;simp only[ak,U,simprocAttr];refine ⟨fun h =>?_,fun h =>?_⟩
  ·cases h
  refine J.exit ?_;try simp only[ar,bO,simprocAttr]
  refine .ao (by decide +kernel) fun K hK =>?_;simp only[tj,U,simprocAttr];obtain ⟨s1,s2,s3⟩:=mL w f (.own 1 (db c i).2.length) rfl rfl rfl
  try simp only[s2,U,simprocAttr]
  rw[ez s1 s2 (s3.trans (mL (a5 0 0 0 0 0) 0 (.nils 7) rfl rfl rfl).2.2.symm)]
  try simp only[fI,U,simprocAttr]
  refine .done (hK _ ?_);clear hK K;refine J.ret ?_;simp only[U,simprocAttr]
  try simp only[s2,mW (α:=cq) 7 rfl rfl,c8,U,simprocAttr]
  have hfin:(⟨w,f,(db c i).2⟩:bU)=m0 c:=by rw[←hout,hw,hf];rfl
  rw[qZ,hfin]
 have hic:i<c.length:=by simpa using hz
 try simp only[U,simprocAttr]
 generalize hz2:decide ((i:Int)<12)=bz;cases bz
 ·have hout:=fin12 (fun hh=>by simp at hz2;omega)
  try simp only[U,simprocAttr]
  refine .done (hK _ ?_);clear hK K;refine J.bM ?_;simp only[ak,U,simprocAttr];refine ⟨fun h =>?_,fun h =>?_⟩
  ·cases h
  refine J.exit ?_;try simp only[ar,bO,simprocAttr]
  refine .ao (by decide +kernel) fun K hK =>?_;simp only[tj,U,simprocAttr];obtain ⟨s1,s2,s3⟩:=mL w f (.own 1 (db c i).2.length) rfl rfl rfl
  try simp only[s2,U,simprocAttr]
  rw[ez s1 s2 (s3.trans (mL (a5 0 0 0 0 0) 0 (.nils 7) rfl rfl rfl).2.2.symm)]
  try simp only[fI,U,simprocAttr]
  refine .done (hK _ ?_);clear hK K;refine J.ret ?_;simp only[U,simprocAttr]
  try simp only[s2,mW (α:=cq) 7 rfl rfl,c8,U,simprocAttr]
  have hfin:(⟨w,f,(db c i).2⟩:bU)=m0 c:=by rw[←hout,hw,hf];rfl
  rw[qZ,hfin]
 have hi12:i<12:=by simp at hz2;omega
 try simp only[yB,cI,U,simprocAttr]
 rw[ajH _ 1 _ 63 7 (db c i).2 (by simp only[U,simprocAttr]) rfl]
 try simp only[U,simprocAttr]
 generalize hz3:decide (((db c i).2.length:Int)<9)=bz;cases bz
 ·have hout:=fin12 (fun hh=>by simp at hz3;omega)
  try simp only[cI,bd,lh,c8,U,simprocAttr]
  refine .done (hK _ ?_);clear hK K;refine J.bM ?_;simp only[ak,U,simprocAttr];refine ⟨fun h =>?_,fun h =>?_⟩
  ·cases h
  refine J.exit ?_;try simp only[ar,bO,simprocAttr]
  refine .ao (by decide +kernel) fun K hK =>?_;simp only[tj,U,simprocAttr];obtain ⟨s1,s2,s3⟩:=mL w f (.own 1 (db c i).2.length) rfl rfl rfl
  try simp only[s2,U,simprocAttr]
  rw[ez s1 s2 (s3.trans (mL (a5 0 0 0 0 0) 0 (.nils 7) rfl rfl rfl).2.2.symm)]
  try simp only[fI,U,simprocAttr]
  refine .done (hK _ ?_);clear hK K;refine J.ret ?_;simp only[U,simprocAttr]
  try simp only[s2,mW (α:=cq) 7 rfl rfl,c8,U,simprocAttr]
  have hfin:(⟨w,f,(db c i).2⟩:bU)=m0 c:=by rw[←hout,hw,hf];rfl
  rw[qZ,hfin]
 have hi9:(db c i).2.length<9:=by simp at hz3;omega
 try simp only[cI,bd,lh,c8,U,simprocAttr]
 refine .done (hK _ ?_);clear hK K;refine J.bM ?_;simp only[ak,U,simprocAttr];refine ⟨fun h =>?_,fun h =>?_⟩
 case refine_2.true.true.true.refine_2=>cases h
 have hbk:yG ⟨w,f,(db c i).2⟩:=by rw[hw,hf];exact ali (L6 c (by omega))
 have hstep:db c (i+1)=rI c i (db c i):=by simp only[db,if_pos (show i<c.length∧(db c i).2.length<9 from ⟨hic,hi9⟩)]
 generalize db c i=p at *;obtain ⟨o,l⟩:=p;simp only at *;refine J.skip ?_;try simp only[ar,simprocAttr]
 refine J.seq (J.block ?_);refine .ao (by decide +kernel) fun K hK =>?_;simp only[I0,U,simprocAttr]
 try simp only[xR hic,U,simprocAttr]
 refine .flat _ (gN (c.getD i 0) 4 (by decide) (by decide)) rfl ?_
 try simp only[U,simprocAttr]
 rw[cF _ (show -9223372036854775808≤1+c.getD i 0%4 by omega) (by omega),cF _ (by omega) (by omega)];refine .done (hK _ ?_);clear hK K;obtain ⟨o2,ho2⟩:∃ o2,o2=o+(1+c.getD i 0%4):=⟨_,rfl⟩
 rw[←ho2];refine .ao (by decide +kernel) fun K hK =>?_;simp only[I1,U,simprocAttr]
 try simp only[xR hic,U,simprocAttr]
 rw[cF ((i:Int)*2503) (by omega) (by omega)];refine .flat _ (gN _ 15625 (by decide) (by decide)) rfl ?_
 try simp only[U,simprocAttr]
 refine .lead _ (Rk _) ?_;have hmark:kq (IntKind.i64.wrap (IntKind.i64.wrap (c.getD i 0*7)+i*2503)%15625) 6=(me c i 0).mark:=rfl;rw[hmark];obtain ⟨mk,hmk⟩:∃ mk,mk=(me c i 0).mark:=⟨_,rfl⟩
 rw[←hmk]
 try simp only[D4,Ss,Z4,amZ,U,simprocAttr]
 refine .done (hK _ ?_);clear hK K;obtain ⟨s1,s2,s3⟩:=mL w f (.own 1 l.length) rfl rfl rfl;have hokm:dY mk=true:=by rw[hmk];exact L8 _
 refine .ao (by decide +kernel) fun K hK =>?_;simp only[I2,U,simprocAttr]
 try simp only[s2,mW (α:=cq) 7 rfl rfl,cI,qZ,c8,U,simprocAttr]
 refine .flat _ (Rl ⟨w,f,l⟩ mk hbk hokm) rfl ?_;obtain ⟨near,hnear⟩:∃ near,near=l.any (fun h=>ki ⟨w,f,l⟩ h.mark mk):=⟨_,rfl⟩
 have hst:db c (i+1)=(o2,if near then l else l++[⟨o2,mk⟩]):=by
  rw[hstep,rI,hnear,ho2,hmk,hw,hf];rfl
 have hnear':(l.any fun g=>decide ((eR (jg w g.mark mk) 6:Int)≤IntKind.i64.wrap (2*f)))=near:=by rw[hnear];rfl
 try simp only[hnear',U,simprocAttr]
 refine .done (hK _ ?_);clear hK K;cases near
 ·rw[if_neg (by simp)] at hst;refine J.bM ?_;simp only[ak,U,simprocAttr];refine ⟨fun h =>?_,fun h =>?_⟩
  ·refine .bx (by decide +kernel) fun K hK =>?_;simp only[I3,U,simprocAttr]
   try simp only[yB,qU 7 (⟨o2,mk⟩:cq) rfl,cI,c8,U,simprocAttr]
   rw[nC (α:=cq) 63 7 56 1 rfl rfl (by simp) (by simp[maxLen];omega) (by simp;omega)]
   try simp only[yB,cI,U,simprocAttr]
   rw[ez (s:=none) (v:=.own 1 (l++[(⟨o2,mk⟩:cq)]).length) (old:=.own 1 l.length) rfl rfl rfl];have hset:(I.agg [enc w,.int .i64 f,.own 1 l.length]).dO [2] (.own 1 (l++[(⟨o2,mk⟩:cq)]).length)=.agg [enc w,.int .i64 f,.own 1 (l++[(⟨o2,mk⟩:cq)]).length]:=rfl
   try simp only[hset,U,simprocAttr]
   refine .done (hK _ ?_);clear hK K;try simp only[ar,bO]
   refine .bx (by decide +kernel) fun K hK =>?_;simp only[xg,U,simprocAttr];refine .done (hK _ ?_);clear hK K;try simp only[ar]
   refine ⟨i+1,by omega,by omega,?_⟩;rw[cF _ (by omega) (by omega),hst];refine aC.bI ?_ ?_ ?_ ?_ <;>simp[aT,bC,bB,a6,al,aV,cg,I.only,I.bT,ah.only,dy,fA,bh]
  ·cases h
 ·rw[if_pos rfl] at hst;refine J.bM ?_;simp only[ak,U,simprocAttr];refine ⟨fun h =>?_,fun h =>?_⟩
  ·cases h
  refine J.skip ?_;try simp only[ar,bO,simprocAttr]
  refine .bx (by decide +kernel) fun K hK =>?_;simp only[xg,U,simprocAttr];refine .done (hK _ ?_);clear hK K;try simp only[ar]
  refine ⟨i+1,by omega,by omega,?_⟩;rw[cF _ (by omega) (by omega),hst];refine aC.bI ?_ ?_ ?_ ?_ <;>simp[aT,bC,bB,a6,al,aV,cg,I.only,I.bT,ah.only,dy,bh]
theorem eh.mg{aA:Bool}{ρ:List (Nat×Nat)}{k:Nat}{x:ah}{os0:List (Nat×ah)}{r c:I}(h1:∀ p,c.only p=true)(h2:aA=true→c.c6=true)(h3:r.only (al [(k,.box c)])=true)(h4:aA=true→r.c6=true):eh aA ρ [(k,x)] os0 r [(k,.box c)]:=by
 refine ⟨fun m x h =>?_,fun m m' h h' _ =>?_,fun m h =>?_,fun m h h' =>?_,h3,h4⟩
 ·simp only[aj] at h;split at h
  ·simp only[u8] at h;subst h;exact ⟨h1 _,rfl,h2⟩
  ·cases h
 ·rw[cE.1 h,cE.1 h']
 ·rw[cE.1 h];exact cE.2 rfl
 ·rw[cE.1 h] at h';have:al [(k,x)] k=true:=cE.2 rfl;rw[this] at h';cases h'
theorem yf(p:Nat→Bool)(l:List aq):(I.agg (l.map enc)).only p=true:=by simp only[I.only];exact dy p l
theorem vc(l:List aq)(i:Nat)(hi:i<l.length)(hlen:l.length≤60):ay Tryz.prog 78 [enc l,enc (i:Int)] (enc (da l i)):=by
 have hne:l≠[]:=fun e=>by rw[e] at hi;simp at hi
 have hdl:=DO hi;refine ay.bn Tryz.func78 Uh Wc Yo (t7 rfl) (fun hwf W0 D0 E1 =>?_);simp only[CK,Ot,bg,zz4];clear hwf;refine .ao (by decide +kernel) fun K hK =>?_;simp only[JI,U,simprocAttr];refine .done (hK _ ?_);clear hK K;refine .ao (by decide +kernel) fun K hK =>?_;simp only[JJ,U,simprocAttr];refine .bS false [(7,6)] [] [enc l] (Ds l) rfl (Ql l (by omega)) fT.nil ⟨.inl ⟨(j4 _ _).symm,bh _ _,dN _⟩,trivial⟩ ?_ ?_
 ·rintro x os' (⟨_,h | h,rfl⟩ | ⟨_,k,rfl,rfl⟩)
  ·subst h;exact eh.nil (fun _=>rfl) (fun h=>by cases h)
  ·subst h;exact eh.nil (fun _=>rfl) (fun h=>by cases h)
  ·exact eh.qe (fun p=>yf p _) (fun h=>by cases h) rfl (fun h=>by cases h) rfl (by decide)
 ·rintro x os' (⟨hn,_,_⟩ | ⟨hn,k,rfl,rfl⟩)
  ·exact absurd hn hne
  try simp only[lq,gK,fB,zy0,zy3,U,simprocAttr]
  rw[cF _ (by omega) (by omega)];have hp1:(i:Int)+1=((i+1:Nat):Int):=by omega
  simp only[hp1];refine .bS false [(1000000,6)] (lq 1000000 l k) [.view 1000000 [] 17 0 l.length,enc (i:Int),enc ((i+1:Nat):Int)] (DL l i) rfl (Qk l i k hi (by omega)) ⟨?_,?_⟩ ⟨.inl ⟨?_,?_,rfl⟩,.inl ⟨rfl,rfl,rfl⟩,.inl ⟨rfl,rfl,rfl⟩,trivial⟩ ?_ ?_
  ·intro n x h;simp only[lq,aj] at h;split at h
   ·rename_i hn';subst hn';simp only[u8] at h;subst h;exact ⟨by simp only[gK,fB,U,simprocAttr],yf _ _,rfl⟩
   ·cases h
  ·intro a b ha hb _;rw[cE.1 ha,cE.1 hb]
  ·try simp only[gK,simprocAttr]
  ·exact cE.2 rfl
  ·rintro x os' ⟨q,rfl,rfl⟩;exact eh.mg (fun p=>yf p _) (fun h=>by cases h) rfl (fun h=>by cases h)
  ·rintro x os' ⟨q,rfl,rfl⟩;rw[←hdl];generalize hL:da l i=az at hdl ⊢
   try simp only[lq,gK,fB,zy0,zy3,U,simprocAttr]
   refine .done (hK _ ?_);clear hK K;refine J.ret ?_;simp only[U,simprocAttr]
   try simp only[rl (α:=aq) (sz:=17) rfl,U,simprocAttr]
   rw[hL];simp
theorem Qj(a b:List Int):ay Tryz.prog 134 [enc a,enc b] (enc (decide (a=b))):=by
 refine ay.bn Tryz.func134 S2 UX W9 (t7 rfl) (fun hwf W0 D0 E1 =>?_);simp only[Bu,M6,bg,zz4];have hlen:a.length≤maxLen:=((lC a).1 hwf.1).1;simp only[maxLen] at hlen;clear hwf;by_cases hl:a.length=b.length
 case neg =>
  have hn:((a.length:Int) != (b.length:Int))=true:=by simp;omega
  have R:=v6 @hn (v6 @bd (v6 @aU @U))
  repeat' ((first |(with_reducible refine .guard (fun hb =>?_) (fun hb =>?_) <;>try simp only[hb])|refine J.aL (by decide +kernel) rfl fun K hK =>?_|(refine .aG [0,1,4,5,10,12,13,14,24] hK ?_;clear hK K)|(with_reducible refine .done (hK _ ?_);clear hK K)|refine J.of rfl ?_|(with_reducible refine ak.aK (fun h =>?_) (fun h =>?_) <;>try simp only[h])) <;>try simp only[aM,R,simprocAttr])
  all_goals clear R
  have:¬ a=b:=fun e=>hl (by rw[e]);simp[this]
 have hn:((a.length:Int) != (b.length:Int))=false:=by simp;omega
 have R:=v6 @hn (v6 @bd (v6 @aU @U))
 repeat' ((first |(with_reducible refine .guard (fun hb =>?_) (fun hb =>?_) <;>try simp only[hb])|refine J.aL (by decide +kernel) rfl fun K hK =>?_|(refine .aG [0,1,4,5,10,12,13,14,24] hK ?_;clear hK K)|(with_reducible refine .done (hK _ ?_);clear hK K)|refine J.of rfl ?_|(with_reducible refine ak.aK (fun h =>?_) (fun h =>?_) <;>try simp only[h])) <;>try simp only[aM,R,simprocAttr])
 all_goals clear R
 refine J.loop (fun i:Nat=>au [(0,enc a),(1,enc b),(12,.int .i64 a.length),(13,.int .i64 i)] []) (fun i=>i≤a.length∧∀ k,k<i→a[k]?=b[k]?) (fun i=>a.length-i) 0 ⟨zw7 _,fun k h=>by omega⟩ ?_ (fun i hi =>?_)
 ·refine aC.bI ?_ ?_ ?_ ?_ <;>simp[aT,bC,bB,a6,aV,I.only,bh]
 obtain ⟨hi1,hi2⟩:=hi;by_cases hlt:i<a.length
 ·have hc:=fO hlt;have he:=fun A=>ft (A:=A) 1 hlt rfl;have hlt2:i<b.length:=by omega
  have he2:=fun A=>ft (A:=A) 1 hlt2 rfl;have hw:=eB (i:=i) (by omega);rcases hp:(a[i] != b[i])
  ·have R:=v6 @hc (v6 @he (v6 @he2 (v6 @hp (v6 @hw (v6 @lh (v6 @bd @U))))))
   repeat' ((first |(with_reducible refine .guard (fun hb =>?_) (fun hb =>?_) <;>try simp only[hb])|refine J.aL (by decide +kernel) rfl fun K hK =>?_|(refine .aG [0,1,4,5,10,12,13,14,24] hK ?_;clear hK K)|(with_reducible refine .done (hK _ ?_);clear hK K)|refine J.of rfl ?_|(with_reducible refine ak.aK (fun h =>?_) (fun h =>?_) <;>try simp only[h])) <;>try simp only[aM,R,simprocAttr])
   all_goals clear R
   refine ⟨i+1,⟨by omega,fun k hk =>?_⟩,by omega,?_⟩
   ·by_cases e:k=i
    ·subst e;have:a[k]=b[k]:=by simpa using hp
     simp[hlt,hlt2,this]
    ·exact hi2 k (by omega)
   ·refine aC.bI ?_ ?_ ?_ ?_ <;>simp[aT,bC,bB,a6,aV,I.only,bh]
  ·have R:=v6 @hc (v6 @he (v6 @he2 (v6 @hp (v6 @lh (v6 @bd @U)))))
   repeat' ((first |(with_reducible refine .guard (fun hb =>?_) (fun hb =>?_) <;>try simp only[hb])|refine J.aL (by decide +kernel) rfl fun K hK =>?_|(refine .aG [0,1,4,5,10,12,13,14,24] hK ?_;clear hK K)|(with_reducible refine .done (hK _ ?_);clear hK K)|refine J.of rfl ?_|(with_reducible refine ak.aK (fun h =>?_) (fun h =>?_) <;>try simp only[h])) <;>try simp only[aM,R,simprocAttr])
   all_goals clear R
   have:¬ a=b:=fun e=>by subst e;simp at hp
   simp[this]
 ·have hc:=gi hlt;have R:=v6 @hc (v6 @bd @U)
  repeat' ((first |(with_reducible refine .guard (fun hb =>?_) (fun hb =>?_) <;>try simp only[hb])|refine J.aL (by decide +kernel) rfl fun K hK =>?_|(refine .aG [0,1,4,5,10,12,13,14,24] hK ?_;clear hK K)|(with_reducible refine .done (hK _ ?_);clear hK K)|refine J.of rfl ?_|(with_reducible refine ak.aK (fun h =>?_) (fun h =>?_) <;>try simp only[h])) <;>try simp only[aM,R,simprocAttr])
  all_goals clear R
  have:a=b:=List.ext_getElem? fun k=>by
   by_cases hk:k<i
   ·exact hi2 k hk
   ·rw[List.getElem?_eq_none (by omega),List.getElem?_eq_none (by omega)]
  simp[this]
def sK(b:aD):aW 8 Int:=⟨[b.no,b.dq,b.e7,b.bP,b.jZ,b.born,b.cV,if b.found then 1 else 0],rfl⟩
theorem Sr(a b c d e f g h:Int):(dZ [.int .i64 0,.int .i64 0,.int .i64 0,.int .i64 0,.int .i64 0,.int .i64 0,.int .i64 0,.int .i64 0] [(0,.int .i64 a),(1,.int .i64 b),(2,.int .i64 c),(3,.int .i64 d),(4,.int .i64 e),(5,.int .i64 f),(6,.int .i64 g),(7,.int .i64 h)])=some [.int .i64 a,.int .i64 b,.int .i64 c,.int .i64 d,.int .i64 e,.int .i64 f,.int .i64 g,.int .i64 h]:=by simp[dZ,I.cm,I.size]
theorem amQ{A:ae}{n:Nat}{w:I}{a b c d e f g h a' b' c' d' e' f' g' h':Int}{rest:List aB} : dR A (some 8) n [] w (.agg [.int .i64 a,.int .i64 b,.int .i64 c,.int .i64 d,.int .i64 e,.int .i64 f,.int .i64 g,.int .i64 h]) rest (some (.agg [.int .i64 a',.int .i64 b',.int .i64 c',.int .i64 d',.int .i64 e',.int .i64 f',.int .i64 g',.int .i64 h'])) =
  aE rest (A.aS n (.box (.agg [.int .i64 a,.int .i64 b,.int .i64 c,.int .i64 d,.int .i64 e,.int .i64 f,.int .i64 g,.int .i64 h]))):=by
 refine (ez (s:=some 8) (by rfl) (by rfl) (by rfl)).trans ?_;rw[fI]
theorem alu{a b c d e f g h:Int} : b8 (some 8) (.agg [.int .i64 a,.int .i64 b,.int .i64 c,.int .i64 d,.int .i64 e,.int .i64 f,.int .i64 g,.int .i64 h])=true:=rfl
theorem z7(b:aD):ay Tryz.prog 133 [.ref (enc (⟨b⟩:eJ))] (enc (sK b)):=by
 refine ay.bn Tryz.func133 S1 UW W8 (t7 rfl) (fun hwf W0 D0 E1 =>?_);simp only[Bt,M5,bg];clear hwf;rcases hf:b.found
 all_goals
  have R:=v6 @hf (v6 @Sr (v6 @amQ (v6 @alu dE)))
  repeat' ((first |(with_reducible refine .guard (fun hb =>?_) (fun hb =>?_) <;>try simp only[hb])|refine J.aL (by decide +kernel) rfl fun K hK =>?_|(refine .aG [0,2,3,8] hK ?_;clear hK K)|(with_reducible refine .done (hK _ ?_);clear hK K)|refine J.of rfl ?_|(with_reducible refine ak.aK (fun h =>?_) (fun h =>?_) <;>try simp only[h])) <;>try simp only[aM,R,simprocAttr])
  all_goals clear R
  simp[sK,hf];rfl
def iH:Option aD→I
 |none=>.nilp
 |some b=>.ref (enc (⟨b⟩:eJ))
def jb(m:bU):Option aD→Option aD→Bool
 |some a,some b=>decide ((sK a).l=(sK b).l)&&decide ((jr m a.b9).1=(jr m b.b9).1)
 |none,none=>true
 |_,_=>false
theorem yV:ng false (some true) (some false)=some (.bool false):=rfl
theorem Aw(m:bU)(x y:Option aD):ay Tryz.prog 77 [enc m,iH x,iH y] (enc (jb m x y)):=by
 rcases x with _ | a
 ·rcases y with _ | b
  all_goals
   simp only[iH,jb];refine ay.bn Tryz.func77 vG vJ vS (t7 rfl) (fun hwf W0 D0 E1 =>?_);simp only[sP,uo,bg,zz4,Nat.reduceAdd];clear hwf;have R:=v6 @yV (v6 @s7 (v6 @eO dE))
   repeat' ((first |(with_reducible refine .guard (fun hb =>?_) (fun hb =>?_) <;>try simp only[hb])|refine J.aL (by decide +kernel) rfl fun K hK =>?_|(refine .aG [0,1,2,3,6,7,13] hK ?_;clear hK K)|(with_reducible refine .done (hK _ ?_);clear hK K)|refine J.of rfl ?_|(with_reducible refine ak.aK (fun h =>?_) (fun h =>?_) <;>try simp only[h])) <;>try simp only[aM,R,simprocAttr])
   all_goals clear R
 rcases y with _ | b
 ·simp only[iH,jb];refine ay.bn Tryz.func77 vG vJ vS (t7 rfl) (fun hwf W0 D0 E1 =>?_);simp only[sP,uo,bg,zz4,Nat.reduceAdd];clear hwf;have R:=v6 @yV (v6 @s7 (v6 @eO dE))
  repeat' ((first |(with_reducible refine .guard (fun hb =>?_) (fun hb =>?_) <;>try simp only[hb])|refine J.aL (by decide +kernel) rfl fun K hK =>?_|(refine .aG [0,1,2,3,6,7,13] hK ?_;clear hK K)|(with_reducible refine .done (hK _ ?_);clear hK K)|refine J.of rfl ?_|(with_reducible refine ak.aK (fun h =>?_) (fun h =>?_) <;>try simp only[h])) <;>try simp only[aM,R,simprocAttr])
  all_goals clear R
 simp only[iH,jb];refine ay.bn Tryz.func77 vG vJ vS (t7 rfl) (fun hwf W0 D0 E1 =>?_);simp only[sP,uo,bg,zz4,Nat.reduceAdd];clear hwf;have ha:=sw m a;have hyB:=sw m b;have h3:=z7 a;have h4:=z7 b;have R:=v6 @yV (v6 @s7 (v6 @eO dE))
 repeat' ((first |(with_reducible refine .guard (fun hb =>?_) (fun hb =>?_) <;>try simp only[hb])|refine J.aL (by decide +kernel) rfl fun K hK =>?_|refine .flat _ (h3) rfl ?_|refine .flat _ (h4) rfl ?_|refine .lead _ (ha) ?_|refine .lead _ (hyB) ?_|refine .flat _ (Qj _ _) rfl ?_|(refine .aG [0,1,2,3,6,7,13] hK ?_;clear hK K)|(with_reducible refine .done (hK _ ?_);clear hK K)|refine J.of rfl ?_|(with_reducible refine ak.aK (fun h =>?_) (fun h =>?_) <;>try simp only[h])) <;>try simp only[aM,R,zy0,simprocAttr])
 all_goals clear R
 all_goals simp_all
def uB(m:bU)(l:List aq)(no known:Int)(i:Nat):Bool := !jb m (cw (cu l 100000 known) no) (cw (cu (da l i) 100000 known) no)
def jR(m:bU)(l:List aq)(no known:Int)(n:Nat):List Item:=((List.range n).filter (uB m l no known)).map fun i=>(ab l i).bF
theorem ami(m:bU)(l:List aq)(no known:Int)(n:Nat):jR m l no known (n+1)=jR m l no known n++if uB m l no known n then [(ab l n).bF] else []:=by
 simp only[jR,List.range_succ,List.filter_append,zx5,zx4,zv5]
 congr 1
 split <;>rfl
theorem amh(m:bU)(l:List aq)(no known:Int)(n:Nat):(jR m l no known n).length≤n:=by
 simp only[jR,zy2];have:=zv9 (uB m l no known) (List.range n);simpa using this
def uC(m:bU)(l:List aq)(no known:Int):List Item×Int:=if (lK m l no known).2=0 then (jR m l no known l.length,0) else ([],(lK m l no known).2)
theorem R4{m:bU}{l:List aq}{no known:Int}(h:(lK m l no known).2=0):dQ l=true:=by
 simp only[lK] at h
 repeat' split at h
 all_goals first | (exact mP (by assumption)) | (simp_all;done) | exact mP h
theorem Mk(p:Nat→Bool)(x:Option aD):(iH x).only p=true:=by cases x <;>simp[iH,I.only,bh]
theorem ub{l:List aq} : dQ l=true↔l.length≤60∧(∀ x∈l,iW x=true)∧l.Pairwise fun a b=>before a.bF b.bF=true:=by
 constructor
 ·intro h;refine ⟨n9 h,fun x hx =>?_,List.pairwise_iff_getElem.2 fun i j hi hj hij =>?_⟩
  ·obtain ⟨i,hi,rfl⟩:=List.getElem_of_mem hx;have:=yI h hi
   rwa [←iS hi] at this
  ·have:=L1 h hij hj
   rwa [←iS hi,←iS hj] at this
 ·rintro ⟨h1,h2,h3⟩;refine LZ h1 fun i hi =>?_;simp only[kD,zz2,Bool.or_eq_true,decide_eq_true_eq];refine ⟨by rw[←iS hi];exact h2 _ (zx3 hi),?_⟩;by_cases h0:i=0
  ·exact .inl h0
  ·right
   have:=List.pairwise_iff_getElem.1 h3 (i-1) i (by omega) hi (by omega)
   rwa [iS,iS] at this
theorem alh{l l':List aq}(hs:l'.Sublist l)(h:dQ l=true):dQ l'=true:=by
 obtain ⟨h1,h2,h3⟩:=ub.1 h;exact ub.2 ⟨zu1 hs.length_le h1,fun x hx=>h2 x (hs.subset hx),h3.sublist hs⟩
theorem ZD(l:List aq)(i:Nat):(da l i).Sublist l:=by
 have:=(zx0 i l)
 simp only[da]
 conv=>rhs;rw[←this]
 refine List.Sublist.append_left ?_ _;rw[←List.drop_drop];exact List.drop_sublist _ _
theorem ua{l:List aq}(hok:dQ l=true)(i:Nat):dQ (da l i)=true:=alh (ZD l i) hok
theorem QS(m:bU)(l:List aq)(no known:Int):ay Tryz.prog 18 [enc m,enc l,enc no,enc known] (.tuple [enc (uC m l no known).1,enc (uC m l no known).2]):=by
 refine ay.bn Tryz.func18 TD Vz XL (t7 rfl) (fun hwf W0 D0 E1 =>?_);simp only[B8,NM,bg,zz4,Nat.reduceAdd];clear hwf;have hC:=u5 m l no known;simp only[uC];have hok0:=R4 (m:=m) (l:=l) (no:=no) (known:=known);generalize lK m l no known=e at hC hok0 ⊢;obtain ⟨e1,e2⟩:=e;simp only at hC hok0 ⊢;by_cases he:e2=0
 case neg =>
  have hn:=n8 he;have R:=v6 @hn (v6 @he (v6 @eO dE))
  repeat' ((first |(with_reducible refine .guard (fun hb =>?_) (fun hb =>?_) <;>try simp only[hb])|refine J.aL (by decide +kernel) rfl fun K hK =>?_|refine .lead _ (hC) ?_|(refine .aG [0,1,2,3,4,8,9,11,12,13,14,15,25,35,36,37,38,55] hK ?_;clear hK K)|(with_reducible refine .done (hK _ ?_);clear hK K)|refine J.of rfl ?_|(with_reducible refine ak.aK (fun h =>?_) (fun h =>?_) <;>try simp only[h])) <;>try simp only[aM,R,simprocAttr])
  all_goals clear R
  all_goals rfl
 have hn:=nZ he;have hok:=hok0 he;subst he;have hF:=ou l known hok;have hk:=p7 (cu l 100000 known) no;have hx:gA (.i .i64) .nilp (.int .i64 no) (dx (cu l 100000 known)) ((cu l 100000 known).map fun b=>.ref (enc (⟨b⟩:eJ)))=some (iH (cw (cu l 100000 known) no),(cw (cu l 100000 known) no).isSome):=by
  rw[hk];cases cw (cu l 100000 known) no <;>rfl
 have hlen:=n9 hok;have R:=v6 @hn (v6 @hx (v6 @eO dE))
 repeat' ((first |(with_reducible refine .guard (fun hb =>?_) (fun hb =>?_) <;>try simp only[hb])|refine J.aL (by decide +kernel) rfl fun K hK =>?_|refine .lead _ (hC) ?_|refine .lead _ (hF) ?_|(refine .aG [0,1,2,3,4,8,9,11,12,13,14,15,25,35,36,37,38,55] hK ?_;clear hK K)|(with_reducible refine .done (hK _ ?_);clear hK K)|refine J.of rfl ?_|(with_reducible refine ak.aK (fun h =>?_) (fun h =>?_) <;>try simp only[h])) <;>try simp only[aM,R,simprocAttr])
 all_goals clear R
 refine J.loop (fun i:Nat=>au [(1,enc l),(2,.int .i64 no),(3,.int .i64 known),(4,.ptr 4 []),(12,iH (cw (cu l 100000 known) no)),(13,.own 913 (jR m l no known i).length),(35,enc l),(36,.int .i64 l.length),(37,.int .i64 i)] [(4,.box (enc m)),(913,.bY 65 2 ((jR m l no known i).map enc))]) (fun i=>i≤l.length) (fun i=>l.length-i) 0 (zw7 _) ?_ (fun i hi =>?_)
 ·refine aC.qM 13 913 65 2 2 rfl rfl ?_;simp only[jR,List.range_zero,zv5,zx1,zu2];refine aC.bI ?_ ?_ ?_ ?_ <;>simp[*,aT,bC,bB,a6,al,aV,cg,I.only,I.bT,ah.only,bh,Mk]
 have hRl:=amh m l no known i;by_cases hlt:i<l.length
 ·have hc:=fO hlt;have he:=fun A=>kZ (A:=A) hlt;have hw:=eB (i:=i) (by omega);have hD:=vc l i hlt hlen;have hokd:=ua hok i;have hF2:=ou (da l i) known hokd;have hk2:=p7 (cu (da l i) 100000 known) no;have hx2:gA (.i .i64) .nilp (.int .i64 no) (dx (cu (da l i) 100000 known)) ((cu (da l i) 100000 known).map fun b=>.ref (enc (⟨b⟩:eJ)))=some (iH (cw (cu (da l i) 100000 known) no),(cw (cu (da l i) 100000 known) no).isSome):=by
   rw[hk2];cases cw (cu (da l i) 100000 known) no <;>rfl
  have hS:=Aw m (cw (cu l 100000 known) no) (cw (cu (da l i) 100000 known) no);have hsu:=ami m l no known i;have hp:uB m l no known i = !jb m (cw (cu l 100000 known) no) (cw (cu (da l i) 100000 known) no):=rfl;rw[hp] at hsu;generalize jb m (cw (cu l 100000 known) no) (cw (cu (da l i) 100000 known) no)=b at hS hsu;have happ:=fun (A:ae) d rest=>nC (α:=Item) (A:=A) (d:=d) 65 2 16 913 (l:=(jR m l no known i).length) (es:=jR m l no known i) (ys:=[(ab l i).bF]) (rest:=rest) rfl rfl (by simp) (by simp[maxLen];omega) (by simp;omega);have hbs:=qU 2 (ab l i).bF rfl;have hol:(∀ aA A x,bl aA A (iH x)=some (iH x)):=fun aA A x=>by cases x <;>simp[iH,bl,dG]
  cases b
  all_goals
   simp only[Bool.not_true,Bool.not_false,if_true,zz6,if_false,zx7] at hsu;have R:=v6 @hc (v6 @he (v6 @hw (v6 @hx2 (v6 @happ (v6 @hbs (v6 @hol (v6 @eO dE)))))))
   repeat' ((first |(with_reducible refine .guard (fun hb =>?_) (fun hb =>?_) <;>try simp only[hb])|refine J.aL (by decide +kernel) rfl fun K hK =>?_|refine .lead _ (hD) ?_|refine .lead _ (hF2) ?_|refine .flat _ (hS) rfl ?_|(refine .aG [0,1,2,3,4,8,9,11,12,13,14,15,25,35,36,37,38,55] hK ?_;clear hK K)|(with_reducible refine .done (hK _ ?_);clear hK K)|refine J.of rfl ?_|(with_reducible refine ak.aK (fun h =>?_) (fun h =>?_) <;>try simp only[h])) <;>try simp only[aM,R,simprocAttr])
   all_goals clear R
   refine ⟨i+1,by omega,by omega,?_⟩;simp only[hsu];refine aC.bI ?_ ?_ ?_ ?_ <;>simp[*,aT,bC,bB,a6,al,aV,cg,I.only,I.bT,ah.only,dy,fA,bh,Mk]
 ·have hc:=gi hlt;have hie:i=l.length:=by omega
  subst hie;have hfo:oH (jR m l no known l.length).length (some (.bY 65 2 ((jR m l no known l.length).map enc)))=some (enc (jR m l no known l.length)):=mW 2 rfl rfl;have R:=v6 @hc (v6 @hfo (v6 @bd (v6 @aU @U)))
  repeat' ((first |(with_reducible refine .guard (fun hb =>?_) (fun hb =>?_) <;>try simp only[hb])|refine J.aL (by decide +kernel) rfl fun K hK =>?_|(refine .aG [0,1,2,3,4,8,9,11,12,13,14,15,25,35,36,37,38,55] hK ?_;clear hK K)|(with_reducible refine .done (hK _ ?_);clear hK K)|refine J.of rfl ?_|(with_reducible refine ak.aK (fun h =>?_) (fun h =>?_) <;>try simp only[h])) <;>try simp only[aM,R,simprocAttr])
  all_goals clear R
theorem Q5(a b:List Item):ay Tryz.prog 21 [enc a,enc b] (enc (decide (a=b))):=by
 refine ay.bn Tryz.func21 TO VL XX (t7 rfl) (fun hwf W0 D0 E1 =>?_);simp only[Ck,NY,bg,zz4];have hlen:a.length≤maxLen:=((lC a).1 hwf.1).1;simp only[maxLen] at hlen;clear hwf;by_cases hl:a.length=b.length
 case neg =>
  have hn:((a.length:Int) != (b.length:Int))=true:=by simp;omega
  have R:=v6 @hn (v6 @bd (v6 @aU @U))
  repeat' ((first |(with_reducible refine .guard (fun hb =>?_) (fun hb =>?_) <;>try simp only[hb])|refine J.aL (by decide +kernel) rfl fun K hK =>?_|(refine .aG [0,1,4,5,10,14,25] hK ?_;clear hK K)|(with_reducible refine .done (hK _ ?_);clear hK K)|refine J.of rfl ?_|(with_reducible refine ak.aK (fun h =>?_) (fun h =>?_) <;>try simp only[h])) <;>try simp only[aM,R,simprocAttr])
  all_goals clear R
  have:¬ a=b:=fun e=>hl (by rw[e]);simp[this]
 have hn:((a.length:Int) != (b.length:Int))=false:=by simp;omega
 have R:=v6 @hn (v6 @bd (v6 @aU @U))
 repeat' ((first |(with_reducible refine .guard (fun hb =>?_) (fun hb =>?_) <;>try simp only[hb])|refine J.aL (by decide +kernel) rfl fun K hK =>?_|(refine .aG [0,1,4,5,10,14,25] hK ?_;clear hK K)|(with_reducible refine .done (hK _ ?_);clear hK K)|refine J.of rfl ?_|(with_reducible refine ak.aK (fun h =>?_) (fun h =>?_) <;>try simp only[h])) <;>try simp only[aM,R,simprocAttr])
 all_goals clear R
 refine J.loop (fun i:Nat=>au [(0,enc a),(1,enc b),(5,.int .i64 i)] []) (fun i=>i≤a.length∧∀ k,k<i→a[k]?=b[k]?) (fun i=>a.length-i) 0 ⟨zw7 _,fun k h=>by omega⟩ ?_ (fun i hi =>?_)
 ·refine aC.bI ?_ ?_ ?_ ?_ <;>simp[aT,bC,bB,a6,aV,I.only,bh]
 obtain ⟨hi1,hi2⟩:=hi;by_cases hlt:i<a.length
 ·have hc:=fO hlt;have he:=fun A=>ft (A:=A) 2 hlt rfl;have hlt2:i<b.length:=by omega
  have he2:=fun A=>ft (A:=A) 2 hlt2 rfl;have hw:=eB (i:=i) (by omega);rcases hp:decide (a[i]=b[i])
  ·have R:=v6 @hc (v6 @he (v6 @he2 (v6 @hp (v6 @lh (v6 @bd (v6 @aU @U))))))
   repeat' ((first |(with_reducible refine .guard (fun hb =>?_) (fun hb =>?_) <;>try simp only[hb])|refine J.aL (by decide +kernel) rfl fun K hK =>?_|(refine .aG [0,1,4,5,10,14,25] hK ?_;clear hK K)|(with_reducible refine .done (hK _ ?_);clear hK K)|refine J.of rfl ?_|(with_reducible refine ak.aK (fun h =>?_) (fun h =>?_) <;>try simp only[h])) <;>try simp only[aM,R,simprocAttr])
   all_goals clear R
   have:¬ a=b:=fun e=>by subst e;simp at hp
   simp[this]
  ·have R:=v6 @hc (v6 @he (v6 @he2 (v6 @hp (v6 @hw (v6 @lh (v6 @bd (v6 @aU @U)))))))
   repeat' ((first |(with_reducible refine .guard (fun hb =>?_) (fun hb =>?_) <;>try simp only[hb])|refine J.aL (by decide +kernel) rfl fun K hK =>?_|(refine .aG [0,1,4,5,10,14,25] hK ?_;clear hK K)|(with_reducible refine .done (hK _ ?_);clear hK K)|refine J.of rfl ?_|(with_reducible refine ak.aK (fun h =>?_) (fun h =>?_) <;>try simp only[h])) <;>try simp only[aM,R,simprocAttr])
   all_goals clear R
   refine ⟨i+1,⟨by omega,fun k hk =>?_⟩,by omega,?_⟩
   ·by_cases e:k=i
    ·subst e;have:a[k]=b[k]:=by simpa using hp
     simp[hlt,hlt2,this]
    ·exact hi2 k (by omega)
   ·refine aC.bI ?_ ?_ ?_ ?_ <;>simp[aT,bC,bB,a6,aV,I.only,bh]
 ·have hc:=gi hlt;have R:=v6 @hc (v6 @bd (v6 @aU @U))
  repeat' ((first |(with_reducible refine .guard (fun hb =>?_) (fun hb =>?_) <;>try simp only[hb])|refine J.aL (by decide +kernel) rfl fun K hK =>?_|(refine .aG [0,1,4,5,10,14,25] hK ?_;clear hK K)|(with_reducible refine .done (hK _ ?_);clear hK K)|refine J.of rfl ?_|(with_reducible refine ak.aK (fun h =>?_) (fun h =>?_) <;>try simp only[h])) <;>try simp only[aM,R,simprocAttr])
  all_goals clear R
  have:a=b:=List.ext_getElem? fun k=>by
   by_cases hk:k<i
   ·exact hi2 k hk
   ·rw[List.getElem?_eq_none (by omega),List.getElem?_eq_none (by omega)]
  simp[this]
def jX(a b c d e f:Int):aW 6 Int:=⟨[a,b,c,d,e,f],rfl⟩
def R0(a b c d e:Int):aW 5 Int:=⟨[a,b,c,d,e],rfl⟩
def lV(n k d kn b e7 s o:Int)(r:aW 6 Int)(f:Int):aq:=⟨⟨0,n⟩,k,d,kn,b,e7,s,o,r,⟨0,f⟩⟩
def jl:List aq:=[lV 0 1 1 1 10 0 3 2 (jX 0 0 0 0 0 0) 0,lV 1 1 5 5 11 10 3 2 (jX 0 0 0 0 0 0) 0,lV 2 2 6 6 20 0 3 0 (jX 0 0 0 0 0 0) 0,lV 3 4 6 6 20 0 0 0 (jX 31 1 1 1 1 31) 0,lV 4 3 7 7 10 0 0 1 (jX 0 0 0 0 0 0) 0,
 lV 5 4 6 9 20 0 0 0 (jX 24 1 1 1 1 31) 0,lV 6 5 10 10 20 0 0 3 (jX 0 0 0 0 0 0) 0,lV 7 4 8 11 11 0 0 0 (jX 1 1 1 1 1 1) 0,lV 8 6 12 12 10 0 0 0 (jX 0 0 0 0 0 0) 0,lV 9 0 0 14 0 0 0 0 (jX 0 0 0 0 0 0) 5]
def lW:bU:=⟨R0 1 3 4 24 24,0,[⟨1,jX 0 0 0 0 0 0⟩,⟨2,jX 2 0 0 0 0 0⟩,⟨3,jX 3 0 0 0 0 2⟩]⟩
theorem Rg:ay Tryz.prog 81 [] (enc jl):=by
 refine ay.bn Tryz.func81 Ui Wd Yp (t7 rfl) (fun hwf W0 D0 E1 =>?_);simp only[CL,Ou,bg];clear hwf;refine .ao (by decide +kernel) fun K hK =>?_;simp only[JK,U,simprocAttr];refine .done (hK _ ?_);clear hK K;refine .ao (by decide +kernel) fun K hK =>?_;simp only[JL,U,simprocAttr]
 try simp only[dZ,I.cm,I.size,I.sizes,List.set_cons_zero,List.set_cons_succ,List.getElem?_cons_zero,List.getElem?_cons_succ,and_self,U,simprocAttr]
 simp only[iC];rw[if_pos ⟨by rfl,by rfl⟩]
 try simp only[U,simprocAttr]
 refine .done (hK _ ?_);clear hK K;refine J.ret ?_;simp only[U,simprocAttr]
 try simp only[zw5,U,simprocAttr]
 rfl
theorem Rh:ay Tryz.prog 82 [] (enc lW):=by
 refine ay.bn Tryz.func82 Uj We Yq (t7 rfl) (fun hwf W0 D0 E1 =>?_);simp only[CM,Ov,bg];clear hwf;refine .ao (by decide +kernel) fun K hK =>?_;simp only[JM,U,simprocAttr];refine .done (hK _ ?_);clear hK K;refine .ao (by decide +kernel) fun K hK =>?_;simp only[JN,U,simprocAttr]
 try simp only[dZ,I.cm,I.size,I.sizes,List.set_cons_zero,List.set_cons_succ,List.getElem?_cons_zero,List.getElem?_cons_succ,and_self,U,simprocAttr]
 simp only[iC];rw[if_pos ⟨by rfl,by rfl⟩]
 try simp only[dZ,I.cm,I.size,I.sizes,List.set_cons_zero,List.set_cons_succ,List.getElem?_cons_zero,List.getElem?_cons_succ,and_self,U,simprocAttr]
 rw[ez (by rfl) (by rfl) (by rfl)]
 try simp only[fI,U,simprocAttr]
 refine .done (hK _ ?_);clear hK K;refine J.ret ?_;simp only[U,simprocAttr];rw[if_pos (by rfl)]
 try simp only[zw5,U,simprocAttr]
 rfl
def oP(x:Int):List Int→List Int
 | []=>[x]
 |y::l=>if x≤y then x::y::l else y::oP x l
def l9:List Int→List Int
 | []=>[]
 |x::l=>oP x (l9 l)
theorem xO(x:Int):∀ l,(oP x l).Perm (x::l)
 | []=>.refl _
 |y::l=>by
  simp only[oP];split
  ·exact .refl _
  ·exact ((xO x l).cons y).trans (.swap x y l)
theorem KX(x:Int):∀ l:List Int,l.Pairwise (· ≤ ·)→(oP x l).Pairwise (· ≤ ·)
 | [],_=>by simp[oP]
 |y::l,h=>by
  obtain ⟨h1,h2⟩:=zw3.1 h;simp only[oP];split
  ·rename_i hxy;refine zw3.2 ⟨fun z hz =>?_,h⟩;rcases zx6.1 hz with rfl | hz
   ·exact hxy
   ·have:=h1 z hz;omega
  ·refine zw3.2 ⟨fun z hz =>?_,KX x l h2⟩;rcases zx6.1 ((xO x l).mem_iff.1 hz) with rfl | hz
   ·omega
   ·exact h1 z hz
theorem K5:∀ l,(l9 l).Perm l
 | []=>.refl _
 |x::l=>(xO x _).trans ((K5 l).cons x)
theorem K6:∀ l,(l9 l).Pairwise (· ≤ ·)
 | []=>.nil
 |x::l=>KX x _ (K6 l)
theorem amP{a b:List Int}(ha:a.Pairwise (· ≤ ·))(hb:b.Pairwise (· ≤ ·))(h:a.Perm b):a=b :=
 List.Perm.eq_of_pairwise (fun x y _ _ h k=>Int.le_antisymm h k) ha hb h
theorem Pq(l:List Int):(c4 l).Pairwise (· ≤ ·):=by
 have hx:=List.pairwise_mergeSort (le:=fun x y:Int=>decide (x≤y)) (by intro a b c;simp;omega) (by intro a b;simp;omega) l;exact hx.imp fun {a b} h=>by simpa using h
theorem mC(l:List Int):(c4 l).Perm l:=List.mergeSort_perm _ _
theorem Pp(l:List Int):c4 l=l9 l:=amP (Pq l) (K6 l) ((mC l).trans (K5 l).symm)
theorem aag:nL jl 10 6 7=(2,0):=by decide +kernel
theorem aah:lK lW jl 20 9=([3],0):=by decide +kernel
theorem aai:lK lW jl 20 14=([1,2,3],0):=by decide +kernel
theorem aaj:sk lW jl 11=([11],0):=by
 simp only[sk,Pp];decide +kernel
theorem aak:pM jl 2 3 7 7=(1,0):=by decide +kernel
theorem aal:oA jl 12 12=([11,20],0):=by
 simp only[oA,Pp];decide +kernel
theorem aam:uC lW jl 20 9=([⟨0,2⟩,⟨0,5⟩],0):=by decide +kernel
theorem St(b:Int):dZ [.int .i64 0,.int .i64 0] [(1,.int .i64 b)]=some [.int .i64 0,.int .i64 b]:=by simp[dZ,I.cm,I.size]
theorem SC(a b c d:Int):iC 2 (some [.agg [.int .i64 a,.int .i64 b],.agg [.int .i64 c,.int .i64 d]])=some (enc ([⟨a,b⟩,⟨c,d⟩]:List Item)):=mM (ys:=([⟨a,b⟩,⟨c,d⟩]:List Item)) 2 rfl
theorem SB(a b c:Int):iC 1 (some [.int .i64 a,.int .i64 b,.int .i64 c])=some (enc [a,b,c]):=mM (ys:=[a,b,c]) 1 rfl
theorem amV{A:ae}{n:Nat}{b:I}(m:bU)(x y z:I){rest:List aB}(h:I.aQ (.agg [x,y,z])=Enc.aQ bU):dR A (some 7) n [] b (enc m) rest (some (.agg [x,y,z]))=aE rest (A.aS n (.box (enc m))):=by
 refine (ez (s:=some 7) (dN _) (by rw[fL];rfl) ((eL m).trans h.symm)).trans ?_;rw[fI]
theorem Am:ay Tryz.prog 22 [] (enc true):=by
 have h1:=Aq jl 10 6 7;have h2:=u5 lW jl 20 9;have h3:=u5 lW jl 20 14;have h4:=QB lW jl 11;have h5:=Ar jl 2 3 7 7;have h6:=Ap jl 12 12;have h7:=QS lW jl 20 9;rw[aag] at h1;rw[aah] at h2;rw[aai] at h3;rw[aaj] at h4;rw[aak] at h5;rw[aal] at h6;rw[aam] at h7;simp only at h1 h2 h3 h4 h5 h6 h7;have h8:=fun a b=>Aj a b;refine ay.bn Tryz.func22 TT VQ X2 (t7 rfl) (fun hwf W0 D0 E1 =>?_);simp only[Cp,N3,bg];clear hwf;have hst:=fun (A:ae) (rest:List aB)=>amV (A:=A) (n:=2) (b:=.agg [.agg [.int .i64 0,.int .i64 0,.int .i64 0,.int .i64 0,.int .i64 0],.int .i64 0,.nils 7]) lW (.agg [.int .i64 0,.int .i64 0,.int .i64 0,.int .i64 0,.int .i64 0]) (.int .i64 0) (.nils 7) (rest:=rest) rfl;have q1:((2:Int)==2)=true:=rfl;have q2:((1:Int)==1)=true:=rfl;have q3:((0:Int)==0)=true:=rfl;have R:=v6 @hst (v6 @q1 (v6 @q2 (v6 @q3 (v6 @eO (v6 @St (v6 @SC (v6 @mN (v6 @qV (v6 @SB (v6 @aU @U))))))))))
 repeat' ((first |(with_reducible refine .guard (fun hb =>?_) (fun hb =>?_) <;>try simp only[hb])|refine J.aL (by decide +kernel) rfl fun K hK =>?_|refine .lead _ (Rg) ?_|refine .lead _ (Rh) ?_|refine .flat _ (h1) rfl ?_|refine .lead _ (h2) ?_|refine .lead _ (h3) ?_|refine .lead _ (h4) ?_|refine .flat _ (h5) rfl ?_|refine .lead _ (h6) ?_|refine .lead _ (h7) ?_|refine .flat _ (Aj _ _) rfl ?_|refine .flat _ (Q5 _ _) rfl ?_|(refine .aG [0,1,2,3,4,5,6,7,8,9,10,11,12,13,14,15,16,17] hK ?_;clear hK K)|(with_reducible refine .done (hK _ ?_);clear hK K)|refine J.of rfl ?_|(with_reducible refine ak.aK (fun h =>?_) (fun h =>?_) <;>try simp only[h])) <;>try simp only[aM,R,decide_true,simprocAttr])
 all_goals clear R
 all_goals trace_state
theorem WI(k:Nat):∀ n,eR (fun i=>i==k) n=if k<n then 1 else 0
 |0=>by simp[eR]
 |n+1=>by
  simp only[eR,WI k n];by_cases h:n=k
  ·subst h;simp
  ·have h2:(n==k)=false:=by simp[h]
   simp only[h2,zz6,if_false];by_cases h3:k<n
   ·rw[if_pos h3,if_pos (by omega)]
   ·rw[if_neg h3,if_neg (by omega)]
theorem L9{r:aW 6 Int}(h:iw r=true){j:Nat}(hj:j<6):1≤r.g j∧r.g j≤31:=by
 simp only[iw,zx2,zw1] at h;have:=h j hj;simpa only[cj,zz2,decide_eq_true_eq] using this
theorem Ma{r:aW 6 Int}(h:∀ j,j<6→1≤r.g j∧r.g j≤31):iw r=true:=by
 simp only[iw,zx2,zw1];intro j hj;simp[cj,h j hj]
def rN(r:aW 6 Int)(j:Nat):Prop:=∃ k:Nat,k<5∧r.g j=shl 1 k
theorem alk{r:aW 6 Int}(h:∀ j,j<6→rN r j):iw r=true:=Ma fun j hj=>by
 obtain ⟨k,hk,e⟩:=h j hj;rw[e];exact amE ⟨k,hk⟩
theorem LA{w:Int} : ∀ n,∀ x∈gX w n,ig w x.toNat=true
 |0=>by simp[gX]
 |n+1=>by
  intro x hx;simp only[gX,zy4] at hx;rcases hx with hx | hx
  ·exact LA n x hx
  ·split at hx
   ·rename_i h;simp only[List.mem_singleton] at hx;subst hx;simpa using h
   ·cases hx
theorem anr{w:aW 5 Int}{a:aW 6 Int}(hw:iy w=true)(ha:dY a=true)(c:List Int){j:Nat}(hj:j<6):∃ k:Nat,k<5∧sh w a c j=shl 1 k∧ig (w.g (a.g j).toNat) k=true:=by
 have a1:=oa ha hj;have a2:=Mb hw (show (a.g j).toNat<5 by omega);have hp:0<(jx w a j).length:=List.length_pos_of_mem (yl a2.2 5 (by omega));have hc:=DJ c j hp;have hm:(jx w a j).getD (lR c j (jx w a j).length) 0∈jx w a j:=by rw[zz0,zz9 hc];exact zx3 hc
 have h1:=yj 5 _ hm;exact ⟨((jx w a j).getD (lR c j (jx w a j).length) 0).toNat,by omega,rfl,LA 5 _ hm⟩
theorem PY(w:aW 5 Int)(a:aW 6 Int)(c:List Int):∀ n,n≤6→∀ j,j<n→(kl w a c n).g j=sh w a c j
 |0,_=>fun j h=>absurd h (by omega)
 |n+1,hn=>fun j hj=>by
  simp only[kl];rw[oK _ _ _ _ (by omega)];split
  ·rename_i e;subst e;rfl
  ·exact PY w a c n (by omega) j (by omega)
theorem ans{w:aW 5 Int}{a:aW 6 Int}(hw:iy w=true)(ha:dY a=true)(c:List Int):∀ j,j<6→rN (kl w a c 6) j:=fun j hj=>by
 obtain ⟨k,hk,e,_⟩:=anr hw ha c hj;exact ⟨k,hk,by rw[PY w a c 6 (zz7 _) j hj,e]⟩
def kW(c:List Int)(p q:Int)(x:aW 6 Int):Nat→aW 6 Int
 |0=>x
 |i+1=>hZ (kW c p q x i) (bF c (i+p)%6).toNat (shl 1 (bF c (i+q)%5).toNat)
theorem tR(n:Int):0≤n%6∧n%6<6:=⟨zw8 _ (by decide),zv7 _ (by decide)⟩
theorem LG(n:Int):0≤n%5∧n%5<5:=⟨zw8 _ (by decide),zv7 _ (by decide)⟩
theorem LD(n:Int):0≤n%32∧n%32<32:=⟨zw8 _ (by decide),zv7 _ (by decide)⟩
theorem Eo{c:List Int}{p q:Int}{x:aW 6 Int}(h:∀ j,j<6→rN x j):∀ n,∀ j,j<6→rN (kW c p q x n) j
 |0=>h
 |n+1=>fun j hj=>by
  have h6:=tR (bF c (n+p));have h5:=LG (bF c (n+q));simp only[kW,rN];rw[oK _ _ _ _ (by omega)];split
  ·exact ⟨_,by omega,rfl⟩
  ·exact Eo h n j hj
theorem Sy:∀ y z:Fin 32,0≤kp (y.1:Int) (z.1:Int)∧kp (y.1:Int) (z.1:Int)≤31∧((y.1:Int)≠0→kp (y.1:Int) (z.1:Int)≠0):=by decide +kernel
theorem Sz{y z:Int}(hy:1≤y∧y≤31)(hz:0≤z∧z<32):1≤kp y z∧kp y z≤31:=by
 have:=Sy ⟨y.toNat,by omega⟩ ⟨z.toNat,by omega⟩;simp only[show ((y.toNat:Nat):Int)=y by omega,show ((z.toNat:Nat):Int)=z by omega] at this;have:=this.2.2 (by omega);omega
def ka(c:List Int)(x:aW 6 Int):Nat→aW 6 Int
 |0=>x
 |i+1=>hZ (ka c x i) (bF c (i+7)%6).toNat (kp ((ka c x i).g (bF c (i+7)%6).toNat) (bF c (i+3)%32))
theorem LH{c:List Int}{x:aW 6 Int}(h:iw x=true):∀ n,iw (ka c x n)=true
 |0=>h
 |n+1=>Ma fun j hj=>by
  have h6:=tR (bF c (n+7));have ih:=LH (c:=c) h n;simp only[ka];rw[oK _ _ _ _ (by omega)];split
  ·exact Sz (L9 ih (by omega)) (LD _)
  ·exact L9 ih hj
def r4(m:bU)(a:aW 6 Int)(c:List Int):aW 6 Int:=ka c (kW c 2 5 (kl m.eV a c 6) m.eT.toNat) (bF c 1%4).toNat
theorem amy{m:bU}{a:aW 6 Int}(hw:iy m.eV=true)(ha:dY a=true)(c:List Int):iw (r4 m a c)=true :=
 LH (alk (Eo (ans hw ha c) _)) _
theorem L3{m:bU}(h:eg m=true):iy m.eV=true∧0≤m.eT∧m.eT≤2:=by
 simp only[eg,zz2,cj,decide_eq_true_eq] at h;exact ⟨h.1,h.2.1.1,h.2.1.2⟩
theorem KM{m:bU}(h:eg m=true){k:Nat}(hk:k<m.given.length):dY (c9 m k).mark=true:=by rw[←jF hk];exact L7 h _ (zx3 hk)
theorem YE(c:List Int)(i:Nat){n:Nat}(hn:0<n)(h5:n≤1000):bF c i%(n:Int)=((lR c i n:Nat):Int):=by
 unfold lR bF;split
 ·rename_i h;subst h;simp
 ·rename_i h;have hp:0<c.length:=List.length_pos_iff.2 h;have e:((i:Int)%(c.length:Int)).toNat=i%c.length:=by omega
  rw[if_pos hp,e];generalize c.getD (i%c.length) 0=x;obtain ⟨_,h2⟩:=zL x n (by omega) (by omega);rw[h2];have:=zw8 x (show (n:Int)≠0 by omega);omega
theorem Ro(w:aW 5 Int)(a:aW 6 Int)(cuts:List Int)(hl:cuts.length≤4611686018427387904):ay Tryz.prog 98 [enc w,enc a,enc cuts] (.tuple [enc (pA w a cuts).1,enc (pA w a cuts).2]):=by
 refine ay.bn Tryz.func98 Uu Wp YB (t7 rfl) (fun hwf W0 D0 E1 =>?_);simp only[CX,OG,bg,zz4,Nat.reduceAdd];refine .ao (by decide +kernel) fun K hK =>?_;simp only[Kl,U,simprocAttr]
 try simp only[dN,oG,U,simprocAttr]
 refine .done (hK _ ?_);clear hK K;refine J.seq (J.seq ?_);refine .bx (by decide +kernel) fun K hK =>?_;simp only[Km,U,simprocAttr]
 try simp only[cI,c8,U,simprocAttr]
 refine .flat _ (Rq w) rfl ?_
 try simp only[U,simprocAttr]
 refine .done (hK _ ?_);clear hK K;try simp only[ar]
 generalize hw:iy w=bw;cases bw
 ·refine J.bM ?_;simp only[ak,U,simprocAttr];refine ⟨fun h =>?_,fun h =>?_⟩
  ·refine .ao (by decide +kernel) fun K hK =>?_;simp only[Kp,U,simprocAttr]
   try simp only[dZ,oG,qB,U,simprocAttr]
   refine .done (hK _ ?_);clear hK K;refine J.ret ?_;simp only[ar,U,simprocAttr]
   try simp only[cI,c8,U,simprocAttr]
   simp[pA,hw]
  ·simp at h
 refine J.bM ?_;simp only[ak,U,simprocAttr];refine ⟨fun h =>?_,fun h =>?_⟩
 ·simp at h
 refine J.skip ?_;try simp only[ar,simprocAttr]
 refine J.seq (J.seq ?_);refine .bx (by decide +kernel) fun K hK =>?_;simp only[Kq,U,simprocAttr]
 try simp only[cI,c8,U,simprocAttr]
 refine .flat _ (P7 a) rfl ?_
 try simp only[U,simprocAttr]
 refine .done (hK _ ?_);clear hK K;try simp only[ar]
 generalize ha:dY a=ba;cases ba
 ·refine J.bM ?_;simp only[ak,U,simprocAttr];refine ⟨fun h =>?_,fun h =>?_⟩
  ·refine .ao (by decide +kernel) fun K hK =>?_;simp only[Kr,U,simprocAttr]
   try simp only[dZ,oG,qB,U,simprocAttr]
   refine .done (hK _ ?_);clear hK K;refine J.ret ?_;simp only[ar,U,simprocAttr]
   try simp only[cI,c8,U,simprocAttr]
   simp[pA,hw,ha]
  ·simp at h
 refine J.bM ?_;simp only[ak,U,simprocAttr];refine ⟨fun h =>?_,fun h =>?_⟩
 ·simp at h
 refine J.skip ?_;try simp only[ar,simprocAttr]
 refine .ao (by decide +kernel) fun K hK =>?_;simp only[Ks,U,simprocAttr]
 try simp only[oG,simprocAttr]
 refine .done (hK _ ?_);clear hK K;refine J.seq (J.seq ?_);refine .bx (by decide +kernel) fun K hK =>?_;simp only[Kt,U,simprocAttr];refine .done (hK _ ?_);clear hK K;try simp only[ar]
 refine J.block (J.loop (fun i:Nat=>au [(2,enc cuts),(3,.ptr 3 []),(4,.ptr 4 []),(6,.ptr 6 []),(8,.ptr 8 []),(9,.int .i64 i)] [(3,.box (enc w)),(4,.box (enc a)),(6,.box (enc lD)),(8,.box (enc (kl w a cuts i)))]) (fun i=>i≤6) (fun i=>6-i) 0 (by omega) ?_ (fun i hi =>?_))
 ·simp only[kl];refine aC.bI ?_ ?_ ?_ ?_ <;>simp[aT,bC,bB,a6,al,aV,cg,I.only,ah.only,bh]
 refine J.seq (J.seq ?_);refine .bx (by decide +kernel) fun K hK =>?_;simp only[Ku,U,simprocAttr];refine .done (hK _ ?_);clear hK K;try simp only[ar]
 refine J.bM ?_;simp only[ak,U,simprocAttr];refine ⟨fun h =>?_,fun h =>?_⟩
 ·have hi6:i<6:=by simp at h;omega
  have h1:=oa ha hi6;have h2:=Mb hw (show (a.g i).toNat<5 by omega);have k5:(a.g i).toNat<5:=by omega
  refine J.skip ?_;try simp only[ar,simprocAttr]
  refine J.seq (J.block ?_);refine .ao (by decide +kernel) fun K hK =>?_;simp only[Kv,U,simprocAttr]
  try simp only[bd,jH 1 a hi6 rfl,eW a hi6,U,simprocAttr]
  try simp only[bd,gw 1 w ⟨h1.1,h1.2⟩ rfl,eW w k5,U,simprocAttr]
  refine .lead _ (Qo (w.g (a.g i).toNat)) ?_
  try simp only[U,simprocAttr]
  refine .done (hK _ ?_);clear hK K;have hL:jx w a i=gX (w.g (a.g i).toNat) 5:=rfl;rw[←hL];have hL5:(jx w a i).length≤5:=yk _ 5;have hL0:0<(jx w a i).length:=List.length_pos_of_mem (yl h2.2 5 (by omega));have hLi:∀ x∈jx w a i,0≤x∧x<(5:Nat):=yj 5;have hV:sh w a cuts i=shl 1 ((jx w a i).getD (lR cuts i (jx w a i).length) 0).toNat:=rfl;have hcl:=DJ cuts i hL0;generalize hLL:jx w a i=az at hL5 hL0 hLi hV hcl ⊢;have hin:=hLi (az.getD (lR cuts i az.length) 0) (by rw[zz0,zz9 hcl];exact zx3 hcl);refine .bx (by decide +kernel) fun K hK =>?_;simp only[Kx,U,simprocAttr]
  try simp only[c8,U,simprocAttr]
  refine .flat _ (mH cuts i hl) rfl ?_
  try simp only[bd,U,simprocAttr]
  refine .flat _ (gN (bF cuts i) az.length (by omega) (by omega)) rfl ?_;rw[YE cuts i hL0 (by omega)]
  try simp only[xR hcl,U,simprocAttr]
  have hsh:IntKind.i64.wrap (1*2^min (az.getD (lR cuts i az.length) 0).toNat IntKind.i64.bits)=sh w a cuts i:=hV.symm;rw[if_pos hin.1,hsh]
  try simp only[bd,jH 1 (kl w a cuts i) hi6 rfl,eW (kl w a cuts i) hi6,po (kl w a cuts i) hi6,U,simprocAttr]
  refine .done (hK _ ?_);clear hK K;try simp only[ar,bO]
  refine .bx (by decide +kernel) fun K hK =>?_;simp only[Kn,U,simprocAttr];refine .done (hK _ ?_);clear hK K;try simp only[ar]
  refine ⟨i+1,by omega,by omega,?_⟩;rw[cF _ (by omega) (by omega),kl];refine aC.bI ?_ ?_ ?_ ?_ <;>simp[aT,bC,bB,a6,al,aV,cg,I.only,ah.only,bh]
 ·have h6:i=6:=by simp at h;omega
  subst h6;refine J.exit ?_;try simp only[ar,bO,simprocAttr]
  refine .ao (by decide +kernel) fun K hK =>?_;simp only[Ko,U,simprocAttr]
  try simp only[cI,qB,U,simprocAttr]
  refine .done (hK _ ?_);clear hK K;refine J.ret ?_;simp only[U,simprocAttr]
  try simp only[cI,c8,U,simprocAttr]
  simp[pA,hw,ha]
theorem Q9(m:bU)(a:aW 6 Int)(c:List Int)(hl:c.length≤4611686018427387904)(hw:iy m.eV=true)(ha:dY a=true)(h0:0≤m.eT)(h2:m.eT≤2):ay Tryz.prog 35 [enc m,enc a,enc c] (enc (r4 m a c)):=by
 refine ay.bn Tryz.func35 T3 VY Ya (t7 rfl) (fun hwf W0 D0 E1 =>?_);simp only[Cx,Ob,bg,zz4,Nat.reduceAdd];obtain ⟨r0,hr0⟩:∃ r0,r0=kl m.eV a c 6:=⟨_,rfl⟩
 have hworn:pA m.eV a c=(r0,0):=by simp[pA,hw,ha,hr0]
 refine .ao (by decide +kernel) fun K hK =>?_;simp only[Ja,U,simprocAttr]
 try simp only[dN,oG,U,simprocAttr]
 refine .done (hK _ ?_);clear hK K;refine .ao (by decide +kernel) fun K hK =>?_;simp only[Jb,U,simprocAttr]
 try simp only[cI,c8,U,simprocAttr]
 refine .lead _ (Ro m.eV a c hl) ?_
 try simp only[hworn,cI,oG,qB,U,simprocAttr]
 refine .done (hK _ ?_);clear hK K;refine J.seq (J.seq ?_);refine .bx (by decide +kernel) fun K hK =>?_;simp only[Je,U,simprocAttr];refine .done (hK _ ?_);clear hK K;try simp only[ar]
 refine J.block (J.loop (fun i:Nat=>au [(2,enc c),(3,.ptr 3 []),(6,.ptr 6 []),(7,.ptr 7 []),(9,.int .i64 i)] [(3,.box (enc m)),(6,.box (enc lD)),(7,.box (enc (kW c 2 5 r0 i)))]) (fun i=>i≤m.eT.toNat) (fun i=>m.eT.toNat-i) 0 (by omega) ?_ (fun i hi =>?_))
 ·simp only[kW];refine aC.bI ?_ ?_ ?_ ?_ <;>simp[aT,bC,bB,a6,al,aV,cg,I.only,ah.only,bh]
 refine J.seq (J.seq ?_);refine .bx (by decide +kernel) fun K hK =>?_;simp only[Jf,U,simprocAttr]
 try simp only[cI,U,simprocAttr]
 refine .done (hK _ ?_);clear hK K;try simp only[ar]
 refine J.bM ?_;simp only[ak,U,simprocAttr];refine ⟨fun h =>?_,fun h =>?_⟩
 ·have hlt:(i:Int)<m.eT:=by simpa using h
  have m6:=tR (bF c (i+2));have m5:=LG (bF c (i+5));have k6:(bF c (i+2)%6).toNat<6:=by omega
  have hv:IntKind.i64.wrap (1*2^min (bF c (i+5)%5).toNat IntKind.i64.bits)=shl 1 (bF c (i+5)%5).toNat:=rfl;refine J.skip ?_;try simp only[ar,simprocAttr]
  refine J.seq (J.block ?_);refine .bx (by decide +kernel) fun K hK =>?_;simp only[Jg,U,simprocAttr]
  try simp only[c8,U,simprocAttr]
  rw[cF _ (by omega) (by omega)];refine .flat _ (mH c (i+2) hl) rfl ?_
  try simp only[U,simprocAttr]
  refine .flat _ (gN (bF c (i+2)) 6 (by decide) (by decide)) rfl ?_
  try simp only[c8,U,simprocAttr]
  rw[cF _ (by omega) (by omega)];refine .flat _ (mH c (i+5) hl) rfl ?_
  try simp only[U,simprocAttr]
  refine .flat _ (gN (bF c (i+5)) 5 (by decide) (by decide)) rfl ?_
  try simp only[U,simprocAttr]
  rw[if_pos m5.1,hv]
  try simp only[bd,gw 1 (kW c 2 5 r0 i) ⟨m6.1,m6.2⟩ rfl,eW (kW c 2 5 r0 i) k6,po (kW c 2 5 r0 i) k6,U,simprocAttr]
  refine .done (hK _ ?_);clear hK K;try simp only[ar,bO]
  refine .bx (by decide +kernel) fun K hK =>?_;simp only[Jh,U,simprocAttr];refine .done (hK _ ?_);clear hK K;try simp only[ar]
  refine ⟨i+1,by omega,by omega,?_⟩;rw[cF _ (by omega) (by omega),kW];refine aC.bI ?_ ?_ ?_ ?_ <;>simp[aT,bC,bB,a6,al,aV,cg,I.only,ah.only,bh]
 have hi2:i=m.eT.toNat:=by simp at h;omega
 subst hi2;refine J.exit ?_;try simp only[ar,bO,simprocAttr]
 obtain ⟨r1,hr1⟩:∃ r1,r1=kW c 2 5 r0 m.eT.toNat:=⟨_,rfl⟩
 rw[←hr1];refine J.seq (J.seq ?_);refine .bx (by decide +kernel) fun K hK =>?_;simp only[Ji,U,simprocAttr];refine .done (hK _ ?_);clear hK K;try simp only[ar]
 have q4:0≤bF c 1%4∧bF c 1%4<4:=⟨zw8 _ (by decide),zv7 _ (by decide)⟩
 refine J.block (J.loop (fun i:Nat=>au [(2,enc c),(3,.ptr 3 []),(6,.ptr 6 []),(7,.ptr 7 []),(10,.int .i64 i)] [(3,.box (enc m)),(6,.box (enc lD)),(7,.box (enc (ka c r1 i)))]) (fun i=>i≤(bF c 1%4).toNat) (fun i=>(bF c 1%4).toNat-i) 0 (by omega) ?_ (fun i hi =>?_))
 ·simp only[ka];refine aC.bI ?_ ?_ ?_ ?_ <;>simp[aT,bC,bB,a6,al,aV,cg,I.only,ah.only,bh]
 refine J.seq (J.seq ?_);refine .bx (by decide +kernel) fun K hK =>?_;simp only[Jj,U,simprocAttr]
 try simp only[c8,U,simprocAttr]
 refine .flat _ (mH c 1 hl) rfl ?_
 try simp only[U,simprocAttr]
 refine .flat _ (gN (bF c 1) 4 (by decide) (by decide)) rfl ?_
 try simp only[U,simprocAttr]
 refine .done (hK _ ?_);clear hK K;try simp only[ar]
 refine J.bM ?_;simp only[ak,U,simprocAttr];refine ⟨fun h =>?_,fun h =>?_⟩
 ·have hlt:(i:Int)<bF c 1%4:=by simpa using h
  have m6:=tR (bF c (i+7));have m32:=LD (bF c (i+3));have k6:(bF c (i+7)%6).toNat<6:=by omega
  refine J.skip ?_;try simp only[ar,simprocAttr]
  refine J.seq (J.block ?_);refine .ao (by decide +kernel) fun K hK =>?_;simp only[Jk,U,simprocAttr]
  try simp only[c8,U,simprocAttr]
  rw[cF _ (by omega) (by omega)];refine .flat _ (mH c (i+7) hl) rfl ?_
  try simp only[U,simprocAttr]
  refine .flat _ (gN (bF c (i+7)) 6 (by decide) (by decide)) rfl ?_
  try simp only[U,simprocAttr]
  refine .done (hK _ ?_);clear hK K;refine .bx (by decide +kernel) fun K hK =>?_;simp only[Jl,U,simprocAttr]
  try simp only[bd,gw 1 (ka c r1 i) ⟨m6.1,m6.2⟩ rfl,eW (ka c r1 i) k6,c8,U,simprocAttr]
  rw[cF _ (by omega) (by omega)];refine .flat _ (mH c (i+3) hl) rfl ?_
  try simp only[U,simprocAttr]
  refine .flat _ (gN (bF c (i+3)) 32 (by decide) (by decide)) rfl ?_
  try simp only[bd,U,simprocAttr]
  try simp only[bd,gw 1 (ka c r1 i) ⟨m6.1,m6.2⟩ rfl,eW (ka c r1 i) k6,po (ka c r1 i) k6,U,simprocAttr]
  refine .done (hK _ ?_);clear hK K;try simp only[ar,bO]
  refine .bx (by decide +kernel) fun K hK =>?_;simp only[Jc,U,simprocAttr];refine .done (hK _ ?_);clear hK K;try simp only[ar]
  refine ⟨i+1,by omega,by omega,?_⟩;rw[cF _ (by omega) (by omega),ka];refine aC.bI ?_ ?_ ?_ ?_ <;>simp[aT,bC,bB,a6,al,aV,cg,I.only,ah.only,bh]
  all_goals first | rfl | simp[kp]
 have hi4:i=(bF c 1%4).toNat:=by simp at h;omega
 refine J.exit ?_;try simp only[ar,bO,simprocAttr]
 refine .ao (by decide +kernel) fun K hK =>?_;simp only[Jd,U,simprocAttr]
 try simp only[cI,qB,U,simprocAttr]
 refine .done (hK _ ?_);clear hK K;refine J.ret ?_;simp only[U,simprocAttr]
 try simp only[cI,c8,U,simprocAttr]
 rw[hi4,hr1,hr0];rfl
abbrev fJ:=aW 9 Int
def z9:fJ:=⟨List.replicate 9 0,rfl⟩
def ly(l:List Int)(b:Int)(i:Nat):Int:=IntKind.i64.wrap (bF l (IntKind.i64.wrap ((i:Int)+b))+b)
def qw(l:List Int)(b:Int):List Int:=(List.range l.length).map (ly l b)
theorem Ri(l:List Int)(b:Int)(hl:l.length*8≤140737488355328):ay Tryz.prog 83 [enc l,enc b] (enc (qw l b)):=by
 refine ay.bn Tryz.func83 Uk Wf Yr (t7 rfl) (fun hwf W0 D0 E1 =>?_);simp only[CN,Ow,bg,zz4];clear hwf;have R:=v6 @bd (v6 @aU @U)
 repeat' ((first |(with_reducible refine .guard (fun hb =>?_) (fun hb =>?_) <;>try simp only[hb])|refine J.aL (by decide +kernel) rfl fun K hK =>?_|(refine .aG [0,1,4,5,6,10] hK ?_;clear hK K)|(with_reducible refine .done (hK _ ?_);clear hK K)|refine J.of rfl ?_|(with_reducible refine ak.aK (fun h =>?_) (fun h =>?_) <;>try simp only[h])) <;>try simp only[aM,R,reduceIte,Nat.reduceBEq])
 all_goals clear R
 refine J.loop (fun i:Nat=>au [(0,enc l),(1,.int .i64 b),(5,.own 905 ((List.range i).map (ly l b)).length),(6,.int .i64 i)] [(905,.bY 3 1 (((List.range i).map (ly l b)).map enc))]) (fun i=>i≤l.length) (fun i=>l.length-i) 0 (zw7 _) ?_ (fun i hi =>?_)
 ·refine aC.qM 5 905 3 1 1 rfl rfl ?_;simp only[List.range_zero,zx1,zu2];refine aC.bI ?_ ?_ ?_ ?_ <;>simp[aT,bC,bB,a6,al,aV,cg,I.only,I.bT,ah.only,bh]
 by_cases hlt:i<l.length
 ·have hc:=fO hlt;have hw:=eB (i:=i) (by omega);have hsu:(List.range (i+1)).map (ly l b)=(List.range i).map (ly l b)++[ly l b i]:=by rw[List.range_succ,zx5];rfl
  have hxl:((List.range i).map (ly l b)).length=i:=by simp
  have hv:ly l b i=IntKind.i64.wrap (bF l (IntKind.i64.wrap ((i:Int)+b))+b):=rfl;rw[hv] at hsu;generalize (List.range i).map (ly l b)=xs at hsu hxl ⊢;have happ:=fun (A:ae) d rest=>nC (α:=Int) (A:=A) (d:=d) 3 1 8 905 (l:=xs.length) (es:=xs) (ys:=[IntKind.i64.wrap (bF l (IntKind.i64.wrap ((i:Int)+b))+b)]) (rest:=rest) rfl rfl (by simp) (by simp[maxLen];omega) (by simp;omega);have R:=v6 @hc (v6 @hw (v6 @happ (v6 @mN (v6 @bd (v6 @aU @U)))))
  repeat' ((first |(with_reducible refine .guard (fun hb =>?_) (fun hb =>?_) <;>try simp only[hb])|refine J.aL (by decide +kernel) rfl fun K hK =>?_|refine .flat _ (mH l _ (by omega)) rfl ?_|(refine .aG [0,1,4,5,6,10] hK ?_;clear hK K)|(with_reducible refine .done (hK _ ?_);clear hK K)|refine J.of rfl ?_|(with_reducible refine ak.aK (fun h =>?_) (fun h =>?_) <;>try simp only[h])) <;>try simp only[aM,R,Nat.reduceEqDiff,reduceIte,Nat.reduceBEq])
  all_goals clear R
  refine ⟨i+1,by omega,by omega,?_⟩;simp only[hsu];refine aC.bI ?_ ?_ ?_ ?_ <;>simp[aT,bC,bB,a6,al,aV,cg,I.only,I.bT,ah.only,dy,fA,bh,gT]
 ·have hc:=gi hlt;have hge:i=l.length:=by omega
  subst hge;have hfo:=mW (k:=((List.range l.length).map (ly l b)).length) (T:=3) (es:=(List.range l.length).map (ly l b)) 1 rfl rfl;have R:=v6 @hc (v6 @hfo (v6 @bd (v6 @aU @U)))
  repeat' ((first |(with_reducible refine .guard (fun hb =>?_) (fun hb =>?_) <;>try simp only[hb])|refine J.aL (by decide +kernel) rfl fun K hK =>?_|(refine .aG [0,1,4,5,6,10] hK ?_;clear hK K)|(with_reducible refine .done (hK _ ?_);clear hK K)|refine J.of rfl ?_|(with_reducible refine ak.aK (fun h =>?_) (fun h =>?_) <;>try simp only[h])) <;>try simp only[aM,R,Nat.reduceEqDiff,reduceIte,Nat.reduceBEq])
  all_goals clear R
  all_goals rfl
def zr:aW 6 Int:=⟨List.replicate 6 31,rfl⟩
def uG(m:bU)(picks:List Int)(i:Nat)(n:fJ):aW 6 Int:=if 0<m.given.length then r4 m (c9 m (n.g 8%(m.given.length:Int)).toNat).mark (qw picks i) else zr
def kF(m:bU)(picks:List Int)(h LO i:Nat)(n:fJ):aq where
 bF:=⟨h,LO⟩
 kind:=n.g 1%7
 day:=if n.g 1%7=0 then 0 else n.g 2%30
 known:=n.g 3%40
 cH:=1+n.g 4%6
 e7:=if n.g 7%7=1+n.g 4%6 then 0 else n.g 7%7
 dq:=1+n.g 5%2
 bP:=1+n.g 6%12
 b9:=if n.g 1%7=4 then uG m picks i n else oq
 kb:=if n.g 1%7=0 then ⟨h,n.g 4%(LO:Int)⟩ else ⟨0,0⟩
def r9(m:bU)(ls:List fJ)(picks:List Int)(h:Nat)(o:List aq)(i:Nat):List aq :=
 if (ls.getD i z9).g 0%3=(h:Int)∧¬ ((ls.getD i z9).g 1%7=0∧o.length=0) then o++[jY (kF m picks h o.length i (ls.getD i z9))] else o
def gl(m:bU)(ls:List fJ)(picks:List Int)(h:Nat):Nat→List aq
 |0=>[]
 |i+1=>r9 m ls picks h (gl m ls picks h i) i
def iG(ls:List fJ):Nat:=min ls.length 20
def ir(m:bU)(ls:List fJ)(picks:List Int):Nat→List aq
 |0=>[]
 |h+1=>ir m ls picks h++gl m ls picks h (iG ls)
def oT(m:bU)(ls:List fJ)(picks:List Int):List aq:=ir m ls picks 3
theorem tJ(m:bU)(ls:List fJ)(picks:List Int)(h:Nat):∀ i,(gl m ls picks h i).length≤i
 |0=>zz7 _
 |i+1=>by
  have:=tJ m ls picks h i;simp only[gl,r9];split <;>simp <;>omega
theorem yc(ls:List fJ):iG ls≤ls.length∧iG ls≤20:=by simp only[iG];omega
theorem x9(m:bU)(ls:List fJ)(picks:List Int):∀ h,(ir m ls picks h).length≤20*h
 |0=>zz7 _
 |h+1=>by
  have h1:=x9 m ls picks h;have h2:=tJ m ls picks h (iG ls);have h3:=yc ls;simp only[ir,zz3];omega
def iv(N:Nat→Nat)(h c:Nat):aW 3 Int:=⟨(List.range 3).map fun k=>if k<h then (N k:Int) else if k=h then (c:Int) else 0,by simp⟩
theorem akn{N:Nat→Nat}{h c:Nat}(hh:h<3):(iv N h c).g h=(c:Int):=by
 simp[iv,aW.g,zz0,hh]
theorem zW{n:Nat}{x y:aW n Int}(h:x.l=y.l):x=y:=by cases x;cases y;simp_all
theorem akp{N:Nat→Nat}{h c:Nat}(c':Nat)(hh:h<3):hZ (iv N h c) h (c':Int)=iv N h c':=by
 refine zW (List.ext_getElem (by simp[hZ,iv]) fun k h1 h2 =>?_);simp only[hZ,iv,List.getElem_set,List.getElem_map,List.getElem_range];by_cases e:h=k
 ·subst e;simp
 ·have:¬ k=h:=fun e'=>e e'.symm;simp[e,this]
theorem ako{N:Nat→Nat}{h:Nat} : iv N h (N h)=iv N (h+1) 0:=by
 refine zW (List.ext_getElem (by simp[iv]) fun k h1 h2 =>?_);simp only[iv,List.getElem_map,List.getElem_range];rcases Nat.lt_trichotomy k h with e | e | e
 ·rw[if_pos e,if_pos (by omega)]
 ·subst e;rw[if_neg (by omega),if_pos rfl,if_pos (by omega)]
 ·rw[if_neg (by omega),if_neg (by omega),if_neg (by omega)];split <;>rfl
theorem Z8(N:Nat→Nat):I.agg [.int .i64 0,.int .i64 0,.int .i64 0]=enc (iv N 0 0):=rfl
theorem q0:(∀ a b:Nat,I.agg [.int .i64 (a:Int),.int .i64 (b:Int)]=enc (⟨a,b⟩:Item))∧(∀ (a:Nat) (b c:Int),I.agg [.int .i64 (a:Int),.int .i64 (b%c)]=enc (⟨a,b%c⟩:Item)):=⟨fun _ _=>rfl,fun _ _ _=>rfl⟩
theorem D7:I.agg [.int .i64 31,.int .i64 31,.int .i64 31,.int .i64 31,.int .i64 31,.int .i64 31]=enc zr:=rfl
theorem A4(a b c d e f:Int):dZ [.int .i64 0,.int .i64 0,.int .i64 0,.int .i64 0,.int .i64 0,.int .i64 0] [(0,.int .i64 a),(1,.int .i64 b),(2,.int .i64 c),(3,.int .i64 d),(4,.int .i64 e),(5,.int .i64 f)]=some [.int .i64 a,.int .i64 b,.int .i64 c,.int .i64 d,.int .i64 e,.int .i64 f]:=by simp[dZ,I.cm,I.size]
theorem qS(a b:Int):dZ [.int .i64 0,.int .i64 0] [(0,.int .i64 a),(1,.int .i64 b)]=some [.int .i64 a,.int .i64 b]:=by simp[dZ,I.cm,I.size]
theorem qR(a:Item)(k d kn b s o dm:Int):(dZ [.agg [.int .i64 0,.int .i64 0],.int .i64 0,.int .i64 0,.int .i64 0,.int .i64 0,.int .i64 0,.int .i64 0,.int .i64 0,.agg [.int .i64 0,.int .i64 0,.int .i64 0,.int .i64 0,.int .i64 0,.int .i64 0],.agg [.int .i64 0,.int .i64 0]] [(0,enc a),(1,.int .i64 k),(2,.int .i64 d),(3,.int .i64 kn),(4,.int .i64 b),(6,.int .i64 s),(7,.int .i64 o),(5,.int .i64 dm)]).map .agg=some (enc (⟨a,k,d,kn,b,dm,s,o,oq,⟨0,0⟩⟩:aq)):=by
 simp[dZ,I.cm,I.size,I.sizes,gH,re];rfl
theorem pO:I.agg [.int .i64 0,.int .i64 0,.int .i64 0,.int .i64 0,.int .i64 0,.int .i64 0,.int .i64 0,.int .i64 0,.int .i64 0]=enc z9:=rfl
theorem qC{A:ae}{n:Nat}{w:I}{x y:fJ}{rest:List aB} : dR A (some 9) n [] w (enc x) rest (some (enc y))=aE rest (A.aS n (.box (enc x))):=by
 rw[ez (s:=some 9) (dN _) (by rw[fL];rfl) ((eL x).trans (eL y).symm),fI]
theorem qk(x:fJ):b8 (some 9) (enc x)=true:=by rw[fL];rfl
theorem al3(n:fJ) :
  (∀ y,fN (0:Int) 9 (fM 9 1 (n.l.map enc) y)=y)∧gu 0 [] (some (n.l.map (enc (α:=Int))))=some (.int .i64 (n.g 0))∧((0:Int).toNat=0)∧(∀ y,fN (1:Int) 9 (fM 9 1 (n.l.map enc) y)=y)∧gu 1 [] (some (n.l.map (enc (α:=Int))))=some (.int .i64 (n.g 1))∧((1:Int).toNat=1)∧(∀ y,fN (2:Int) 9 (fM 9 1 (n.l.map enc) y)=y)∧gu 2 [] (some (n.l.map (enc (α:=Int))))=some (.int .i64 (n.g 2))∧((2:Int).toNat=2)∧(∀ y,fN (3:Int) 9 (fM 9 1 (n.l.map enc) y)=y)∧gu 3 [] (some (n.l.map (enc (α:=Int))))=some (.int .i64 (n.g 3))∧((3:Int).toNat=3)∧(∀ y,fN (4:Int) 9 (fM 9 1 (n.l.map enc) y)=y)∧gu 4 [] (some (n.l.map (enc (α:=Int))))=some (.int .i64 (n.g 4))∧((4:Int).toNat=4)∧(∀ y,fN (5:Int) 9 (fM 9 1 (n.l.map enc) y)=y)∧gu 5 [] (some (n.l.map (enc (α:=Int))))=some (.int .i64 (n.g 5))∧((5:Int).toNat=5)∧(∀ y,fN (6:Int) 9 (fM 9 1 (n.l.map enc) y)=y)∧gu 6 [] (some (n.l.map (enc (α:=Int))))=some (.int .i64 (n.g 6))∧((6:Int).toNat=6)∧(∀ y,fN (7:Int) 9 (fM 9 1 (n.l.map enc) y)=y)∧gu 7 [] (some (n.l.map (enc (α:=Int))))=some (.int .i64 (n.g 7))∧((7:Int).toNat=7)∧(∀ y,fN (8:Int) 9 (fM 9 1 (n.l.map enc) y)=y)∧gu 8 [] (some (n.l.map (enc (α:=Int))))=some (.int .i64 (n.g 8))∧((8:Int).toNat=8) :=
 ⟨fun _=>gw 1 n (by decide) rfl,(eW n (by decide)).trans (iO _),rfl,fun _=>gw 1 n (by decide) rfl,(eW n (by decide)).trans (iO _),rfl,fun _=>gw 1 n (by decide) rfl,(eW n (by decide)).trans (iO _),rfl,fun _=>gw 1 n (by decide) rfl,(eW n (by decide)).trans (iO _),rfl,fun _=>gw 1 n (by decide) rfl,(eW n (by decide)).trans (iO _),rfl,fun _=>gw 1 n (by decide) rfl,(eW n (by decide)).trans (iO _),rfl,fun _=>gw 1 n (by decide) rfl,(eW n (by decide)).trans (iO _),rfl,fun _=>gw 1 n (by decide) rfl,(eW n (by decide)).trans (iO _),rfl,fun _=>gw 1 n (by decide) rfl,(eW n (by decide)).trans (iO _),rfl⟩
theorem zS(x d:Int)(h0:0<d)(h1:d≤1000):IntKind.i64.wrap (1+x%d)=1+x%d:=by
 have a1:=zw8 x (show d≠0 by omega);have a2:=zv7 x h0;exact cF _ (by omega) (by omega)
theorem An(m:bU)(ls:List fJ)(picks:List Int)(hm:eg m=true)(hl:picks.length*8≤140737488355328):ay Tryz.prog 23 [enc m,enc ls,enc picks] (enc (oT m ls picks)):=by
 refine ay.bn Tryz.func23 TU VR X3 (t7 rfl) (fun hwf W0 D0 E1 =>?_);simp only[Cq,N4,bg,zz4,Nat.reduceAdd];have hlen:ls.length≤maxLen:=((lC ls).1 hwf.2.1).1;simp only[maxLen] at hlen;clear hwf;obtain ⟨hw,hf0,hf2⟩:=L3 hm;have hgl:=L4 hm;obtain ⟨hn1,hn2⟩:=yc ls;obtain ⟨N,hN⟩:∃ N:Nat→Nat,N=fun k=>(gl m ls picks k (iG ls)).length:=⟨_,rfl⟩
 have hz:=Z8 N;have R:=v6 @hz (v6 @eO (v6 @bd (v6 @aU @U)))
 repeat' ((first |(with_reducible refine .guard (fun hb =>?_) (fun hb =>?_) <;>try simp only[hb])|refine J.aL (by decide +kernel) rfl fun K hK =>?_|(refine .aG [0,1,2,3,6,7,8,9,10,11,12,14,24,35,70,74,78,91,97] hK ?_;clear hK K)|(with_reducible refine .done (hK _ ?_);clear hK K)|refine J.of rfl ?_|(with_reducible refine ak.aK (fun h =>?_) (fun h =>?_) <;>try simp only[h])) <;>try simp only[aM,R,Nat.reduceEqDiff,reduceIte,Nat.reduceBEq])
 all_goals clear R
 refine J.loop (fun h:Nat=>au [(1,enc ls),(2,enc picks),(3,.ptr 3 []),(7,.ptr 7 []),(8,.own 908 (ir m ls picks h).length),(9,.int .i64 h)] [(3,.box (enc m)),(7,.box (enc (iv N h 0))),(908,.bY 68 17 ((ir m ls picks h).map enc))]) (fun h=>h≤3) (fun h=>3-h) 0 (by omega) ?_ (fun h hh =>?_)
 ·refine aC.qM 8 908 68 17 17 rfl rfl ?_;simp only[ir,zx1,zu2];refine aC.bI ?_ ?_ ?_ ?_ <;>simp[aT,bC,bB,a6,al,aV,cg,I.only,I.bT,ah.only,bh]
 have hal:=x9 m ls picks h;by_cases hh3:h<3
 case neg =>
  have hc:decide ((h:Int)<3)=false:=by simp;omega
  have he:h=3:=by omega
  subst he;have hfo:=mW (k:=(ir m ls picks 3).length) (T:=68) (es:=ir m ls picks 3) 17 rfl rfl;have R:=v6 @hc (v6 @hfo (v6 @bd (v6 @aU @U)))
  repeat' ((first |(with_reducible refine .guard (fun hb =>?_) (fun hb =>?_) <;>try simp only[hb])|refine J.aL (by decide +kernel) rfl fun K hK =>?_|(refine .aG [0,1,2,3,6,7,8,9,10,11,12,14,24,35,70,74,78,91,97] hK ?_;clear hK K)|(with_reducible refine .done (hK _ ?_);clear hK K)|refine J.of rfl ?_|(with_reducible refine ak.aK (fun h =>?_) (fun h =>?_) <;>try simp only[h])) <;>try simp only[aM,R,Nat.reduceEqDiff,reduceIte,Nat.reduceBEq])
  all_goals clear R
  all_goals rfl
 have hc:decide ((h:Int)<3)=true:=by simp;omega
 have hwh:=eB (i:=h) (by omega);have R:=v6 @hc (v6 @bd (v6 @aU @U))
 repeat' ((first |(with_reducible refine .guard (fun hb =>?_) (fun hb =>?_) <;>try simp only[hb])|refine J.aL (by decide +kernel) rfl fun K hK =>?_|(refine .aG [0,1,2,3,6,7,8,9,10,11,12,14,24,35,70,74,78,91,97] hK ?_;clear hK K)|(with_reducible refine .done (hK _ ?_);clear hK K)|refine J.of rfl ?_|(with_reducible refine ak.aK (fun h =>?_) (fun h =>?_) <;>try simp only[h])) <;>try simp only[aM,R,Nat.reduceEqDiff,reduceIte,Nat.reduceBEq])
 all_goals clear R
 refine J.loop (fun i:Nat=>au [(1,enc ls),(2,enc picks),(3,.ptr 3 []),(7,.ptr 7 []),(8,.own 908 (ir m ls picks h++gl m ls picks h i).length),(9,.int .i64 h),(10,.int .i64 i)] [(3,.box (enc m)),(7,.box (enc (iv N h (gl m ls picks h i).length))),(908,.bY 68 17 ((ir m ls picks h++gl m ls picks h i).map enc))]) (fun i=>i≤iG ls) (fun i=>iG ls-i) 0 (zw7 _) ?_ (fun i hi =>?_)
 ·simp only[gl,zx7,zu2];refine aC.bI ?_ ?_ ?_ ?_ <;>simp[aT,bC,bB,a6,al,aV,cg,I.only,ah.only,dy,bh]
 by_cases hlt:i<iG ls
 case neg =>
  have he:i=iG ls:=by omega
  subst he;have hnx:iv N h (gl m ls picks h (iG ls)).length=iv N (h+1) 0:=by
   have:(gl m ls picks h (iG ls)).length=N h:=by rw[hN]
   rw[this,ako]
  rw[hnx];by_cases hq:iG ls<ls.length
  ·have q1:=fO hq;have q20:iG ls=20:=by simp only[iG] at hq ⊢;omega
   have q2:decide ((iG ls:Int)<20)=false:=by rw[q20];rfl
   have R:=v6 @q1 (v6 @q2 (v6 @hwh (v6 @bd (v6 @aU @U))))
   repeat' ((first |(with_reducible refine .guard (fun hb =>?_) (fun hb =>?_) <;>try simp only[hb])|refine J.aL (by decide +kernel) rfl fun K hK =>?_|(refine .aG [0,1,2,3,6,7,8,9,10,11,12,14,24,35,70,74,78,91,97] hK ?_;clear hK K)|(with_reducible refine .done (hK _ ?_);clear hK K)|refine J.of rfl ?_|(with_reducible refine ak.aK (fun h =>?_) (fun h =>?_) <;>try simp only[h])) <;>try simp only[aM,R,Nat.reduceEqDiff,reduceIte,Nat.reduceBEq])
   all_goals clear R
   refine ⟨h+1,by omega,by omega,?_⟩;simp only[ir];refine aC.bI ?_ ?_ ?_ ?_ <;>simp[aT,bC,bB,a6,al,aV,cg,I.only,ah.only,dy,fA,bh]
  ·have q1:=gi hq;have R:=v6 @q1 (v6 @hwh (v6 @bd (v6 @aU @U)))
   repeat' ((first |(with_reducible refine .guard (fun hb =>?_) (fun hb =>?_) <;>try simp only[hb])|refine J.aL (by decide +kernel) rfl fun K hK =>?_|(refine .aG [0,1,2,3,6,7,8,9,10,11,12,14,24,35,70,74,78,91,97] hK ?_;clear hK K)|(with_reducible refine .done (hK _ ?_);clear hK K)|refine J.of rfl ?_|(with_reducible refine ak.aK (fun h =>?_) (fun h =>?_) <;>try simp only[h])) <;>try simp only[aM,R,Nat.reduceEqDiff,reduceIte,Nat.reduceBEq])
   all_goals clear R
   refine ⟨h+1,by omega,by omega,?_⟩;simp only[ir];refine aC.bI ?_ ?_ ?_ ?_ <;>simp[aT,bC,bB,a6,al,aV,cg,I.only,ah.only,dy,fA,bh]
 have q1:decide ((i:Int)<(ls.length:Int))=true:=fO (by omega);have q2:decide ((i:Int)<20)=true:=by simp;omega
 have hwi:=eB (i:=i) (by omega);have hil:i<ls.length:=by omega
 have he:=fun A=>ft (A:=A) 9 hil rfl;have hn:ls.getD i z9=ls[i]:=by rw[zz0,zz9 hil];rfl
 have hsu:gl m ls picks h (i+1)=r9 m ls picks h (gl m ls picks h i) i:=rfl;have hhl:=tJ m ls picks h i;simp only[r9,hn] at hsu;generalize ls[i]=n at he hsu;generalize gl m ls picks h i=o at hsu hhl ⊢;generalize ir m ls picks h=pre at hal ⊢;have hin:=fun c y=>gw (n:=3) 1 (k:=(h:Int)) (iv N h c) (y:=y) ⟨by omega,by omega⟩ rfl;have hag:=fun c=>(eW (p:=[]) (iv N h c) hh3).trans (iO _);have hng:=fun c=>akn (N:=N) (c:=c) hh3;have hst:=fun (A:ae) c v u rest=>po (A:=A) (n:=7) (iv N h c) hh3 (v:=v) (u:=u) (rest:=rest);have hup:=fun c c'=>akp (N:=N) (c:=c) c' hh3;have hto:((h:Int)).toNat=h:=Int.toNat_natCast h;have hwo:=eB (i:=o.length) (by omega);have happ:=fun (A:ae) d rest (y:aq)=>nC (α:=aq) (A:=A) (d:=d) 68 17 136 908 (l:=(pre++o).length) (es:=pre++o) (ys:=[y]) (rest:=rest) rfl rfl (by simp) (by simp[maxLen];omega) (by simp;omega);have hbs:=fun y:aq=>qU 17 y rfl;have hR:=al3 n;have w6:=zS (n.g 4) 6 (by omega) (by omega);have w2:=zS (n.g 5) 2 (by omega) (by omega);have w12:=zS (n.g 6) 12 (by omega) (by omega);rcases c1:(n.g 0%3 != (h:Int))
 case true =>
  have c1':¬ n.g 0%3=(h:Int):=by simpa using c1
  rw[if_neg (fun hx=>c1' hx.1)] at hsu;have R:=v6 @q1 (v6 @q2 (v6 @hwi (v6 @he (v6 @hR (v6 @c1 (v6 @pO (v6 @qC (v6 @qk (v6 @bd (v6 @aU @U))))))))))
  repeat' ((first |(with_reducible refine .guard (fun hb =>?_) (fun hb =>?_) <;>try simp only[hb])|refine J.aL (by decide +kernel) rfl fun K hK =>?_|refine .flat _ (gN _ _ (by first | decide | omega) (by first | decide | omega)) rfl ?_|(refine .aG [0,1,2,3,6,7,8,9,10,11,12,14,24,35,70,74,78,91,97] hK ?_;clear hK K)|(with_reducible refine .done (hK _ ?_);clear hK K)|refine J.of rfl ?_|(with_reducible refine ak.aK (fun h =>?_) (fun h =>?_) <;>try simp only[h])) <;>try simp only[aM,R,Nat.reduceEqDiff,reduceIte,Nat.reduceBEq])
  all_goals clear R
  refine ⟨i+1,by omega,by omega,?_⟩;simp only[hsu];refine aC.bI ?_ ?_ ?_ ?_ <;>simp[aT,bC,bB,a6,al,aV,cg,I.only,ah.only,dy,fA,bh]
 have c1':n.g 0%3=(h:Int):=by simpa using c1
 have hS:∀ hg:0<m.given.length,ay Tryz.prog 35 [enc m,enc (c9 m (n.g 8%(m.given.length:Int)).toNat).mark,enc (qw picks i)] (enc (r4 m (c9 m (n.g 8%(m.given.length:Int)).toNat).mark (qw picks i))):=fun hg=>by
  have a1:=zw8 (n.g 8) (show (m.given.length:Int)≠0 by omega);have a2:=zv7 (n.g 8) (show (0:Int)<(m.given.length:Int) by omega);exact Q9 m _ _ (by simp[qw];omega) hw (KM hm (by omega)) hf0 hf2
 have hSh:=Ri picks i hl;by_cases k0:n.g 1%7=0
 ·have k1:(n.g 1%7==0)=true:=by simp[k0]
  have k4:(n.g 1%7==4)=false:=by simp[k0]
  by_cases o0:o.length=0
  ·have z0:((o.length:Int)==0)=true:=by simp[o0]
   rw[if_neg (fun hx=>hx.2 ⟨k0,o0⟩)] at hsu;rcases cd:(n.g 7%7==1+n.g 4%6)
   all_goals
    have R:=v6 @q1 (v6 @q2 (v6 @hwi (v6 @he (v6 @hR (v6 @c1 (v6 @cd (v6 @k1 (v6 @z0 (v6 @hin (v6 @hag (v6 @hng (v6 @hto (v6 @w6 (v6 @w2 (v6 @w12 (v6 @pO (v6 @qC (v6 @qk (v6 @qS (v6 @q0 (v6 @qR (v6 @bd (v6 @aU @U)))))))))))))))))))))))
    repeat' ((first |(with_reducible refine .guard (fun hb =>?_) (fun hb =>?_) <;>try simp only[hb])|refine J.aL (by decide +kernel) rfl fun K hK =>?_|refine .flat _ (gN _ _ (by first | decide | omega) (by first | decide | omega)) rfl ?_|(refine .aG [0,1,2,3,6,7,8,9,10,11,12,14,24,35,70,74,78,91,97] hK ?_;clear hK K)|(with_reducible refine .done (hK _ ?_);clear hK K)|refine J.of rfl ?_|(with_reducible refine ak.aK (fun h =>?_) (fun h =>?_) <;>try simp only[h])) <;>try simp only[aM,R,Nat.reduceEqDiff,reduceIte,Nat.reduceBEq])
    all_goals clear R
    refine ⟨i+1,by omega,by omega,?_⟩;simp only[hsu];refine aC.bI ?_ ?_ ?_ ?_ <;>simp[aT,bC,bB,a6,al,aV,cg,I.only,ah.only,dy,fA,bh]
  ·have z0:((o.length:Int)==0)=false:=beq_eq_false_iff_ne.2 (by omega);rw[if_pos ⟨c1',fun hx=>o0 hx.2⟩] at hsu;rcases cd:(n.g 7%7==1+n.g 4%6)
   all_goals
    have hraw:kF m picks h o.length i n=⟨⟨h,o.length⟩,n.g 1%7,0,n.g 3%40,1+n.g 4%6,if n.g 7%7=1+n.g 4%6 then 0 else n.g 7%7,1+n.g 5%2,1+n.g 6%12,oq,⟨h,n.g 4%(o.length:Int)⟩⟩:=by simp[kF,k0]
    have cd':=cd;simp only[beq_iff_eq,beq_eq_false_iff_ne,ne_eq] at cd';simp only[cd',if_true,if_false] at hraw;rw[hraw] at hsu;have R:=v6 @q1 (v6 @q2 (v6 @hwi (v6 @hwo (v6 @he (v6 @hR (v6 @c1 (v6 @cd (v6 @k1 (v6 @k4 (v6 @z0 (v6 @hin (v6 @hag (v6 @hng (v6 @hst (v6 @hup (v6 @hto (v6 @w6 (v6 @w2 (v6 @w12 (v6 @happ (v6 @hbs (v6 @pO (v6 @qC (v6 @qk (v6 @qS (v6 @q0 (v6 @qR (v6 @bd (v6 @aU @U)))))))))))))))))))))))))))))
    repeat' ((first |(with_reducible refine .guard (fun hb =>?_) (fun hb =>?_) <;>try simp only[hb])|refine J.aL (by decide +kernel) rfl fun K hK =>?_|refine .flat _ (gN _ _ (by first | decide | omega) (by first | decide | omega)) rfl ?_|refine .lead _ (sy _) ?_|(refine .aG [0,1,2,3,6,7,8,9,10,11,12,14,24,35,70,74,78,91,97] hK ?_;clear hK K)|(with_reducible refine .done (hK _ ?_);clear hK K)|refine J.of rfl ?_|(with_reducible refine ak.aK (fun h =>?_) (fun h =>?_) <;>try simp only[h])) <;>try simp only[aM,R,Nat.reduceEqDiff,reduceIte,Nat.reduceBEq])
    all_goals clear R
    refine ⟨i+1,by omega,by omega,?_⟩;rw[hsu,←zz5];refine aC.bI ?_ ?_ ?_ ?_ <;>simp[aT,bC,bB,a6,al,aV,cg,I.only,I.bT,ah.only,dy,fA,bh]
 have k1:(n.g 1%7==0)=false:=by simp[k0]
 rw[if_pos ⟨c1',fun hx=>k0 hx.1⟩] at hsu;by_cases k4':n.g 1%7=4
 ·have k4:(n.g 1%7==4)=true:=by simp[k4']
  by_cases fF:0<m.given.length
  ·have g1:decide ((0:Int)<(m.given.length:Int))=true:=decide_eq_true (by omega);have hS1:=hS fF;have hgi:∀ A,iF A 7 (n.g 8%(m.given.length:Int)) (enc m.given)=some (.ref (enc (c9 m (n.g 8%(m.given.length:Int)).toNat))):=fun A=>by
    have a1:=zw8 (n.g 8) (show (m.given.length:Int)≠0 by omega);have a2:=zv7 (n.g 8) (show (0:Int)<(m.given.length:Int) by omega);have a3:n.g 8%(m.given.length:Int)=((n.g 8%(m.given.length:Int)).toNat:Int):=(Int.toNat_of_nonneg a1).symm;have:=xS (A:=A) (m:=m) (i:=(n.g 8%(m.given.length:Int)).toNat) (by rw[a3] at a2;exact Int.ofNat_lt.1 a2)
    rwa [←a3] at this
   rcases cd:(n.g 7%7==1+n.g 4%6)
   all_goals
    have hraw:kF m picks h o.length i n=⟨⟨h,o.length⟩,n.g 1%7,n.g 2%30,n.g 3%40,1+n.g 4%6,if n.g 7%7=1+n.g 4%6 then 0 else n.g 7%7,1+n.g 5%2,1+n.g 6%12,r4 m (c9 m (n.g 8%(m.given.length:Int)).toNat).mark (qw picks i),⟨0,0⟩⟩:=by simp[kF,k4',uG,fF]
    have cd':=cd;simp only[beq_iff_eq,beq_eq_false_iff_ne,ne_eq] at cd';simp only[cd',if_true,if_false] at hraw;rw[hraw] at hsu;have R:=v6 @q1 (v6 @q2 (v6 @hwi (v6 @hwo (v6 @he (v6 @hR (v6 @c1 (v6 @cd (v6 @k1 (v6 @k4 (v6 @g1 (v6 @hgi (v6 @hin (v6 @hag (v6 @hng (v6 @hst (v6 @hup (v6 @hto (v6 @w6 (v6 @w2 (v6 @w12 (v6 @happ (v6 @hbs (v6 @pO (v6 @qC (v6 @qk (v6 @eO (v6 @qS (v6 @q0 (v6 @A4 (v6 @D7 (v6 @qR (v6 @cI (v6 @bd (v6 @aU @U))))))))))))))))))))))))))))))))))
    repeat' ((first |(with_reducible refine .guard (fun hb =>?_) (fun hb =>?_) <;>try simp only[hb])|refine J.aL (by decide +kernel) rfl fun K hK =>?_|refine .flat _ (gN _ _ (by first | decide | omega) (by first | decide | omega)) rfl ?_|refine .lead _ (sy _) ?_|refine .lead _ (hSh) ?_|refine .lead _ (hS1) ?_|(refine .aG [0,1,2,3,6,7,8,9,10,11,12,14,24,35,70,74,78,91,97] hK ?_;clear hK K)|(with_reducible refine .done (hK _ ?_);clear hK K)|refine J.of rfl ?_|(with_reducible refine ak.aK (fun h =>?_) (fun h =>?_) <;>try simp only[h])) <;>try simp only[aM,R,Nat.reduceEqDiff,reduceIte,Nat.reduceBEq])
    all_goals clear R
    refine ⟨i+1,by omega,by omega,?_⟩;rw[hsu,←zz5];refine aC.bI ?_ ?_ ?_ ?_ <;>simp[aT,bC,bB,a6,al,aV,cg,I.only,I.bT,ah.only,dy,fA,bh]
  ·have g1:decide ((0:Int)<(m.given.length:Int))=false:=decide_eq_false (by omega);rcases cd:(n.g 7%7==1+n.g 4%6)
   all_goals
    have hraw:kF m picks h o.length i n=⟨⟨h,o.length⟩,n.g 1%7,n.g 2%30,n.g 3%40,1+n.g 4%6,if n.g 7%7=1+n.g 4%6 then 0 else n.g 7%7,1+n.g 5%2,1+n.g 6%12,zr,⟨0,0⟩⟩:=by simp[kF,k4',uG,fF]
    have cd':=cd;simp only[beq_iff_eq,beq_eq_false_iff_ne,ne_eq] at cd';simp only[cd',if_true,if_false] at hraw;rw[hraw] at hsu;have R:=v6 @q1 (v6 @q2 (v6 @hwi (v6 @hwo (v6 @he (v6 @hR (v6 @c1 (v6 @cd (v6 @k1 (v6 @k4 (v6 @g1 (v6 @hin (v6 @hag (v6 @hng (v6 @hst (v6 @hup (v6 @hto (v6 @w6 (v6 @w2 (v6 @w12 (v6 @happ (v6 @hbs (v6 @pO (v6 @qC (v6 @qk (v6 @eO (v6 @qS (v6 @q0 (v6 @A4 (v6 @D7 (v6 @qR (v6 @cI (v6 @bd (v6 @aU @U)))))))))))))))))))))))))))))))))
    repeat' ((first |(with_reducible refine .guard (fun hb =>?_) (fun hb =>?_) <;>try simp only[hb])|refine J.aL (by decide +kernel) rfl fun K hK =>?_|refine .flat _ (gN _ _ (by first | decide | omega) (by first | decide | omega)) rfl ?_|refine .lead _ (sy _) ?_|(refine .aG [0,1,2,3,6,7,8,9,10,11,12,14,24,35,70,74,78,91,97] hK ?_;clear hK K)|(with_reducible refine .done (hK _ ?_);clear hK K)|refine J.of rfl ?_|(with_reducible refine ak.aK (fun h =>?_) (fun h =>?_) <;>try simp only[h])) <;>try simp only[aM,R,Nat.reduceEqDiff,reduceIte,Nat.reduceBEq])
    all_goals clear R
    refine ⟨i+1,by omega,by omega,?_⟩;rw[hsu,←zz5];refine aC.bI ?_ ?_ ?_ ?_ <;>simp[aT,bC,bB,a6,al,aV,cg,I.only,I.bT,ah.only,dy,fA,bh]
 ·have k4:(n.g 1%7==4)=false:=by simp[k4']
  rcases cd:(n.g 7%7==1+n.g 4%6)
  all_goals
   have hraw:kF m picks h o.length i n=⟨⟨h,o.length⟩,n.g 1%7,n.g 2%30,n.g 3%40,1+n.g 4%6,if n.g 7%7=1+n.g 4%6 then 0 else n.g 7%7,1+n.g 5%2,1+n.g 6%12,oq,⟨0,0⟩⟩:=by simp[kF,k0,k4']
   have cd':=cd;simp only[beq_iff_eq,beq_eq_false_iff_ne,ne_eq] at cd';simp only[cd',if_true,if_false] at hraw;rw[hraw] at hsu;have R:=v6 @q1 (v6 @q2 (v6 @hwi (v6 @hwo (v6 @he (v6 @hR (v6 @c1 (v6 @cd (v6 @k1 (v6 @k4 (v6 @hin (v6 @hag (v6 @hng (v6 @hst (v6 @hup (v6 @hto (v6 @w6 (v6 @w2 (v6 @w12 (v6 @happ (v6 @hbs (v6 @pO (v6 @qC (v6 @qk (v6 @qS (v6 @q0 (v6 @qR (v6 @bd (v6 @aU @U))))))))))))))))))))))))))))
   repeat' ((first |(with_reducible refine .guard (fun hb =>?_) (fun hb =>?_) <;>try simp only[hb])|refine J.aL (by decide +kernel) rfl fun K hK =>?_|refine .flat _ (gN _ _ (by first | decide | omega) (by first | decide | omega)) rfl ?_|refine .lead _ (sy _) ?_|(refine .aG [0,1,2,3,6,7,8,9,10,11,12,14,24,35,70,74,78,91,97] hK ?_;clear hK K)|(with_reducible refine .done (hK _ ?_);clear hK K)|refine J.of rfl ?_|(with_reducible refine ak.aK (fun h =>?_) (fun h =>?_) <;>try simp only[h])) <;>try simp only[aM,R,Nat.reduceEqDiff,reduceIte,Nat.reduceBEq])
   all_goals clear R
   refine ⟨i+1,by omega,by omega,?_⟩;rw[hsu,←zz5];refine aC.bI ?_ ?_ ?_ ?_ <;>simp[aT,bC,bB,a6,al,aV,cg,I.only,I.bT,ah.only,dy,fA,bh]
def vu:aD:=⟨0,0,0,0,0,0,0,false,[]⟩
def kM:I:=.agg [.int .i64 0,.int .i64 0,.int .i64 0,.int .i64 0,.int .i64 0,.int .i64 0,.int .i64 0,.bool false,.nils 6]
theorem sZ:I.agg [.int .i64 0,.int .i64 0,.int .i64 0,.int .i64 0,.int .i64 0,.int .i64 0,.int .i64 0,.bool false,.nils 6]=kM:=rfl
theorem uU:(∀ (A:ae) n w rest,dR A (some 9) n [] w kM rest (some kM)=aE rest (A.aS n (.box kM)))∧(∀ (A:ae) n w (b:aD) rest,dR A (some 9) n [] w (enc b) rest (some kM)=aE rest (A.aS n (.box (enc b)))) ∧
  (∀ aA A,bl aA A kM=some (enc vu))∧b8 (some 9) kM=true∧((dZ [.int .i64 0,.int .i64 0,.int .i64 0,.int .i64 0,.int .i64 0,.int .i64 0,.int .i64 0,.bool false,.nils 6] []).map .agg=some kM)∧(kM.cm=true) :=
 ⟨fun A n w rest=>by rw[ez (s:=some 9) (v:=kM) (old:=kM) rfl rfl rfl,fI],fun A n w b rest=>amS,fun aA A=>by simp[kM,bl,ca];rfl,rfl,rfl,rfl⟩
def oE(l:List aq)(no known:Int):aD×Int:=if eK l [ee no 9999] [known]=0 then (match cw (cu l 100000 known) no with
 |none=>(vu,42)
 |some b=>(b,0)) else (vu,eK l [ee no 9999] [known])
abbrev oy(l:List aq):Prop:=l.Pairwise fun a b=>before a.bF b.bF=true
theorem uJ{l:List aq}(h:oy l){i j:Nat}(hij:i<j)(hj:j<l.length):before (ab l i).bF (ab l j).bF=true:=by
 rw[←iS hj,←iS (show i<l.length by omega)];exact List.pairwise_iff_getElem.1 h i j (by omega) hj hij
theorem rM{l:List aq}(h:dQ l=true):oy l:=(ub.1 h).2.2
theorem yT{l:List aq}{a:Item}{i:Nat}(hi:i≤l.length)(h1:∀ k,k<i→before (ab l k).bF a=true)(h2:i<l.length→before (ab l i).bF a=false):gC l a=i:=by
 simp only[gC];by_cases hlt:i<l.length
 ·refine (List.findIdx_eq hlt).2 ⟨by rw[iS hlt,h2 hlt];rfl,fun j hj =>?_⟩;rw[iS (by omega),h1 j hj];rfl
 ·have e:i=l.length:=by omega
  rw[e];refine List.findIdx_eq_length.2 fun x hx =>?_;obtain ⟨k,hk,rfl⟩:=List.getElem_of_mem hx;rw[iS hk,h1 k (by omega)];rfl
theorem xG{l:List aq}(hs:oy l)(a:Item):l6 l a=(decide (gC l a<l.length)&&decide ((ab l (gC l a)).bF=a)):=by
 rw[Bool.eq_iff_iff,zz2,decide_eq_true_eq,decide_eq_true_eq];constructor
 ·intro h;simp only[l6,List.any_eq_true,decide_eq_true_eq] at h;obtain ⟨x,hx,rfl⟩:=h;obtain ⟨k,hk,rfl⟩:=List.getElem_of_mem hx;rw[iS hk];have h1:gC l (ab l k).bF=k:=yT (by omega) (fun j hj=>uJ hs hj hk) (fun _=>AW _);rw[h1];exact ⟨hk,rfl⟩
 ·rintro ⟨h1,h2⟩;exact xF h1 h2
theorem Aa(x:aq)(a:Item):ay Tryz.prog 143 [enc x,enc a] (enc (lN x.bF a)):=by
 refine ay.bn Tryz.func143 Ta U5 Xh (t7 rfl) (fun hwf W0 D0 E1 =>?_);simp only[BC,Nf,bg,zz4];have R:=v6 @aU @U
 repeat' ((first |(with_reducible refine .guard (fun hb =>?_) (fun hb =>?_) <;>try simp only[hb])|refine J.aL (by decide +kernel) rfl fun K hK =>?_|refine .flat _ (u0 _ _) rfl ?_|(refine .aG [0,1,2,3,4] hK ?_;clear hK K)|(with_reducible refine .done (hK _ ?_);clear hK K)|refine J.of rfl ?_|(with_reducible refine ak.aK (fun h =>?_) (fun h =>?_) <;>try simp only[h])) <;>try simp only[aM,R,Nat.reduceEqDiff,reduceIte,Nat.reduceBEq])
 all_goals clear R
theorem Qp(l:List aq)(a:Item)(hs:oy l)(hl:l.length≤1000):ay Tryz.prog 142 [enc l,enc a,.func 143 []] (.tuple [enc (gC l a:Int),enc (l6 l a)]):=by
 refine ay.bn Tryz.func142 S9 U4 Xg (t7 rfl) (fun hwf W0 D0 E1 =>?_);simp only[BB,Nd,bg,zz4,Nat.reduceAdd];clear hwf;have R:=v6 @gv (v6 @bd (v6 @aU @U))
 repeat' ((first |(with_reducible refine .guard (fun hb =>?_) (fun hb =>?_) <;>try simp only[hb])|refine J.aL (by decide +kernel) rfl fun K hK =>?_|(refine .aG [0,1,2,4,6,7,8,9,10,11,17,31] hK ?_;clear hK K)|(with_reducible refine .done (hK _ ?_);clear hK K)|refine J.of rfl ?_|(with_reducible refine ak.aK (fun h =>?_) (fun h =>?_) <;>try simp only[h])) <;>try simp only[aM,R,Nat.reduceEqDiff,reduceIte,Nat.reduceBEq])
 all_goals clear R
 refine J.loop (fun s:Nat×Nat=>au [(0,enc l),(2,.func 143 []),(4,.ptr 4 []),(8,.int .i64 l.length),(9,.int .i64 s.1),(10,.int .i64 s.2)] [(4,.box (enc a))]) (fun s=>s.1≤s.2∧s.2≤l.length∧(∀ k,k<s.1→before (ab l k).bF a=true)∧∀ k,s.2≤k→k<l.length→before (ab l k).bF a=false) (fun s=>s.2-s.1) (0,l.length) ⟨zw7 _,zz7 _,fun k hk=>by omega,fun k h1 h2=>by omega⟩ ?_ ?_
 ·refine aC.bI ?_ ?_ ?_ ?_ <;>simp[aT,bC,bB,a6,al,aV,cg,I.only,I.bT,ah.only,bh]
 rintro ⟨i,j⟩ ⟨h1,h2,h3,h4⟩;simp only at h1 h2 h3 h4 ⊢;by_cases hlt:i<j
 ·have hc:=fO hlt;have w1:=km i j (by omega);have w2:=m7 (x:=i+j) (by omega);obtain ⟨h,hh⟩:∃ h,h=(i+j) / 2:=⟨_,rfl⟩
  have w5:=sj (n:=h) (by omega);have hhl:h<l.length:=by omega
  have he:=fun A=>kZ (A:=A) hhl;have hn:=Dt (ab l h).bF a;have hw:=eB (i:=h) (by omega);rcases hb:before (ab l h).bF a
  all_goals
   rw[hb] at hn;have R:=v6 @hc (v6 @w1 (v6 @w2 (v6 @w5 (v6 @he (v6 @hn (v6 @hw (v6 @nY (v6 @nX (v6 @gv (v6 @dG (v6 @bd (v6 @aU @U))))))))))))
   repeat' ((first |(with_reducible refine .guard (fun hb =>?_) (fun hb =>?_) <;>try simp only[hb])|refine J.aL (by decide +kernel) rfl fun K hK =>?_|refine .flat _ (Aa _ _) rfl ?_|(refine .aG [0,1,2,4,6,7,8,9,10,11,17,31] hK ?_;clear hK K)|(with_reducible refine .done (hK _ ?_);clear hK K)|refine J.of rfl ?_|(with_reducible refine ak.aK (fun h =>?_) (fun h =>?_) <;>try simp only[h])) <;>try simp only[aM,R,←hh,zy0,Nat.reduceEqDiff,reduceIte,Nat.reduceBEq])
   all_goals clear R
  ·refine ⟨(i,h),⟨by simp only;omega,by simp only;omega,h3,fun k hk hkl =>?_⟩,by simp only;omega,?_⟩
   ·simp only at hk;cases hbk:before (ab l k).bF a with
    |false=>rfl
    |true =>
     by_cases e:k=h
     ·rw[e,hb] at hbk;cases hbk
     ·have:=vr (uJ hs (show h<k by omega) hkl) hbk;rw[this] at hb;cases hb
   ·refine aC.bI ?_ ?_ ?_ ?_ <;>simp[aT,bC,bB,a6,al,aV,cg,I.only,I.bT,ah.only,bh]
  ·refine ⟨(h+1,j),⟨by simp only;omega,h2,fun k hk =>?_,h4⟩,by simp only;omega,?_⟩
   ·simp only at hk;by_cases e:k=h
    ·rw[e];exact hb
    ·cases hbk:before (ab l k).bF a with
     |true=>rfl
     |false =>
      have:=vr (uJ hs (show k<h by omega) hhl) hb;rw[this] at hbk;cases hbk
   ·refine aC.bI ?_ ?_ ?_ ?_ <;>simp[aT,bC,bB,a6,al,aV,cg,I.only,I.bT,ah.only,bh]
 ·have hij:i=j:=by omega
  subst hij;have hc:=gi hlt;have hp:gC l a=i:=yT h2 h3 fun h=>h4 i (zz7 _) h;have hh:=xG hs a;rw[hp] at hh;rw[hp,hh];by_cases hil:i<l.length
  ·have hc2:=fO hil;have he:=fun A=>kZ (A:=A) hil;have hz:=WG (ab l i).bF a;have hd:decide (i<l.length)=true:=decide_eq_true hil;have R:=v6 @hc (v6 @hc2 (v6 @he (v6 @hz (v6 @hd (v6 @gv (v6 @dG (v6 @bd (v6 @aU @U))))))))
   repeat' ((first |(with_reducible refine .guard (fun hb =>?_) (fun hb =>?_) <;>try simp only[hb])|refine J.aL (by decide +kernel) rfl fun K hK =>?_|refine .flat _ (Aa _ _) rfl ?_|(refine .aG [0,1,2,4,6,7,8,9,10,11,17,31] hK ?_;clear hK K)|(with_reducible refine .done (hK _ ?_);clear hK K)|refine J.of rfl ?_|(with_reducible refine ak.aK (fun h =>?_) (fun h =>?_) <;>try simp only[h])) <;>try simp only[aM,R,zy0,Nat.reduceEqDiff,reduceIte,Nat.reduceBEq])
   all_goals clear R
   all_goals simp
  ·have hc2:=gi hil;have hd:decide (i<l.length)=false:=decide_eq_false hil;have R:=v6 @hc (v6 @hc2 (v6 @hd (v6 @gv (v6 @bd (v6 @aU @U)))))
   repeat' ((first |(with_reducible refine .guard (fun hb =>?_) (fun hb =>?_) <;>try simp only[hb])|refine J.aL (by decide +kernel) rfl fun K hK =>?_|(refine .aG [0,1,2,4,6,7,8,9,10,11,17,31] hK ?_;clear hK K)|(with_reducible refine .done (hK _ ?_);clear hK K)|refine J.of rfl ?_|(with_reducible refine ak.aK (fun h =>?_) (fun h =>?_) <;>try simp only[h])) <;>try simp only[aM,R,Nat.reduceEqDiff,reduceIte,Nat.reduceBEq])
   all_goals clear R
   all_goals rfl
theorem zX(l:List aq)(a:Item)(hs:oy l)(hl:l.length≤1000):ay Tryz.prog 103 [enc l,enc a] (.tuple [enc (gC l a:Int),enc (l6 l a)]):=by
 have hF:=Qp l a hs hl;refine ay.bn Tryz.func103 SI UD WN (t7 rfl) (fun hwf W0 D0 E1 =>?_);simp only[Ba,ML,bg,zz4];clear hwf;have R:=v6 @gv (v6 @bd (v6 @aU @U))
 repeat' ((first |(with_reducible refine .guard (fun hb =>?_) (fun hb =>?_) <;>try simp only[hb])|refine J.aL (by decide +kernel) rfl fun K hK =>?_|refine .lead _ (hF) ?_|(refine .aG [0,1,3,4,5] hK ?_;clear hK K)|(with_reducible refine .done (hK _ ?_);clear hK K)|refine J.of rfl ?_|(with_reducible refine ak.aK (fun h =>?_) (fun h =>?_) <;>try simp only[h])) <;>try simp only[aM,R,Nat.reduceEqDiff,reduceIte,Nat.reduceBEq])
 all_goals clear R
def sg(l:List aq)(a:Item):List aq×Int:=if dQ l then (if l6 l a then (da l (gC l a),0) else ([],3)) else ([],41)
theorem Ra(l:List aq)(a:Item):ay Tryz.prog 38 [enc l,enc a] (.tuple [enc (sg l a).1,enc (sg l a).2]):=by
 have hF:=Au l;refine ay.bn Tryz.func38 T5 V0 Yc (t7 rfl) (fun hwf W0 D0 E1 =>?_);simp only[Cz,Od,bg,zz4];clear hwf;simp only[sg];rcases q1:dQ l
 ·rw[q1,if_neg (by decide)] at hF;have R:=v6 @aU @U
  repeat' ((first |(with_reducible refine .guard (fun hb =>?_) (fun hb =>?_) <;>try simp only[hb])|refine J.aL (by decide +kernel) rfl fun K hK =>?_|refine .flat _ (hF) rfl ?_|(refine .aG [0,1,3,4,5,6,7,8,12,21] hK ?_;clear hK K)|(with_reducible refine .done (hK _ ?_);clear hK K)|refine J.of rfl ?_|(with_reducible refine ak.aK (fun h =>?_) (fun h =>?_) <;>try simp only[h])) <;>try simp only[aM,R,Nat.reduceEqDiff,reduceIte,Int.reduceBNe,Nat.reduceBEq])
  all_goals clear R
  all_goals rfl
 rw[q1,if_pos rfl] at hF;have hll:=n9 q1;have hG:=zX l a (rM q1) (by omega);have hh:=xG (rM q1) a;rcases q2:l6 l a
 ·rw[q2] at hG;have R:=v6 @aU @U
  repeat' ((first |(with_reducible refine .guard (fun hb =>?_) (fun hb =>?_) <;>try simp only[hb])|refine J.aL (by decide +kernel) rfl fun K hK =>?_|refine .flat _ (hF) rfl ?_|refine .lead _ (hG) ?_|(refine .aG [0,1,3,4,5,6,7,8,12,21] hK ?_;clear hK K)|(with_reducible refine .done (hK _ ?_);clear hK K)|refine J.of rfl ?_|(with_reducible refine ak.aK (fun h =>?_) (fun h =>?_) <;>try simp only[h])) <;>try simp only[aM,R,Nat.reduceEqDiff,reduceIte,Int.reduceBNe,Nat.reduceBEq])
  all_goals clear R
  all_goals rfl
 ·rw[q2] at hG hh;have hp:gC l a<l.length:=by
   by_cases h:gC l a<l.length
   ·exact h
   ·simp[h] at hh
  have hD:=vc l (gC l a) hp hll;have R:=v6 @aU @U
  repeat' ((first |(with_reducible refine .guard (fun hb =>?_) (fun hb =>?_) <;>try simp only[hb])|refine J.aL (by decide +kernel) rfl fun K hK =>?_|refine .flat _ (hF) rfl ?_|refine .lead _ (hG) ?_|refine .lead _ (hD) ?_|(refine .aG [0,1,3,4,5,6,7,8,12,21] hK ?_;clear hK K)|(with_reducible refine .done (hK _ ?_);clear hK K)|refine J.of rfl ?_|(with_reducible refine ak.aK (fun h =>?_) (fun h =>?_) <;>try simp only[h])) <;>try simp only[aM,R,Nat.reduceEqDiff,reduceIte,Int.reduceBNe,Nat.reduceBEq])
  all_goals clear R
end Go.Proofs.YtcldiigclhgafaaGreat
