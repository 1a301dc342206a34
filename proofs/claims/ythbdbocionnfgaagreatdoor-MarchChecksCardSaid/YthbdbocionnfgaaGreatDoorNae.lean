/-
  A part of the proof that the law MarchChecks returns true for every input; three tables of Go's library start as the text lays them (the card ties them); conditions: none beyond the statement's own. (part 5 of 6)
-/
import Derived.Shelf.Strconv.Itoa3
import Derived.Lib.ItoaLen
import Derived.Test.YthbdbocionnfgaaGreatDoorNad
set_option linter.unusedSimpArgs false
set_option linter.unusedVariables false
set_option maxHeartbeats 16000000
set_option maxRecDepth 100000
namespace Go.Proofs.YthbdbocionnfgaaGreatDoor
open Go Go.Abs
open Go.Abs.Enc (enc)
theorem Ar(n:Nat)(ts:List (Nat×I)):∀ t,Abs.bU (lu [n] ts) t=if (Abs.bU ts t).only (fun j => ![n].contains j)=true then Abs.bU ts t else .df:=by
 intro t;simp only[lu]
 induction ts with
 |nil=>simp[Abs.bU]
 |cons q ts ih =>
  obtain ⟨k,v⟩:=q;simp only[Z3,Abs.bU];split
  ·rfl
  ·exact ih
theorem tN{p q:Nat→Bool}(h:∀ n,p n=true→q n=true){y:aq}(hy:y.only p=true):y.only q=true:=by
 cases y with
 |box x=>exact iz h _ hy
 |bW T sz es=>exact hX h _ hy
 |dA o=>rfl
 |dC T xs=>rfl
 |bp ks vs=>simp only[aq.only,t8] at hy ⊢;exact ⟨hX h _ hy.1,hX h _ hy.2⟩
 |it ks vs l c=>simp only[aq.only,t8] at hy ⊢;exact ⟨hX h _ hy.1,hX h _ hy.2⟩
theorem Ch{n k:Nat} : ∀ {ts:List (Nat×I)},(∀ q∈ts,qH n k q.2)→∀ t,qH n k (Abs.bU ts t)
 | [],_,_=>.inr rfl
 |(a,v)::ts,h,t=>by
  simp only[Abs.bU];split
  ·exact h (a,v) (by simp)
  ·exact Ch (fun q hq=>h q (by simp[hq])) t
theorem sW{p:Nat→Bool}{n k:Nat}(hp:p=fun j => ![n].contains j)(f:aq→aq)(hf:∀ y:aq,y.only p=true→f y=y):∀ {os:List (Nat×aq)},cV p (eF [n] os)→cV p (eF [n] (os.map fun q=>(q.1,f q.2)))
 | [],_=>trivial
 |(m,y)::os,h=>by
  simp only[Z3,eF,List.filter_cons] at h ⊢;split
  ·rename_i hm;rw[if_pos hm] at h;refine ⟨?_,sW (k:=k) hp f hf h.2⟩;rw[hf y h.1];exact h.1
  ·rename_i hm;rw[if_neg hm] at h;exact sW (k:=k) hp f hf h
theorem LU{ys q:List Int}{k:Nat}(hk:ys.length=k):lv 1 0 k (some ((ys++q).map enc))=some (enc ys):=by
 have h:(((ys++q).map (enc (α:=Int))).drop 0).take k=ys.map enc:=by
  rw[List.drop_zero,Y3,List.take_append_of_le_length (by simp[hk]),List.take_of_length_le (by simp[hk])]
 simp only[lv,h];rw[if_pos (ij ys),gT];rfl
theorem EF{n k:Nat} : ∀ y:aq,y.only (fun j => ![n].contains j)=true→jr (iJ n k) y=y:=fun y hy=>by
 cases y <;>try rfl
 simp only[aq.only] at hy;simp only[jr,tF (iz (fun j hj=>by simpa using hj) _ hy)]
theorem ED{n:Nat} : ∀ y:aq,y.only (fun j => ![n].contains j)=true→jr (iI n) y=y:=fun y hy=>by
 cases y <;>try rfl
 simp only[aq.only] at hy;simp only[jr,EE (iz (fun j hj=>by simpa using hj) _ hy)]
theorem EC{ts ts':List (Nat×I)}(h:∀ q∈ts',Abs.bU ts q.1=q.2):cF ts ts':=by
 induction ts' with
 |nil=>trivial
 |cons q ts' ih=>exact ⟨h q (by simp),ih fun q hq=>h q (by simp[hq])⟩
theorem ae.W9{W0:World}{bI:aP}{nn:Nat}{ow:Nat→Prop}{E1:aY}{Y:Value→List I→List (Nat×aq)→cA→Prop}{kN:Option Nat}{ba:Option (List Deferred)}{y:br}{Q:Exit→ai→Prop}{ts:List (Nat×I)}{os:List (Nat×aq)}{a b d n:Nat}{xs:List Int}
  (af:Abs.bU ts d=.own n xs.length) (hn:aj os n=some (.dC 3 xs)) (hlt:n<1000000) (ao:xs.length≤1000) (ht:∀ t,qH n xs.length (Abs.bU ts t)) (ho:cV (fun j => ![n].contains j) (eF [n] os))
  (ts':List (Nat×I)) (J:∀ q∈ts',q.1≠a∧q.1≠b∧Abs.bU ts q.1=q.2∧q.2.only (fun j=>j != n)=true)
  (hda:d≠a) (hdb:d≠b)
  (h:ae ⟨Tryz.prog,W0,bI,nn,ow,E1,Y,kN,ba⟩ y Q (au ((d,enc (cj xs))::ts') (eF [n] os))) :
  ae ⟨Tryz.prog,W0,bI,nn,ow,E1,Y,kN,ba⟩ (.seq (.cg none [⟨some a,.mv (.t d),none⟩,⟨some b,.call 89 [.t a],none⟩]) y) Q (au ts os):=by
 have hdrop:∀ m,aj (eF [n] os) m=if m=n then none else aj os m:=fun m=>by
  have:=nw [n] os m;simpa using this
 have ho':∀ m y,aj os m=some y→m≠n→y.only (fun j=>j != n)=true:=fun m y hy hm=>by
  have:=wy ho m y (by rw[hdrop,if_neg hm];exact hy);exact tN (fun j hj=>by simpa using hj) this
 by_cases hx:xs=[]
 ·subst hx;refine ae.sub (bC.Xq hn (bC.refl _)) ?_;refine ae.seq (ae.cg (cl:=[]) (by rfl) fun K hK =>?_);have hd':Abs.bU (ts.map fun q=>(q.1,iI n q.2)) d=.nils 1:=by
   rw[oU _ rfl,af];simp[iI]
  simp only[bE,simprocAttr,hd'];refine .flat _ (FY _ (.inr rfl)) rfl ?_
  try simp only[bE,simprocAttr]
  refine .done (hK _ ?_);clear hK K;refine ae.sub ((bC.jy [n] d (x:=.nils 1) (y:=enc ([]:List Int)) ?_ (by rfl) ?_).trans (bC.slots ?_ fun m =>?_)) h
  ·simp only[Abs.bU,hda,hdb,if_false];exact hd'
  ·exact sW (k:=0) rfl (jr (iI n)) ED ho
  ·refine ⟨by simp[Abs.bU,cj],EC fun q hq =>?_⟩;obtain ⟨k1,k2,k3,k4⟩:=J q hq;have hqd:q.1≠d:=fun e=>by
    rw[e,af] at k3;rw[←k3] at k4;simp[I.only] at k4
   have h5:Abs.bU (ts.map fun p=>(p.1,iI n p.2)) q.1=q.2:=by
    rw[oU _ rfl,k3,EE k4]
   simp only[Abs.bU,Ar,k1,k2,hqd,if_false,h5];rw[if_pos (iz (fun j hj=>by simpa using hj) _ k4)]
  ·rw[hdrop,nw,sJ];by_cases hm:m=n
   ·simp[hm]
   ·cases h6:aj os m with
    |none=>simp[hm]
    |some y =>
     have h7:jr (iI n) y=y:=ED _ (tN (fun j hj=>by simpa using hj) (ho' _ _ h6 hm));simp[hm,h7]
 ·refine ae.Xp hn hx hlt ht (fun m y hy hm=>.inr (ho' m y hy hm)) fun q =>?_;refine ae.seq (ae.cg (cl:=[]) (by rfl) fun K hK =>?_);have hd':Abs.bU (ts.map fun p=>(p.1,iJ n xs.length p.2)) d=.view n [] 1 0 xs.length:=by
   rw[oU _ rfl,af];simp[iJ]
  simp only[bE,simprocAttr,hd'];refine .bN false [(1000000,n)] (jM 1000000 (xs++List.replicate q 0)) [.view 1000000 [] 1 0 xs.length] _ rfl (FX xs _ (by omega)) ?_ ?_ ?_ ?_
  ·refine ⟨fun m y hy =>?_,fun m m' h h' _=>by rw[mh.1 h,mh.1 h']⟩;simp only[jM,aj] at hy;split at hy
   ·rename_i hm;cases hy;subst hm;exact ⟨by simp only[bF,if_true,aj,aq.bl,I.bl,tl],BR _ _,rfl⟩
   ·cases hy
  ·exact ⟨.inl ⟨by simp[I.bl,bF],mh.2 rfl,rfl⟩,trivial⟩
  ·rintro rr os2 ⟨rfl,rfl⟩;refine ⟨fun m y hy =>?_,fun m m' h h' _=>by rw[mh.1 h,mh.1 h'],fun m hm=>by rw[mh.1 hm];exact mh.2 rfl,fun m a b=>by rw[mh.1 a] at b;simp[jM,av,aj] at b,rfl,fun _=>rfl⟩;simp only[jM,aj] at hy;split at hy
   ·cases hy;exact ⟨BR _ _,rfl,fun h=>by cases h⟩
   ·cases hy
  ·rintro rr os2 ⟨rfl,rfl⟩
   try simp only[jM,dv,Z3,X7,aq.bl,I.bl,tl,bF,reduceIte,Z9,List.nil_append,I.dO,bE,simprocAttr]
   refine .done (hK _ ?_);clear hK K;refine ae.sub ((bC.jy [n] d (x:=.view n [] 1 0 xs.length) (y:=enc (cj xs)) ?_ ?_ ?_).trans (bC.slots ?_ fun m =>?_)) h
   ·simp only[Abs.bU,hda,hdb,if_false];exact hd'
   ·have:aj (ml [n] ((n,aq.box (I.agg ((cj xs++List.replicate q 0).map enc)))::(n,aq.box (I.agg ((xs++List.replicate q 0).map enc)))::os.map fun p=>(p.1,jr (iJ n xs.length) p.2))) n=some (.box (.agg ((cj xs++List.replicate q 0).map enc))):=by
     rw[oS];simp[aj]
    try simp only[this,bE,simprocAttr]
    exact LU (by simp[cj])
   ·have:=sW (k:=0) rfl (jr (iJ n xs.length)) EF ho;simpa[eF] using this
   ·refine ⟨by simp[Abs.bU],EC fun q hq =>?_⟩;obtain ⟨k1,k2,k3,k4⟩:=J q hq;have hqd:q.1≠d:=fun e=>by
     rw[e,af] at k3;rw[←k3] at k4;simp[I.only] at k4
    have h5:Abs.bU (ts.map fun p=>(p.1,iJ n xs.length p.2)) q.1=q.2:=by
     rw[oU _ rfl,k3,tF k4]
    simp only[Abs.bU,Ar,k1,k2,hqd,if_false,h5];rw[if_pos (iz (fun j hj=>by simpa using hj) _ k4)]
   ·rw[hdrop,nw];by_cases hm:m=n
    ·simp[hm]
    ·simp only[aj,if_neg hm,sJ];cases h6:aj os m with
     |none=>simp[hm]
     |some y =>
      have h7:jr (iJ n xs.length) y=y:=EF _ (tN (fun j hj=>by simpa using hj) (ho' _ _ h6 hm));simp[hm,h7]
def iA(ks:List Int)(aA:List Nat):List Int:=aA.map fun i=>ks.getD i 0
theorem V0(ks:List Int)(aA:List Nat)(i:Nat):iA ks (aA++[i])=iA ks aA++[ks.getD i 0]:=by simp[iA]
theorem VZ(ks:List Int)(aA:List Nat):(iA ks aA).length=aA.length:=by simp[iA]
theorem VY{ks:List Int}{aA:List Nat}(h:aA.Perm (List.range ks.length)):(iA ks aA).Perm ks:=by
 have e:(List.range ks.length).map (fun i=>ks.getD i 0)=ks:=by
  refine List.ext_getElem (by simp) fun i J U =>?_;simp[Z0,U]
 simp only[iA];have:=h.map fun i=>ks.getD i 0
 rwa [e] at this
theorem W8{xs ys:List Int}(h:xs.Perm ys):cj xs=cj ys:=by
 unfold cj;have hx:=List.pairwise_mergeSort (le:=fun x y:Int=>decide (x≤y)) (by intro a b c;simp;omega) (by intro a b;simp;omega) xs;have hy:=List.pairwise_mergeSort (le:=fun x y:Int=>decide (x≤y)) (by intro a b c;simp;omega) (by intro a b;simp;omega) ys;refine List.Perm.eq_of_pairwise (fun a b _ _ h k =>?_) hx hy ((List.mergeSort_perm _ _).trans (h.trans (List.mergeSort_perm _ _).symm));simp only[decide_eq_true_eq] at h k;omega
theorem Cm(p:Nat→Bool)(f:Nat→da):∀ l:List Nat,I.cn p (l.map fun i=>.ref (enc (f i)))=true
 | []=>rfl
 |i::l=>by simp[I.cn,I.only,cI,Cm p f l]
def xU(s:aB)(t:List Nat×List Nat×Option Nat):ai :=
 au [(3,.own 905 (iA s.bA t.1).length),(9,.db 9)] [(9,.it (s.bA.map enc) (s.aQ.map fun i=>.ref (enc (s.b8 i))) t.2.1 t.2.2),(905,.dC 3 (iA s.bA t.1))]
theorem xK(s:aB)(ao:s.aQ.length≤1000):bf Tryz.prog 85 [dx s] (enc (cj s.bA)):=by
 refine bf.b7 Tryz.func85 H5 I5 Ki (u8 rfl) (fun hwf W0 bI E1 =>?_);simp only[zd,DH,bK];clear hwf;have hlen:s.bA.length=s.aQ.length:=by simp[aB.bA]
 refine .gl (by decide +kernel) fun K hK =>?_;simp only[AW,bE,simprocAttr];refine .done (hK _ ?_);clear hK K;refine .gl (by decide +kernel) fun K hK =>?_;simp only[AX,bE,simprocAttr];refine .done (hK _ ?_);clear hK K;refine ae.seq (ae.seq ?_);refine .j4 (by decide +kernel) fun K hK =>?_;simp only[AY,bE,simprocAttr]
 try simp only[ez,jl,bt,mq,bE,simprocAttr]
 refine .done (hK _ ?_);clear hK K;try simp only[ej]
 refine ae.block (ae.loop (xU s) (fun t=>(t.1++t.2.1).Perm (List.range s.bA.length)) (fun t=>t.2.1.length) ([],List.range s.bA.length,none) (by simp) ?_ ?_)
 ·refine bC.Gf 3 905 3 1 rfl rfl ?_;refine bC.slots ?_ (fun n =>?_)
  ·simp[cF,cD,iA]
  ·simp only[iA,X7,eg,qx,Z8,hlen]
   (repeat' split) <;>simp_all
 rintro ⟨aA,left,cur⟩ hC;simp only at hC;have hdl:aA.length+left.length=s.bA.length:=by simpa using hC.length_eq
 have hpl:=VZ s.bA aA;simp only[xU];by_cases hn:left=[]
 ·subst hn;refine .gl (by decide +kernel) fun K hK =>?_;simp only[vA,bE,simprocAttr]
  try simp only[mq,Ca,bE,simprocAttr]
  refine .done (hK _ ?_);clear hK K;refine ae.seq ?_;refine ae.jB ?_;simp only[aD,bE,simprocAttr];refine ⟨fun h =>?_,fun h =>?_⟩
  case refine_1=>cases h
  refine ae.exit ?_;try simp only[ej,jw,simprocAttr]
  have hdn:(iA s.bA aA).Perm s.bA:=VY (by simpa using hC);rw[←W8 hdn];generalize iA s.bA aA=xs at hpl;refine ae.W9 (a:=18) (b:=19) (d:=3) (n:=905) (xs:=xs) rfl rfl (by decide) (by omega) (Ch (by simp[qH,I.only,I.cn])) (by simp only[eF,List.filter_cons,List.filter_nil,List.contains_cons];simp[cV,aq.only,hU,Cm,-List.map_map]) [] (by simp) (by decide) (by decide) ?_;have R:=aG
  repeat' ((first |refine ae.aJ (by decide +kernel) rfl fun K hK =>?_|(refine .aA [0,2,3,4,9,11] hK ?_;clear hK K)|(with_reducible refine .done (hK _ ?_);clear hK K)|refine ae.of rfl ?_|(with_reducible refine aD.aI (fun h =>?_) (fun h =>?_) <;>try simp only[h])) <;>try simp only[aK,R,simprocAttr])
  all_goals clear R
 ·refine .gl (by decide +kernel) fun K hK =>?_;simp only[vA,bE,simprocAttr]
  try simp only[mq,bE,simprocAttr]
  refine aR.hP hn fun i hi =>?_;have hib:i<s.bA.length:=zz4.1 (hC.mem_iff.1 (by simp[hi]));have hib2:i<s.aQ.length:=by omega
  obtain ⟨hm,hC2⟩:=BF hC hi;have hk1:(s.bA.map (enc (α:=Int)))[i]?=some (enc s.bA[i]):=by simp[hib]
  have hk2:(s.aQ.map fun i=>I.ref (enc (s.b8 i)))[i]?=some (.ref (enc (s.b8 s.aQ[i]))):=by simp[hib2]
  refine ⟨_,_,hk1,hk2,?_⟩;have hent:mc (s.bA.map enc) (s.aQ.map fun i=>I.ref (enc (s.b8 i))) (some i)=some (.tuple [enc s.bA[i],.ref (enc (s.b8 s.aQ[i]))]):=by
   simp only[mc,hk1,hk2]
  have hx:s.bA.getD i 0=s.bA[i]:=by simp[Z0,hib]
  have hsn:=V0 s.bA aA i;rw[hx] at hsn;have hbs:fu 1 (some [.int .i64 s.bA[i]])=some (enc [s.bA[i]]):=jb 1 s.bA[i] rfl;have hap:=fun (A:ai) d rest=>Gr (A:=A) (d:=d) (e:=3) (bytes:=8) (n:=905) (l:=(iA s.bA aA).length) (xs:=iA s.bA aA) (y:=s.bA[i]) (rest:=rest) rfl (by simp[maxLen];omega) (by omega)
  try simp only[bE,simprocAttr]
  refine .done (hK _ ?_);clear hK K;refine ae.seq ?_;refine ae.jB ?_;simp only[aD,bE,simprocAttr];refine ⟨fun h =>?_,fun h =>?_⟩
  case refine_2=>cases h
  refine ae.skip ?_;try simp only[ej,simprocAttr]
  refine ae.block ?_;have R:=y6 @hent (y6 @hbs (y6 @hap aG))
  repeat' ((first |refine ae.aJ (by decide +kernel) rfl fun K hK =>?_|(refine .aA [0,2,3,4,9,11] hK ?_;clear hK K)|(with_reducible refine .done (hK _ ?_);clear hK K)|refine ae.of rfl ?_|(with_reducible refine aD.aI (fun h =>?_) (fun h =>?_) <;>try simp only[h])) <;>try simp only[aK,R,simprocAttr])
  all_goals clear R
  refine ⟨(aA++[i],left.filter (· != i),some i),hC2,hm,?_⟩;simp only[hsn];refine bC.slots ?_ (fun n =>?_)
  ·simp[cF,cD]
  ·simp only[eg,qx];(repeat' split) <;>simp_all
theorem WO:(∀ A d rest l,tq A d rest (jz l)=az rest ((A.aV d (.it (l.map enc) (List.replicate l.length (.bool true)) (List.range (l.map (enc (α:=Int))).length) none)).put d (.db d))):=fun _ _ _ _=>rfl
def mF(s:aB):List da:=(cj s.bA).map fun n=>s.b8 (n.toNat-1)
def tn(p:bP):List da×Int:=match du p with
 |none=>([],91)
 |some s=>(mF s,0)
theorem GD{s:aB}{n:Int}(h:n∈s.bA):∃ j,s.at n=some j∧n=(j:Int)+1∧j∈s.aQ:=by
 obtain ⟨j,hj,rfl⟩:=X1.1 h;have ab:(s.at ((j:Int)+1)).isSome=true:=by
  simp only[aB.at,List.find?_isSome];exact ⟨j,hj,by simp⟩
 obtain ⟨k,hk⟩:=Y8.1 ab;obtain ⟨J,U⟩:=iY hk;exact ⟨k,hk,U,J⟩
theorem W7{l:List Int}{n:Int} : n∈cj l↔n∈l:=by simp[cj]
theorem w4:∀ {l:List bg} {s s':aB},fR s l=some s'→s'.aQ.length≤s.aQ.length+l.length
 | [],s,s',h=>by cases h;simp
 |x::l,s,s',h=>by
  simp only[fR] at h;cases hx:gp s x with
  |none=>rw[hx] at h;cases h
  |some s2 =>
   rw[hx] at h;have J:=w4 h;have he:∀ b,(s.aQ.erase b).length≤s.aQ.length:=fun b=>List.length_erase_le;have U:s2.aQ.length≤s.aQ.length+1:=by
    simp only[gp] at hx;split at hx
    ·simp only[eL] at hx
     (repeat' split at hx) <;>first
      |(cases hx;done)
      |(cases hx;exact zz9 (he _) (Nat.le_succ _))
      |(cases hx;exact Nat.le_succ _)
      |(cases hx;simp)
    ·cases hx
   simp only[zz6];omega
theorem VQ{p:bP}{s:aB}(h:du p=some s):s.aQ.length≤200:=by
 obtain ⟨_,_,_,ar,_,h6⟩:=iT h;have:=w4 h6;simp only[eP,List.length_nil] at this;omega
theorem BJ(s:aB){i:Nat}(h:i<(cj s.bA).length):fj (.i .i64) .nilp (.int .i64 (cj s.bA)[i]) (s.bA.map enc) (s.aQ.map fun i=>.ref (enc (s.b8 i)))=some (.ref (enc (s.b8 ((cj s.bA)[i].toNat-1))),true):=by
 have hm:(cj s.bA)[i]∈s.bA:=W7.1 (List.getElem_mem h);obtain ⟨j,hj,e,_⟩:=GD hm;rw[vR (s:=s) (fun i=>.ref (enc (s.b8 i))),hj];have:(cj s.bA)[i].toNat-1=j:=by omega
 simp only[this]
theorem LS{xs:List da} : kD xs.length (some (.bW 48 4 (xs.map enc)))=some (enc xs):=pY 4 rfl rfl
def tY(p:bP)(s:aB)(t:Nat×List da):ai :=
 au [(1,.ptr 1 []),(4,dx s),(6,.own 905 t.2.length),(18,enc (cj s.bA)),(19,.int .i64 (cj s.bA).length),(20,.int .i64 t.1)] [(905,.bW 48 4 (t.2.map enc)),(1,.box (enc p))]
theorem Fy(p:bP):bf Tryz.prog 46 [enc p] (.tuple [enc (tn p).1,enc (tn p).2]):=by
 refine bf.b7 Tryz.func46 HL IL JZ (u8 rfl) (fun hwf W0 bI E1 =>?_);simp only[yP,Dm,bK];clear hwf;have hF:=pE p;simp only[tn];cases ho:du p with
 |none =>
  rw[ho] at hF;simp only[j2] at hF;have R:=y6 @c8 (y6 @bD (y6 @bY (y6 @bw (y6 @bt aG))))
  repeat' ((first |refine ae.aJ (by decide +kernel) rfl fun K hK =>?_|refine .lead _ (hF) ?_|(refine .aA [0,1,2,3,4,5,6,8,15,18,19,20,21] hK ?_;clear hK K)|(with_reducible refine .done (hK _ ?_);clear hK K)|refine ae.of rfl ?_|(with_reducible refine aD.aI (fun h =>?_) (fun h =>?_) <;>try simp only[h])) <;>try simp only[aK,R,simprocAttr])
  all_goals clear R
  rfl
 |some s =>
  have ao:=VQ ho;have hN:=xK s (by omega);have hlen:(cj s.bA).length=s.aQ.length:=by simp[cj,aB.bA]
  have hrl:(mF s).length=(cj s.bA).length:=by simp[mF]
  have hso:∀ p,(dx s).only p=true:=fun p=>j0 p _ (nX s);rw[ho] at hF;simp only[j2] at hF;have R:=y6 @WO (y6 @ez (y6 @c8 (y6 @bD (y6 @bY (y6 @bw (y6 @bt aG))))))
  repeat' ((first |refine ae.aJ (by decide +kernel) rfl fun K hK =>?_|refine .lead _ (hF) ?_|refine .lead _ (hN) ?_|(refine .aA [0,1,2,3,4,5,6,8,15,18,19,20,21] hK ?_;clear hK K)|(with_reducible refine .done (hK _ ?_);clear hK K)|refine ae.of rfl ?_|(with_reducible refine aD.aI (fun h =>?_) (fun h =>?_) <;>try simp only[h])) <;>try simp only[aK,R,simprocAttr])
  all_goals clear R
  refine ae.loop (tY p s) (fun t=>t.1≤(cj s.bA).length∧t.2=(mF s).take t.1) (fun t=>(cj s.bA).length-t.1) (0,[]) ⟨zz5 _,rfl⟩ ?_ ?_
  ·refine bC.rU 6 905 48 4 4 rfl rfl ?_;simp only[tY];refine bC.dT ?_ ?_ ?_ ?_ <;>simp[*,cF,dB,cS,cV,av,cD,eg,I.only,I.cn,aq.only,cI]
  rintro ⟨i,xs⟩ ⟨hi,hxs⟩;simp only at hi hxs;have htl:xs.length=i:=by rw[hxs,X6];omega
  simp only[tY];by_cases hlt:i<(cj s.bA).length
  ·have hc:=gO hlt;have he:=fun A=>fi (A:=A) 1 hlt rfl;have hw:=gR (i:=i) (by omega);have hlk:=BJ s hlt;obtain ⟨r,hr⟩:∃ r,r=s.b8 ((cj s.bA)[i].toNat-1):=⟨_,rfl⟩
   rw[←hr] at hlk;have hbs:fu 4 (some [enc r])=some (enc [r]):=jb 4 _ rfl;have hap:=fun (A:ai) d rest=>pK (A:=A) (d:=d) 48 4 32 905 (l:=xs.length) (es:=xs) (ys:=[r]) (rest:=rest) rfl rfl (by simp) (by simp[maxLen];omega) (by simp;omega);have htk:(mF s).take (i+1)=xs++[r]:=by
    have hik:i<(mF s).length:=by rw[hrl];exact hlt
    rw[Y7 hik,hxs,hr];simp[mF]
   have R:=y6 @hc (y6 @he (y6 @hw (y6 @hlk (y6 @hbs (y6 @hap (y6 @ez (y6 @c8 (y6 @bD (y6 @bY (y6 @bw (y6 @bt aG)))))))))))
   repeat' ((first |refine ae.aJ (by decide +kernel) rfl fun K hK =>?_|(refine .aA [0,1,2,3,4,5,6,8,15,18,19,20,21] hK ?_;clear hK K)|(with_reducible refine .done (hK _ ?_);clear hK K)|refine ae.of rfl ?_|(with_reducible refine aD.aI (fun h =>?_) (fun h =>?_) <;>try simp only[h])) <;>try simp only[aK,R,simprocAttr])
   all_goals clear R
   refine ⟨(i+1,xs++[r]),⟨by simp only;omega,htk.symm⟩,by simp only;omega,?_⟩;simp only;clear hxs htk htl;refine bC.dT ?_ ?_ ?_ ?_ <;>simp[*,cF,dB,cS,cV,av,cD,eg,I.only,I.cn,aq.only,hU,qI,cI]
  ·have hge:i=(cj s.bA).length:=by omega
   have hc:=gW hlt;have htk:xs=mF s:=by rw[hxs];exact List.take_of_length_le (by omega)
   rw[←htk];have R:=y6 @hc (y6 @LS (y6 @ez (y6 @c8 (y6 @bD (y6 @bY (y6 @bw (y6 @bt aG)))))))
   repeat' ((first |refine ae.aJ (by decide +kernel) rfl fun K hK =>?_|(refine .aA [0,1,2,3,4,5,6,8,15,18,19,20,21] hK ?_;clear hK K)|(with_reducible refine .done (hK _ ?_);clear hK K)|refine ae.of rfl ?_|(with_reducible refine aD.aI (fun h =>?_) (fun h =>?_) <;>try simp only[h])) <;>try simp only[aK,R,simprocAttr])
   all_goals clear R
theorem uk(a b:Int):(dK [.int .i64 0,.int .i64 0] [(0,.int .i64 a),(1,.int .i64 b)]).map I.agg=some (.agg [.int .i64 a,.int .i64 b]):=by simp[dK,I.bS,I.size]
instance:Enc aB where
 enc s:=dx s
 sz:=1
 aX:=.one
 gJ:=false
 done s:=by simp only[dx,I.done,zW]
 size _:=rfl
 iE _:=rfl
 agg _:=rfl
theorem Lp(s:aB):(enc s:I)=dx s:=rfl
def hd(l:List bP)(i:Nat):bP:=l.getD i default
theorem wE{l:List bP}{i:Nat}(h:i<l.length):l[i]=hd l i:=by simp[hd,Z0,h]
def il(l:List bP)(i:Nat):Bool:=(du (hd l i)).isSome&&(i==0||decide ((hd l (i-1)).aw<(hd l i).aw))
def rV(l:List bP):Bool:=(List.range l.length).all (il l)
def mR(l:List bP):List aB:=l.filterMap du
def jQ(l:List bP)(b:Int):List aB×Int:=if rV l then (if dz 1 9999 b then (mR l,0) else ([],1)) else ([],96)
theorem Co{p:bP}(h:(du p).isSome=true):0≤p.aw∧p.aw≤5:=by
 obtain ⟨s,ab⟩:=Y8.1 h;have h5:=(iT ab).2.2.2.2.1;simp only[iy,dz,t8,decide_eq_true_eq] at h5;exact h5.1
theorem T3{l:List bP}{n:Nat}(h:∀ j,j<n→il l j=true):∀ j,j<n→(j:Int)≤(hd l j).aw:=by
 intro j
 induction j with
 |zero =>
  intro hj;have aW:=h 0 hj;simp only[il,t8] at aW;exact (Co aW.1).1
 |succ j ih =>
  intro hj;have J:=ih (by omega);have U:=h (j+1) hj;simp only[il,t8,Bool.or_eq_true,beq_iff_eq,decide_eq_true_eq] at U;rcases U.2 with ah | ah
  ·omega
  ·have:j+1-1=j:=rfl;rw[this] at ah;omega
theorem Be{l:List bP}{n:Nat}(h:∀ j,j<n→il l j=true):n≤6:=by
 rcases Nat.lt_or_ge 6 n with hn | hn
 ·have J:=T3 h 6 hn;have U:=h 6 hn;simp only[il,t8] at U;have:=(Co U.1).2;omega
 ·exact hn
theorem Xj{l:List bP}{i:Nat}(h:i<l.length):mR (l.take (i+1))=mR (l.take i)++(match du (hd l i) with | some s=>[s] | none=>[]):=by
 rw[Y7 h,wE h];simp only[mR,List.filterMap_append,List.filterMap_cons,List.filterMap_nil];cases du (hd l i) <;>rfl
theorem EA(l:List bP):(mR l).length≤l.length:=List.length_filterMap_le _ _
theorem Aw{xs:List aB} : kD xs.length (some (.bW 80 1 (xs.map enc)))=some (enc xs):=pY 1 rfl rfl
def ua(l:List bP)(b:Int)(t:Nat×List aB):ai :=
 au [(0,enc l),(1,.int .i64 b),(6,.own 905 t.2.length),(11,enc l),(12,.int .i64 l.length),(13,.int .i64 t.1)] [(905,.bW 80 1 (t.2.map enc))]
theorem FW(l:List bP)(b:Int):bf Tryz.prog 83 [enc l,enc b] (.tuple [enc (jQ l b).1,enc (jQ l b).2]):=by
 refine bf.b7 Tryz.func83 H4 I4 Kh (u8 rfl) (fun hwf W0 bI E1 =>?_);simp only[zc,DG,bK,Z1];have hlen:l.length≤maxLen:=((mS l).1 hwf.1).1;simp only[maxLen] at hlen;clear hwf;have R:=y6 @c8 (y6 @bD (y6 @bY (y6 @bw (y6 @bt aG))))
 repeat' ((first |(with_reducible refine .guard (fun hb =>?_) (fun hb =>?_) <;>try simp only[hb])|refine ae.aJ (by decide +kernel) rfl fun K hK =>?_|(refine .aA [0,1,4,5,6,7,8,9,10,11,12,13,14,39,47] hK ?_;clear hK K)|(with_reducible refine .done (hK _ ?_);clear hK K)|refine ae.of rfl ?_|(with_reducible refine aD.aI (fun h =>?_) (fun h =>?_) <;>try simp only[h])) <;>try simp only[aK,R,simprocAttr])
 all_goals clear R
 refine ae.loop (ua l b) (fun t=>t.1≤l.length∧(∀ j,j<t.1→il l j=true)∧t.2=mR (l.take t.1)) (fun t=>l.length-t.1) (0,[]) ⟨zz5 _,by simp,rfl⟩ ?_ ?_
 ·refine bC.rU 6 905 80 1 1 rfl rfl ?_;simp only[ua];refine bC.dT ?_ ?_ ?_ ?_ <;>simp[cF,dB,cS,cV,av,cD,eg,I.only,I.cn,aq.only,cI]
  all_goals rfl
 rintro ⟨i,xs⟩ ⟨hi,hg,hxs⟩;simp only at hi hg hxs;have hi6:=Be hg;have hxl:xs.length≤i:=by
  rw[hxs];refine zz9 (EA _) ?_;rw[X6];omega
 simp only[ua];by_cases hlt:i<l.length
 ·have hc:=gO hlt;have he:=fun A=>fi (A:=A) 3 hlt rfl;rw[wE hlt] at he;have hw:=gR (i:=i) (by omega);have hF:=pE (hd l i);have hbad:il l i=false→jQ l b=([],96):=fun h=>by
   have:rV l=false:=by
    simp only[rV,List.all_eq_false];exact ⟨i,zz4.2 hlt,by simp[h]⟩
   simp[jQ,this]
  cases ho:du (hd l i) with
  |none =>
   rw[ho] at hF;simp only[j2] at hF;rw[hbad (by simp[il,ho])];have R:=y6 @hc (y6 @he (y6 @c8 (y6 @bD (y6 @bY (y6 @bw (y6 @bt aG))))))
   repeat' ((first |(with_reducible refine .guard (fun hb =>?_) (fun hb =>?_) <;>try simp only[hb])|refine ae.aJ (by decide +kernel) rfl fun K hK =>?_|refine .lead _ (hF) ?_|(refine .aA [0,1,4,5,6,7,8,9,10,11,12,13,14,39,47] hK ?_;clear hK K)|(with_reducible refine .done (hK _ ?_);clear hK K)|refine ae.of rfl ?_|(with_reducible refine aD.aI (fun h =>?_) (fun h =>?_) <;>try simp only[h])) <;>try simp only[aK,R,simprocAttr])
   all_goals clear R
   rfl
  |some s =>
   rw[ho] at hF;simp only[j2] at hF;have hbs:fu 1 (some [dx s])=some (enc [s]):=jb 1 s rfl;have hap:=fun (A:ai) d rest=>pK (A:=A) (d:=d) 80 1 8 905 (l:=xs.length) (es:=xs) (ys:=[s]) (rest:=rest) rfl rfl (by simp) (by simp[maxLen];omega) (by simp;omega);have hst:mR (l.take (i+1))=xs++[s]:=by rw[Xj hlt,ho,hxs]
   have hso:∀ p,(dx s).only p=true:=fun p=>j0 p _ (nX s);by_cases aW:i=0
   ·have hz:decide ((i:Int)>0)=false:=by simp;omega
    have hgi:il l i=true:=by simp only[il,ho];simp[aW]
    have R:=y6 @hc (y6 @he (y6 @hz (y6 @hw (y6 @hbs (y6 @hap (y6 @c8 (y6 @ez (y6 @bD (y6 @bY (y6 @bw (y6 @bt aG)))))))))))
    repeat' ((first |(with_reducible refine .guard (fun hb =>?_) (fun hb =>?_) <;>try simp only[hb])|refine ae.aJ (by decide +kernel) rfl fun K hK =>?_|refine .lead _ (hF) ?_|(refine .aA [0,1,4,5,6,7,8,9,10,11,12,13,14,39,47] hK ?_;clear hK K)|(with_reducible refine .done (hK _ ?_);clear hK K)|refine ae.of rfl ?_|(with_reducible refine aD.aI (fun h =>?_) (fun h =>?_) <;>try simp only[h])) <;>try simp only[aK,R,simprocAttr])
    all_goals clear R
    refine ⟨(i+1,xs++[s]),⟨by simp only;omega,fun j hj =>?_,hst.symm⟩,by simp only;omega,?_⟩
    ·by_cases e:j=i
     ·rw[e];exact hgi
     ·exact hg j (by simp only at hj;omega)
    ·simp only;clear hxs hst;refine bC.dT ?_ ?_ ?_ ?_ <;>simp[*,cF,dB,cS,cV,av,cD,eg,I.only,I.cn,aq.only,hU,qI,cI]
   ·have hz:decide ((i:Int)>0)=true:=by simp;omega
    have hw1:IntKind.i64.wrap ((i:Int)-1)=((i-1:Nat):Int):=by rw[l3 _ (by omega) (by omega)];omega
    have he1:∀ A,jA A 3 ((i-1:Nat):Int) (enc l)=some (.ref (enc (hd l (i-1)))):=fun A=>by
     have hlt1:i-1<l.length:=by omega
     have:=fi (A:=A) 3 hlt1 rfl;rw[wE hlt1] at this;exact this
    rcases q:decide ((hd l (i-1)).aw≥(hd l i).aw)
    ·have hgi:il l i=true:=by
      have:(hd l (i-1)).aw<(hd l i).aw:=by have:=of_decide_eq_false q;omega
      simp[il,ho,this]
     have R:=y6 @hc (y6 @he (y6 @hz (y6 @hw1 (y6 @he1 (y6 @q (y6 @hw (y6 @hbs (y6 @hap (y6 @c8 (y6 @ez (y6 @bD (y6 @bY (y6 @bw (y6 @bt aG))))))))))))))
     repeat' ((first |(with_reducible refine .guard (fun hb =>?_) (fun hb =>?_) <;>try simp only[hb])|refine ae.aJ (by decide +kernel) rfl fun K hK =>?_|refine .lead _ (hF) ?_|(refine .aA [0,1,4,5,6,7,8,9,10,11,12,13,14,39,47] hK ?_;clear hK K)|(with_reducible refine .done (hK _ ?_);clear hK K)|refine ae.of rfl ?_|(with_reducible refine aD.aI (fun h =>?_) (fun h =>?_) <;>try simp only[h])) <;>try simp only[aK,R,simprocAttr])
     all_goals clear R
     refine ⟨(i+1,xs++[s]),⟨by simp only;omega,fun j hj =>?_,hst.symm⟩,by simp only;omega,?_⟩
     ·by_cases e:j=i
      ·rw[e];exact hgi
      ·exact hg j (by simp only at hj;omega)
     ·simp only;clear hxs hst;refine bC.dT ?_ ?_ ?_ ?_ <;>simp[*,cF,dB,cS,cV,av,cD,eg,I.only,I.cn,aq.only,hU,qI,cI]
    ·have hgi:il l i=false:=by
      have:¬ (hd l (i-1)).aw<(hd l i).aw:=by have:=of_decide_eq_true q;omega
      simp[il,this,aW]
     rw[hbad hgi];have R:=y6 @hc (y6 @he (y6 @hz (y6 @hw1 (y6 @he1 (y6 @q (y6 @hw (y6 @hbs (y6 @hap (y6 @c8 (y6 @ez (y6 @bD (y6 @bY (y6 @bw (y6 @bt aG))))))))))))))
     repeat' ((first |(with_reducible refine .guard (fun hb =>?_) (fun hb =>?_) <;>try simp only[hb])|refine ae.aJ (by decide +kernel) rfl fun K hK =>?_|refine .lead _ (hF) ?_|(refine .aA [0,1,4,5,6,7,8,9,10,11,12,13,14,39,47] hK ?_;clear hK K)|(with_reducible refine .done (hK _ ?_);clear hK K)|refine ae.of rfl ?_|(with_reducible refine aD.aI (fun h =>?_) (fun h =>?_) <;>try simp only[h])) <;>try simp only[aK,R,simprocAttr])
     all_goals clear R
     rfl
 ·have hge:i=l.length:=by omega
  have hc:=gW hlt;have hx2:xs=mR l:=by rw[hxs,hge,List.take_length]
  have hgood:rV l=true:=X0.2 fun j hj=>hg j (by have:=zz4.1 hj;omega);have hB:=pF b;simp only[jQ,hgood,if_true,←hx2];rw[hge];rw[hge] at hc;rcases q:dz 1 9999 b
  ·rw[q] at hB;have R:=y6 @hc (y6 @Aw (y6 @c8 (y6 @bD (y6 @bY (y6 @bw (y6 @bt aG))))))
   repeat' ((first |(with_reducible refine .guard (fun hb =>?_) (fun hb =>?_) <;>try simp only[hb])|refine ae.aJ (by decide +kernel) rfl fun K hK =>?_|refine .flat _ (hB) rfl ?_|(refine .aA [0,1,4,5,6,7,8,9,10,11,12,13,14,39,47] hK ?_;clear hK K)|(with_reducible refine .done (hK _ ?_);clear hK K)|refine ae.of rfl ?_|(with_reducible refine aD.aI (fun h =>?_) (fun h =>?_) <;>try simp only[h])) <;>try simp only[aK,R,simprocAttr])
   all_goals clear R
   rfl
  ·rw[q] at hB;have R:=y6 @hc (y6 @Aw (y6 @c8 (y6 @bD (y6 @bY (y6 @bw (y6 @bt aG))))))
   repeat' ((first |(with_reducible refine .guard (fun hb =>?_) (fun hb =>?_) <;>try simp only[hb])|refine ae.aJ (by decide +kernel) rfl fun K hK =>?_|refine .flat _ (hB) rfl ?_|(refine .aA [0,1,4,5,6,7,8,9,10,11,12,13,14,39,47] hK ?_;clear hK K)|(with_reducible refine .done (hK _ ?_);clear hK K)|refine ae.of rfl ?_|(with_reducible refine aD.aI (fun h =>?_) (fun h =>?_) <;>try simp only[h])) <;>try simp only[aK,R,simprocAttr])
   all_goals clear R
def tJ(l:List bP)(b:Int):List Int×Int:=(((jQ l b).1.filter fun s=>decide (b∈s.here)).map (·.aw),(jQ l b).2)
theorem Gg(l:List bP)(b:Int):(jQ l b).1.length≤6:=by
 simp only[jQ];split
 ·rename_i hg;split
  ·have J:=Be (l:=l) (n:=l.length) fun j hj=>X0.1 hg j (zz4.2 hj);exact zz9 (EA l) J
  ·simp
 ·simp
def py(all:List aB)(b:Int):List Int:=(all.filter fun s=>decide (b∈s.here)).map (·.aw)
theorem Xx(all:List aB)(b:Int){i:Nat}(h:i<all.length):py (all.take (i+1)) b=py (all.take i) b++if b∈all[i].here then [all[i].aw] else []:=by
 rw[Y7 h];simp only[py,List.filter_append,Y3,List.filter_cons,List.filter_nil,decide_eq_true_eq]
 congr 1
 split <;>rfl
def tX(all:List aB)(e b:Int)(t:Nat×List Int):ai :=
 au [(1,.int .i64 b),(7,.int .i64 e),(8,.own 905 t.2.length),(17,enc all),(18,.int .i64 all.length),(19,.int .i64 t.1)] [(905,.bW 3 1 (t.2.map enc))]
theorem Au{xs:List Int} : kD xs.length (some (.bW 3 1 (xs.map enc)))=some (enc xs):=pY 1 rfl rfl
theorem Fv(l:List bP)(b:Int):bf Tryz.prog 37 [enc l,enc b] (.tuple [enc (tJ l b).1,enc (tJ l b).2]):=by
 refine bf.b7 Tryz.func37 HI II JW (u8 rfl) (fun hwf W0 bI E1 =>?_);simp only[yN,Dj,bK,Z1];clear hwf;have hF:=FW l b;have hal:=Gg l b;simp only[tJ];generalize (jQ l b).1=all at *;generalize (jQ l b).2=e at *;have R:=y6 @c8 (y6 @bD (y6 @bY (y6 @bw (y6 @bt aG))))
 repeat' ((first |refine ae.aJ (by decide +kernel) rfl fun K hK =>?_|refine .lead _ (hF) ?_|(refine .aA [0,1,4,5,6,7,8,10,17,18,19,20,28] hK ?_;clear hK K)|(with_reducible refine .done (hK _ ?_);clear hK K)|refine ae.of rfl ?_|(with_reducible refine aD.aI (fun h =>?_) (fun h =>?_) <;>try simp only[h])) <;>try simp only[aK,R,simprocAttr])
 all_goals clear R
 refine ae.loop (tX all e b) (fun t=>t.1≤all.length∧t.2=py (all.take t.1) b) (fun t=>all.length-t.1) (0,[]) ⟨zz5 _,rfl⟩ ?_ ?_
 ·refine bC.rU 8 905 3 1 1 rfl rfl ?_;simp only[tX];refine bC.dT ?_ ?_ ?_ ?_ <;>simp[cF,dB,cS,cV,av,cD,eg,I.only,I.cn,aq.only,cI]
  all_goals rfl
 rintro ⟨i,xs⟩ ⟨hi,hxs⟩;simp only at hi hxs;have hxl:xs.length≤i:=by
  rw[hxs,py,Z8];refine zz9 (List.length_filter_le _ _) ?_;rw[X6];omega
 simp only[tX];by_cases hlt:i<all.length
 ·have hc:=gO hlt;have he:=fun A=>fi (A:=A) 1 hlt rfl;have hw:=gR (i:=i) (by omega);have hsn:=Xx all b hlt;rw[←hxs] at hsn;obtain ⟨s,ab⟩:∃ s,s=all[i]:=⟨_,rfl⟩
  rw[←ab] at he hsn;simp only[Lp] at he;have hlk:=fZ eM b s.here;rw[eC] at hlk;have hbs:fu 1 (some [.int .i64 s.aw])=some (enc [s.aw]):=jb 1 s.aw rfl;have hap:=fun (A:ai) d rest=>pK (A:=A) (d:=d) 3 1 8 905 (l:=xs.length) (es:=xs) (ys:=[s.aw]) (rest:=rest) rfl rfl (by simp) (by simp[maxLen];omega) (by simp;omega);rcases q:decide (b∈s.here)
  ·have bH:b∉s.here:=of_decide_eq_false q;rw[if_neg bH,List.append_nil] at hsn;have R:=y6 @hc (y6 @he (y6 @hw (y6 @hlk (y6 @q (y6 @ez (y6 @c8 (y6 @bD (y6 @bY (y6 @bw (y6 @bt aG))))))))))
   repeat' ((first |refine ae.aJ (by decide +kernel) rfl fun K hK =>?_|(refine .aA [0,1,4,5,6,7,8,10,17,18,19,20,28] hK ?_;clear hK K)|(with_reducible refine .done (hK _ ?_);clear hK K)|refine ae.of rfl ?_|(with_reducible refine aD.aI (fun h =>?_) (fun h =>?_) <;>try simp only[h])) <;>try simp only[aK,R,simprocAttr])
   all_goals clear R
   refine ⟨(i+1,xs),⟨by simp only;omega,hsn.symm⟩,by simp only;omega,?_⟩;simp only;clear hxs hsn;refine bC.dT ?_ ?_ ?_ ?_ <;>simp[cF,dB,cS,cV,av,cD,eg,I.only,aq.only,hU,cI]
  ·have bH:b∈s.here:=of_decide_eq_true q;rw[if_pos bH] at hsn;have R:=y6 @hc (y6 @he (y6 @hw (y6 @hlk (y6 @q (y6 @hbs (y6 @hap (y6 @ez (y6 @c8 (y6 @bD (y6 @bY (y6 @bw (y6 @bt aG))))))))))))
   repeat' ((first |refine ae.aJ (by decide +kernel) rfl fun K hK =>?_|(refine .aA [0,1,4,5,6,7,8,10,17,18,19,20,28] hK ?_;clear hK K)|(with_reducible refine .done (hK _ ?_);clear hK K)|refine ae.of rfl ?_|(with_reducible refine aD.aI (fun h =>?_) (fun h =>?_) <;>try simp only[h])) <;>try simp only[aK,R,simprocAttr])
   all_goals clear R
   refine ⟨(i+1,xs++[s.aw]),⟨by simp only;omega,hsn.symm⟩,by simp only;omega,?_⟩;simp only;clear hxs hsn;refine bC.dT ?_ ?_ ?_ ?_ <;>simp[cF,dB,cS,cV,av,cD,eg,I.only,I.cn,aq.only,hU,qI,cI,eC]
 ·have hge:i=all.length:=by omega
  have hc:=gW hlt;have hx2:xs=py all b:=by rw[hxs,hge,List.take_length]
  rw[show ((all.filter fun s=>decide (b∈s.here)).map (·.aw))=xs from hx2.symm];have R:=y6 @hc (y6 @Au (y6 @c8 (y6 @bD (y6 @bY (y6 @bw (y6 @bt aG))))))
  repeat' ((first |refine ae.aJ (by decide +kernel) rfl fun K hK =>?_|(refine .aA [0,1,4,5,6,7,8,10,17,18,19,20,28] hK ?_;clear hK K)|(with_reducible refine .done (hK _ ?_);clear hK K)|refine ae.of rfl ?_|(with_reducible refine aD.aI (fun h =>?_) (fun h =>?_) <;>try simp only[h])) <;>try simp only[aK,R,simprocAttr])
  all_goals clear R
structure gS where
 kind:Int
 cZ:Int
 no:Int
 aH:Int
 deriving DecidableEq,Inhabited
instance:Enc gS where
 enc g:=.agg [.int .i64 g.kind,.int .i64 g.cZ,.int .i64 g.no,.int .i64 g.aH]
 sz:=4
 aX:=.eD [.one,.one,.one,.one]
 gJ:=true
 done g:=by simp only[I.done,I.hs,Bool.and_self]
 size g:=by simp only[I.size,I.sizes]
 iE g:=by simp only[I.aX,I.cT]
 agg _:=rfl
structure cd where
 aw:Int
 here:List Int
 dw:Int
 bB:List da
 bn:List gS
 deriving Inhabited
def gn(a:Int)(h:I)(s:Int)(r e:I):I:=.agg [.int .i64 a,h,.int .i64 s,r,e]
instance:Enc cd where
 enc g:=gn g.aw (enc g.here) g.dw (enc g.bB) (enc g.bn)
 sz:=5
 aX:=.eD [.one,.one,.one,.one,.one]
 gJ:=true
 done g:=by simp only[gn,I.done,I.hs,Enc.done,Bool.and_self]
 size g:=by simp only[gn,I.size,I.sizes,kB,jV]
 iE g:=by simp only[gn,I.aX,I.cT,eH,nh]
 agg _:=rfl
theorem cE:(∀ g:cd,(enc g).dI=some [.int .i64 g.aw,enc g.here,.int .i64 g.dw,enc g.bB,enc g.bn])∧(∀ a h s r e,(gn a h s r e).dI=some [.int .i64 a,h,.int .i64 s,r,e])∧(∀ g:gS,(enc g).dI=some [.int .i64 g.kind,.int .i64 g.cZ,.int .i64 g.no,.int .i64 g.aH]) ∧
  (∀ g:cd,b5 (some 5) (enc g)=true)∧(∀ g:gS,b5 (some 4) (enc g)=true)∧(∀ g:List Int,b5 none (enc g)=true)∧(∀ g:List da,b5 none (enc g)=true)∧(∀ g:List gS,b5 none (enc g)=true) ∧
  (∀ (a b:Int) (h:List Int) (r:List da) (e:List gS) v,dq [.int .i64 a,enc h,.int .i64 b,enc r,enc e] 0 0 v=some v)∧(∀ (a b:Int) (h:List Int) (r:List da) (e:List gS) v,dq [.int .i64 a,enc h,.int .i64 b,enc r,enc e] 1 1 v=some v)∧(∀ (a b:Int) (h:List Int) (r:List da) (e:List gS) v,dq [.int .i64 a,enc h,.int .i64 b,enc r,enc e] 2 2 v=some v) ∧
  (∀ (a b:Int) (h:List Int) (r:List da) (e:List gS) v,dq [.int .i64 a,enc h,.int .i64 b,enc r,enc e] 3 3 v=some v)∧(∀ (a b:Int) (h:List Int) (r:List da) (e:List gS) v,dq [.int .i64 a,enc h,.int .i64 b,enc r,enc e] 4 4 v=some v) ∧
  (∀ A n b rest (q:cd) x y,dk A (some 5) n [] b (enc q) rest (some (.agg [.int .i64 x,.nils 1,.int .i64 y,.nils 4,.nils 4]))=az rest (A.aV n (.box (enc q))))∧(∀ A n b rest (q r:cd),dk A (some 5) n [] b (enc q) rest (some (enc r))=az rest (A.aV n (.box (enc q)))) ∧
  (∀ A n b rest (q:da) x y z w,dk A (some 4) n [] b (enc q) rest (some (.agg [.int .i64 x,.int .i64 y,.int .i64 z,.bool w]))=az rest (A.aV n (.box (enc q))))∧(∀ A n b rest (q:gS) x y z w,dk A (some 4) n [] b (enc q) rest (some (.agg [.int .i64 x,.int .i64 y,.int .i64 z,.int .i64 w]))=az rest (A.aV n (.box (enc q)))) ∧
  (∀ (A:ai) n (q:cd) (l k:List Int) rest,dk A none n [1] (enc q) (enc l) rest (some (enc k))=az rest (A.aV n (.box (enc ({ q with here:=l } : cd)))))∧(∀ (A:ai) n (q:cd) (v u:Int) rest,dk A none n [2] (enc q) (.int .i64 v) rest (some (.int .i64 u))=az rest (A.aV n (.box (enc ({ q with dw:=v } : cd))))) :=
 ⟨fun _=>rfl,fun _ _ _ _ _=>rfl,fun _=>rfl,fun _=>by rw[fg];rfl,fun _=>by rw[fg];rfl,fun _=>by simp[lq,lp],fun _=>by simp[lq,lp],fun _=>by simp[lq,lp],
  fun _ _ _ _ _ _=>jG (by simp) rfl,fun _ _ _ _ _ _=>jG (by simp) rfl,fun _ _ _ _ _ _=>jG (by simp) (by simp[I.sizes,I.size,kB,jV]),fun _ _ _ _ _ _=>jG (by simp) (by simp[I.sizes,I.size,kB,jV]),fun _ _ _ _ _ _=>jG (by simp) (by simp[I.sizes,I.size,kB,jV]),
  fun A n b rest q x y=>dP (ep _) (by rw[fg];rfl) (eH _),fun A n b rest q r=>dP (ep _) (by rw[fg];rfl) ((eH _).trans (eH _).symm),fun A n b rest q x y z w=>dP (ep _) (by rw[fg];rfl) (eH _),fun A n b rest q x y z w=>dP (ep _) (by rw[fg];rfl) (eH _),
  fun A n q l k rest=>dP (ep _) (by simp[lq,lp]) rfl,fun A n q v u rest=>dP rfl rfl rfl⟩
theorem FR(l:List Int)(n:Int):bf Tryz.prog 78 [enc l,enc n] (enc (decide (n∈l))):=by
 refine bf.b7 Tryz.func78 HZ I1 Kd (u8 rfl) (fun hwf W0 bI E1 =>?_);simp only[y9,DC,bK,Z1];have hlen:l.length≤maxLen:=((mS l).1 hwf.1).1;simp only[maxLen] at hlen;clear hwf;have R:=y6 @bD aG
 repeat' ((first |refine ae.aJ (by decide +kernel) rfl fun K hK =>?_|(refine .aA [0,1,4,6,7,8,9,10,15] hK ?_;clear hK K)|(with_reducible refine .done (hK _ ?_);clear hK K)|refine ae.of rfl ?_|(with_reducible refine aD.aI (fun h =>?_) (fun h =>?_) <;>try simp only[h])) <;>try simp only[aK,R,simprocAttr])
 all_goals clear R
 refine ae.loop (fun i:Nat=>au [(1,.int .i64 n),(7,enc l),(8,.int .i64 l.length),(9,.int .i64 i)] []) (fun i=>i≤l.length∧n∉l.take i) (fun i=>l.length-i) 0 ⟨zz5 _,by simp⟩ ?_ (fun i hi =>?_)
 ·refine bC.dT ?_ ?_ ?_ ?_ <;>simp[cF,dB,cS,cV,cD,I.only,cI]
 obtain ⟨hi1,hi2⟩:=hi;by_cases hlt:i<l.length
 ·have hc:=gO hlt;have he:=fun A=>fi (A:=A) 1 hlt rfl;have hw:=gR (i:=i) (by omega);rcases hp:(l[i]==n)
  ·have R:=y6 @hc (y6 @he (y6 @hp (y6 @hw aG)))
   repeat' ((first |refine ae.aJ (by decide +kernel) rfl fun K hK =>?_|(refine .aA [0,1,4,6,7,8,9,10,15] hK ?_;clear hK K)|(with_reducible refine .done (hK _ ?_);clear hK K)|refine ae.of rfl ?_|(with_reducible refine aD.aI (fun h =>?_) (fun h =>?_) <;>try simp only[h])) <;>try simp only[aK,R,simprocAttr])
   all_goals clear R
   refine ⟨i+1,⟨by omega,?_⟩,by omega,?_⟩
   ·rw[Y7 hlt];have:¬ l[i]=n:=by simpa using hp
    simp only[X5,X3];exact fun h=>h.elim hi2 fun e=>this e.symm
   ·refine bC.dT ?_ ?_ ?_ ?_ <;>simp[cF,dB,cS,cV,cD,I.only,cI]
  ·have hm:n∈l:=by
    have:l[i]=n:=by simpa using hp
    rw[←this];exact List.getElem_mem hlt
   have R:=y6 @hc (y6 @he (y6 @hp aG))
   repeat' ((first |refine ae.aJ (by decide +kernel) rfl fun K hK =>?_|(refine .aA [0,1,4,6,7,8,9,10,15] hK ?_;clear hK K)|(with_reducible refine .done (hK _ ?_);clear hK K)|refine ae.of rfl ?_|(with_reducible refine aD.aI (fun h =>?_) (fun h =>?_) <;>try simp only[h])) <;>try simp only[aK,R,simprocAttr])
   all_goals clear R
   simp[hm]
 ·have hc:=gW hlt;have hge:i=l.length:=by omega
  have R:=y6 @hc aG
  repeat' ((first |refine ae.aJ (by decide +kernel) rfl fun K hK =>?_|(refine .aA [0,1,4,6,7,8,9,10,15] hK ?_;clear hK K)|(with_reducible refine .done (hK _ ?_);clear hK K)|refine ae.of rfl ?_|(with_reducible refine aD.aI (fun h =>?_) (fun h =>?_) <;>try simp only[h])) <;>try simp only[aK,R,simprocAttr])
  all_goals clear R
  rw[hge,List.take_length] at hi2;simp[hi2]
def h4(s:cd)(b:Int):Bool:=s.bB.any fun r=>decide (r.aH=b)
theorem tQ(s:cd)(b:Int)(hlen:s.bB.length≤1000):bf Tryz.prog 108 [enc s,enc b] (enc (h4 s b)):=by
 refine bf.b7 Tryz.func108 Hl Ik Jr (u8 rfl) (fun hwf W0 bI E1 =>?_);simp only[ym,CN,bK,Z1];clear hwf;have R:=y6 @cE (y6 @bD aG)
 repeat' ((first |refine ae.aJ (by decide +kernel) rfl fun K hK =>?_|(refine .aA [0,1,2,4,6,8,9,10,11,17] hK ?_;clear hK K)|(with_reducible refine .done (hK _ ?_);clear hK K)|refine ae.of rfl ?_|(with_reducible refine aD.aI (fun h =>?_) (fun h =>?_) <;>try simp only[h])) <;>try simp only[aK,R,simprocAttr])
 all_goals clear R
 refine ae.loop (fun i:Nat=>au [(1,.int .i64 b),(2,.ptr 2 []),(8,enc s.bB),(9,.int .i64 s.bB.length),(10,.int .i64 i)] [(2,.box (enc s))]) (fun i=>i≤s.bB.length∧((s.bB.take i).any fun r=>decide (r.aH=b))=false) (fun i=>s.bB.length-i) 0 ⟨zz5 _,by simp⟩ ?_ (fun i hi =>?_)
 ·refine bC.dT ?_ ?_ ?_ ?_ <;>simp[cF,dB,cS,cV,av,cD,eg,I.only,aq.only,cI]
 obtain ⟨hi1,hi2⟩:=hi;by_cases hlt:i<s.bB.length
 ·have hc:=gO hlt;have he:=fun A=>fi (A:=A) 4 hlt rfl;have hw:=gR (i:=i) (by omega);rcases hp:((s.bB[i]).aH==b)
  ·have R:=y6 @hc (y6 @he (y6 @hp (y6 @hw (y6 @cE aG))))
   repeat' ((first |refine ae.aJ (by decide +kernel) rfl fun K hK =>?_|(refine .aA [0,1,2,4,6,8,9,10,11,17] hK ?_;clear hK K)|(with_reducible refine .done (hK _ ?_);clear hK K)|refine ae.of rfl ?_|(with_reducible refine aD.aI (fun h =>?_) (fun h =>?_) <;>try simp only[h])) <;>try simp only[aK,R,simprocAttr])
   all_goals clear R
   refine ⟨i+1,⟨by omega,?_⟩,by omega,?_⟩
   ·rw[Y7 hlt,List.any_append,hi2];have:¬ (s.bB[i]).aH=b:=by simpa using hp
    simp[this]
   ·refine bC.dT ?_ ?_ ?_ ?_ <;>simp[cF,dB,cS,cV,av,cD,eg,I.only,aq.only,cI]
  ·have hm:h4 s b=true:=by
    have:(s.bB[i]).aH=b:=by simpa using hp
    simp only[h4,List.any_eq_true];exact ⟨s.bB[i],List.getElem_mem hlt,by simp[this]⟩
   rw[hm];have R:=y6 @hc (y6 @he (y6 @hp (y6 @cE aG)))
   repeat' ((first |refine ae.aJ (by decide +kernel) rfl fun K hK =>?_|(refine .aA [0,1,2,4,6,8,9,10,11,17] hK ?_;clear hK K)|(with_reducible refine .done (hK _ ?_);clear hK K)|refine ae.of rfl ?_|(with_reducible refine aD.aI (fun h =>?_) (fun h =>?_) <;>try simp only[h])) <;>try simp only[aK,R,simprocAttr])
   all_goals clear R
 ·have hc:=gW hlt;have hge:i=s.bB.length:=by omega
  rw[hge,List.take_length] at hi2;rw[show h4 s b=false from hi2];have R:=y6 @hc (y6 @cE aG)
  repeat' ((first |refine ae.aJ (by decide +kernel) rfl fun K hK =>?_|(refine .aA [0,1,2,4,6,8,9,10,11,17] hK ?_;clear hK K)|(with_reducible refine .done (hK _ ?_);clear hK K)|refine ae.of rfl ?_|(with_reducible refine aD.aI (fun h =>?_) (fun h =>?_) <;>try simp only[h])) <;>try simp only[aK,R,simprocAttr])
  all_goals clear R
def jk(s:cd)(no:Int):Option Nat:=s.bB.findIdx? fun r=>decide (r.no=no)
def j7(s:cd)(no:Int):Int:=match jk s no with
 |some i=>(i:Int)
 |none=>-1
theorem FT(s:cd)(no:Int)(hlen:s.bB.length≤1000):bf Tryz.prog 79 [enc s,enc no] (enc (j7 s no)):=by
 refine bf.b7 Tryz.func79 H0 I2 Ke (u8 rfl) (fun hwf W0 bI E1 =>?_);simp only[za,DE,bK,Z1];clear hwf;have R:=y6 @cE (y6 @bD aG)
 repeat' ((first |refine ae.aJ (by decide +kernel) rfl fun K hK =>?_|(refine .aA [0,1,2,4,5,6,8,9,10,11,18] hK ?_;clear hK K)|(with_reducible refine .done (hK _ ?_);clear hK K)|refine ae.of rfl ?_|(with_reducible refine aD.aI (fun h =>?_) (fun h =>?_) <;>try simp only[h])) <;>try simp only[aK,R,simprocAttr])
 all_goals clear R
 refine ae.loop (fun i:Nat=>au [(1,.int .i64 no),(2,.ptr 2 []),(8,enc s.bB),(9,.int .i64 s.bB.length),(10,.int .i64 i)] [(2,.box (enc s))]) (fun i=>i≤s.bB.length∧∀ k,k<i→∀ h:k<s.bB.length,(s.bB[k]).no≠no) (fun i=>s.bB.length-i) 0 ⟨zz5 _,fun k h=>by omega⟩ ?_ (fun i hi =>?_)
 ·refine bC.dT ?_ ?_ ?_ ?_ <;>simp[cF,dB,cS,cV,av,cD,eg,I.only,aq.only,cI]
 obtain ⟨hi1,hi2⟩:=hi;by_cases hlt:i<s.bB.length
 ·have hc:=gO hlt;have he:=fun A=>fi (A:=A) 4 hlt rfl;have hw:=gR (i:=i) (by omega);rcases hp:((s.bB[i]).no==no)
  ·have R:=y6 @hc (y6 @he (y6 @hp (y6 @hw (y6 @cE aG))))
   repeat' ((first |refine ae.aJ (by decide +kernel) rfl fun K hK =>?_|(refine .aA [0,1,2,4,5,6,8,9,10,11,18] hK ?_;clear hK K)|(with_reducible refine .done (hK _ ?_);clear hK K)|refine ae.of rfl ?_|(with_reducible refine aD.aI (fun h =>?_) (fun h =>?_) <;>try simp only[h])) <;>try simp only[aK,R,simprocAttr])
   all_goals clear R
   refine ⟨i+1,⟨by omega,fun k hk h =>?_⟩,by omega,?_⟩
   ·by_cases e:k=i
    ·subst e;simpa using hp
    ·exact hi2 k (by omega) h
   ·refine bC.dT ?_ ?_ ?_ ?_ <;>simp[cF,dB,cS,cV,av,cD,eg,I.only,aq.only,cI]
  ·have hm:jk s no=some i:=by
    refine List.findIdx?_eq_some_iff_getElem.2 ⟨hlt,by simpa using hp,fun j hj =>?_⟩;simpa using hi2 j hj (by omega)
   rw[show j7 s no=(i:Int) by simp[j7,hm]];have R:=y6 @hc (y6 @he (y6 @hp (y6 @cE aG)))
   repeat' ((first |refine ae.aJ (by decide +kernel) rfl fun K hK =>?_|(refine .aA [0,1,2,4,5,6,8,9,10,11,18] hK ?_;clear hK K)|(with_reducible refine .done (hK _ ?_);clear hK K)|refine ae.of rfl ?_|(with_reducible refine aD.aI (fun h =>?_) (fun h =>?_) <;>try simp only[h])) <;>try simp only[aK,R,simprocAttr])
   all_goals clear R
 ·have hc:=gW hlt;have hm:jk s no=none:=by
   refine List.findIdx?_eq_none_iff.2 fun x hx =>?_;obtain ⟨k,hk,rfl⟩:=List.mem_iff_getElem.1 hx;simpa using hi2 k (by omega) hk
  rw[show j7 s no=-1 by simp[j7,hm]];have R:=y6 @hc (y6 @cE aG)
  repeat' ((first |refine ae.aJ (by decide +kernel) rfl fun K hK =>?_|(refine .aA [0,1,2,4,5,6,8,9,10,11,18] hK ?_;clear hK K)|(with_reducible refine .done (hK _ ?_);clear hK K)|refine ae.of rfl ?_|(with_reducible refine aD.aI (fun h =>?_) (fun h =>?_) <;>try simp only[h])) <;>try simp only[aK,R,simprocAttr])
  all_goals clear R
def iR(s:cd)(cZ no:Int):Int:=match s.bn.find? fun x=>decide (x.cZ=cZ∧x.no=no) with
 |some x=>x.kind
 |none=>0
theorem xL(s:cd)(cZ no:Int)(hlen:s.bn.length≤1000):bf Tryz.prog 88 [enc s,enc cZ,enc no] (enc (iR s cZ no)):=by
 refine bf.b7 Tryz.func88 H6 I6 Kj (u8 rfl) (fun hwf W0 bI E1 =>?_);simp only[ze,DI,bK,Z1,Nat.reduceAdd];clear hwf;have R:=y6 @cE (y6 @bD aG)
 repeat' ((first |(with_reducible refine .guard (fun hb =>?_) (fun hb =>?_) <;>try simp only[hb])|refine ae.aJ (by decide +kernel) rfl fun K hK =>?_|(refine .aA [0,1,2,3,6,8,10,11,12,13,25] hK ?_;clear hK K)|(with_reducible refine .done (hK _ ?_);clear hK K)|refine ae.of rfl ?_|(with_reducible refine aD.aI (fun h =>?_) (fun h =>?_) <;>try simp only[h])) <;>try simp only[aK,R,simprocAttr])
 all_goals clear R
 refine ae.loop (fun i:Nat=>au [(1,.int .i64 cZ),(2,.int .i64 no),(3,.ptr 3 []),(10,enc s.bn),(11,.int .i64 s.bn.length),(12,.int .i64 i)] [(3,.box (enc s))]) (fun i=>i≤s.bn.length∧((s.bn.take i).find? fun x=>decide (x.cZ=cZ∧x.no=no))=none) (fun i=>s.bn.length-i) 0 ⟨zz5 _,by simp⟩ ?_ (fun i hi =>?_)
 ·refine bC.dT ?_ ?_ ?_ ?_ <;>simp[cF,dB,cS,cV,av,cD,eg,I.only,aq.only,cI]
 obtain ⟨hi1,hi2⟩:=hi;by_cases hlt:i<s.bn.length
 ·have hc:=gO hlt;have he:=fun A=>fi (A:=A) 4 hlt rfl;have hw:=gR (i:=i) (by omega);have hst:(s.bn.take (i+1)).find? (fun x=>decide (x.cZ=cZ∧x.no=no))=if (s.bn[i]).cZ=cZ∧(s.bn[i]).no=no then some s.bn[i] else none:=by
   rw[Y7 hlt,List.find?_append,hi2];simp only[Option.none_or,List.find?_cons,List.find?_nil];by_cases h:(s.bn[i]).cZ=cZ∧(s.bn[i]).no=no
   ·simp[h]
   ·rw[decide_eq_false h,if_neg h]
  rcases hp:((s.bn[i]).cZ==cZ)
  ·have J:¬ (s.bn[i]).cZ=cZ:=by simpa using hp
   rw[if_neg (fun h=>J h.1)] at hst;have R:=y6 @hc (y6 @he (y6 @hp (y6 @hw (y6 @cE aG))))
   repeat' ((first |(with_reducible refine .guard (fun hb =>?_) (fun hb =>?_) <;>try simp only[hb])|refine ae.aJ (by decide +kernel) rfl fun K hK =>?_|(refine .aA [0,1,2,3,6,8,10,11,12,13,25] hK ?_;clear hK K)|(with_reducible refine .done (hK _ ?_);clear hK K)|refine ae.of rfl ?_|(with_reducible refine aD.aI (fun h =>?_) (fun h =>?_) <;>try simp only[h])) <;>try simp only[aK,R,simprocAttr])
   all_goals clear R
   refine ⟨i+1,⟨by omega,hst⟩,by omega,?_⟩;refine bC.dT ?_ ?_ ?_ ?_ <;>simp[cF,dB,cS,cV,av,cD,eg,I.only,aq.only,cI]
  ·have J:(s.bn[i]).cZ=cZ:=by simpa using hp
   rcases hp2:((s.bn[i]).no==no)
   ·have U:¬ (s.bn[i]).no=no:=by simpa using hp2
    rw[if_neg (fun h=>U h.2)] at hst;have R:=y6 @hc (y6 @he (y6 @hp (y6 @hp2 (y6 @hw (y6 @cE aG)))))
    repeat' ((first |(with_reducible refine .guard (fun hb =>?_) (fun hb =>?_) <;>try simp only[hb])|refine ae.aJ (by decide +kernel) rfl fun K hK =>?_|(refine .aA [0,1,2,3,6,8,10,11,12,13,25] hK ?_;clear hK K)|(with_reducible refine .done (hK _ ?_);clear hK K)|refine ae.of rfl ?_|(with_reducible refine aD.aI (fun h =>?_) (fun h =>?_) <;>try simp only[h])) <;>try simp only[aK,R,simprocAttr])
    all_goals clear R
    refine ⟨i+1,⟨by omega,hst⟩,by omega,?_⟩;refine bC.dT ?_ ?_ ?_ ?_ <;>simp[cF,dB,cS,cV,av,cD,eg,I.only,aq.only,cI]
   ·have U:(s.bn[i]).no=no:=by simpa using hp2
    rw[if_pos ⟨J,U⟩] at hst;have hk:iR s cZ no=(s.bn[i]).kind:=by
     have:s.bn.find? (fun x=>decide (x.cZ=cZ∧x.no=no))=some s.bn[i]:=by
      have e:=congrArg (List.find? fun x=>decide (x.cZ=cZ∧x.no=no)) (List.take_append_drop (i+1) s.bn);rw[List.find?_append,hst,Option.some_or] at e;exact e.symm
     simp only[iR,this]
    rw[hk];have R:=y6 @hc (y6 @he (y6 @hp (y6 @hp2 (y6 @cE aG))))
    repeat' ((first |(with_reducible refine .guard (fun hb =>?_) (fun hb =>?_) <;>try simp only[hb])|refine ae.aJ (by decide +kernel) rfl fun K hK =>?_|(refine .aA [0,1,2,3,6,8,10,11,12,13,25] hK ?_;clear hK K)|(with_reducible refine .done (hK _ ?_);clear hK K)|refine ae.of rfl ?_|(with_reducible refine aD.aI (fun h =>?_) (fun h =>?_) <;>try simp only[h])) <;>try simp only[aK,R,simprocAttr])
    all_goals clear R
 ·have hc:=gW hlt;have hge:i=s.bn.length:=by omega
  rw[hge,List.take_length] at hi2;rw[show iR s cZ no=0 by simp only[iR,hi2]];have R:=y6 @hc (y6 @cE aG)
  repeat' ((first |(with_reducible refine .guard (fun hb =>?_) (fun hb =>?_) <;>try simp only[hb])|refine ae.aJ (by decide +kernel) rfl fun K hK =>?_|(refine .aA [0,1,2,3,6,8,10,11,12,13,25] hK ?_;clear hK K)|(with_reducible refine .done (hK _ ?_);clear hK K)|refine ae.of rfl ?_|(with_reducible refine aD.aI (fun h =>?_) (fun h =>?_) <;>try simp only[h])) <;>try simp only[aK,R,simprocAttr])
  all_goals clear R
def gN(l:List Int)(n:Int):List Int:=l.filter fun x=>x != n
def tW(l:List Int)(n:Int)(t:Nat×List Int):ai:=au [(1,.int .i64 n),(5,.own 905 t.2.length),(8,enc l),(9,.int .i64 l.length),(10,.int .i64 t.1)] [(905,.bW 3 1 (t.2.map enc))]
theorem xw(l:List Int)(n:Int)(hlen:l.length≤1000):bf Tryz.prog 110 [enc l,enc n] (enc (gN l n)):=by
 refine bf.b7 Tryz.func110 Hn Im Jt (u8 rfl) (fun hwf W0 bI E1 =>?_);simp only[yp,CP,bK,Z1];clear hwf;have R:=y6 @bD aG
 repeat' ((first |refine ae.aJ (by decide +kernel) rfl fun K hK =>?_|(refine .aA [0,1,4,5,7,8,9,10,11,16] hK ?_;clear hK K)|(with_reducible refine .done (hK _ ?_);clear hK K)|refine ae.of rfl ?_|(with_reducible refine aD.aI (fun h =>?_) (fun h =>?_) <;>try simp only[h])) <;>try simp only[aK,R,simprocAttr])
 all_goals clear R
 refine ae.loop (tW l n) (fun t=>t.1≤l.length∧t.2=gN (l.take t.1) n) (fun t=>l.length-t.1) (0,[]) ⟨zz5 _,rfl⟩ ?_ ?_
 ·refine bC.rU 5 905 3 1 1 rfl rfl ?_;simp only[tW];refine bC.dT ?_ ?_ ?_ ?_ <;>simp[cF,dB,cS,cV,av,cD,eg,I.only,I.cn,aq.only,cI]
 rintro ⟨i,xs⟩ ⟨hi,hxs⟩;simp only at hi hxs;have hxl:xs.length≤i:=by
  rw[hxs,gN];refine zz9 (List.length_filter_le _ _) ?_;rw[X6];omega
 simp only[tW];by_cases hlt:i<l.length
 ·have hc:=gO hlt;have he:=fun A=>fi (A:=A) 1 hlt rfl;have hw:=gR (i:=i) (by omega);have hsn:gN (l.take (i+1)) n=xs++if l[i] != n then [l[i]] else []:=by
   rw[Y7 hlt,gN,List.filter_append,hxs];simp only[gN,List.filter_cons,List.filter_nil]
  obtain ⟨y,hy⟩:∃ y,y=l[i]:=⟨_,rfl⟩
  rw[←hy] at he hsn;have hbs:fu 1 (some [.int .i64 y])=some (enc [y]):=jb 1 y rfl;have hap:=fun (A:ai) d rest=>pK (A:=A) (d:=d) 3 1 8 905 (l:=xs.length) (es:=xs) (ys:=[y]) (rest:=rest) rfl rfl (by simp) (by simp[maxLen];omega) (by simp;omega);rcases q:(y != n)
  ·rw[q,if_neg (by decide),List.append_nil] at hsn;have R:=y6 @hc (y6 @he (y6 @hw (y6 @q (y6 @bD aG))))
   repeat' ((first |refine ae.aJ (by decide +kernel) rfl fun K hK =>?_|(refine .aA [0,1,4,5,7,8,9,10,11,16] hK ?_;clear hK K)|(with_reducible refine .done (hK _ ?_);clear hK K)|refine ae.of rfl ?_|(with_reducible refine aD.aI (fun h =>?_) (fun h =>?_) <;>try simp only[h])) <;>try simp only[aK,R,simprocAttr])
   all_goals clear R
   refine ⟨(i+1,xs),⟨by simp only;omega,hsn.symm⟩,by simp only;omega,?_⟩;simp only;clear hxs hsn;refine bC.dT ?_ ?_ ?_ ?_ <;>simp[cF,dB,cS,cV,av,cD,eg,I.only,aq.only,hU,cI]
  ·rw[q,if_pos rfl] at hsn;have R:=y6 @hc (y6 @he (y6 @hw (y6 @q (y6 @hbs (y6 @hap (y6 @bD aG))))))
   repeat' ((first |refine ae.aJ (by decide +kernel) rfl fun K hK =>?_|(refine .aA [0,1,4,5,7,8,9,10,11,16] hK ?_;clear hK K)|(with_reducible refine .done (hK _ ?_);clear hK K)|refine ae.of rfl ?_|(with_reducible refine aD.aI (fun h =>?_) (fun h =>?_) <;>try simp only[h])) <;>try simp only[aK,R,simprocAttr])
   all_goals clear R
   refine ⟨(i+1,xs++[y]),⟨by simp only;omega,hsn.symm⟩,by simp only;omega,?_⟩;simp only;clear hxs hsn;refine bC.dT ?_ ?_ ?_ ?_ <;>simp[cF,dB,cS,cV,av,cD,eg,I.only,I.cn,aq.only,hU,qI,cI,eC]
 ·have hge:i=l.length:=by omega
  have hc:=gW hlt;have hx2:xs=gN l n:=by rw[hxs,hge,List.take_length]
  rw[←hx2];have R:=y6 @hc (y6 @Au (y6 @bD aG))
  repeat' ((first |refine ae.aJ (by decide +kernel) rfl fun K hK =>?_|(refine .aA [0,1,4,5,7,8,9,10,11,16] hK ?_;clear hK K)|(with_reducible refine .done (hK _ ?_);clear hK K)|refine ae.of rfl ?_|(with_reducible refine aD.aI (fun h =>?_) (fun h =>?_) <;>try simp only[h])) <;>try simp only[aK,R,simprocAttr])
  all_goals clear R
section
variable {α:Type} [Enc α] {P:Program} {ab:List FuncId} {Y:Value→List I→List (Nat×aq)→cA→Prop} {K:ai→Prop} {rest:List aC} {d e esz bytes:Nat}
def kh(esz:Nat)(v:I)(os:List (Nat×aq))(l:List α)(S:List Nat):Prop:=(l=[]∧v=.c0 esz)∨∃ n q,n∈S∧v=.view n [] esz 0 l.length∧aj os n=some (.box (.agg ((l++q).map enc)))
theorem Gw{A:ai}{q:Nat}(z:I){l:List α}(hsz:Enc.sz α=esz)(ao:l≠[])(hf:A.o d=none)(hb:l.length*bytes≤140737488355328)(hml:l.length≤maxLen) :
  ∃ p:Nat→Prop,fD A (some d) e esz bytes z (enc l) rest (.c0 q)=.any p fun m=>az rest ((A.aV d (.box (.agg (l.map enc++List.replicate m z)))).aT (some d) (.view d [] esz 0 l.length)):=by
 have hne:l.map (enc (α:=α))≠[]:=by simpa using ao
 have J:eE A esz (.c0 q)=some []:=rfl;refine ⟨fun m=>l.length+m≤maxLen,?_⟩;simp only[fD,J,mN A esz l hsz,eW,if_neg hne,fN,hf,List.length_nil,Z1,Z8,if_pos (y6 hb hml),List.nil_append]
theorem Gv{A:ai}(z:I)(hsz:Enc.sz α=esz){n l:Nat}{xs ys:List α}(hy:ys≠[])(ho:A.o n=some (.box (.agg (xs.map enc))))(ao:l≤xs.length)(hr:xs.length<l+ys.length)(hf:A.o d=none)(hb:(l+ys.length)*bytes≤140737488355328)(hml:l+ys.length≤maxLen) :
  ∃ p:Nat→Prop,fD A (some d) e esz bytes z (enc ys) rest (.view n [] esz 0 l)=.any p fun m=>az rest ((A.aV d (.box (.agg ((xs.take l).map enc++(ys.map enc++List.replicate m z))))).aT (some d) (.view d [] esz 0 (l+ys.length))):=by
 have J:=tv (A:=A) (esz:=esz) (lo:=0) (k:=l) ho (by omega);have U:(I.agg (xs.map (enc (α:=α)))).at []=some (.agg (xs.map enc)):=rfl;have ar:(xs.take l).length=l:=by rw[X6];omega
 refine ⟨fun m=>l+ys.length+m≤maxLen,?_⟩;simp only[fD,J,List.drop_zero,mN A esz ys hsz,eW];rw[if_neg (by simpa using hy)];simp only[ho,U,Z8,Z1];rw[if_neg (by omega)];simp only[fN,hf,Z8,ar];rw[if_pos ⟨hb,hml⟩]
theorem Bf(z:α){ts:List (Nat×I)}{os:List (Nat×aq)}{v:I}{l ys:List α}{S:List Nat}(hsz:Enc.sz α=esz)(hg:kh esz v os l S)(hf:aj os d=none)(hb:(l.length+ys.length)*bytes≤140737488355328)(hml:l.length+ys.length≤maxLen) :
  (∃ v' os',fD (au ts os) (some d) e esz bytes (enc z) (enc ys) rest v=az rest (au ((d,v')::ts) os')∧kh esz v' os' (l++ys) (d::S)∧∀ m,m∉d::S→aj os' m=aj os m) ∨
  (∃ p,∃ v':Nat→I,∃ os':Nat→List (Nat×aq),fD (au ts os) (some d) e esz bytes (enc z) (enc ys) rest v=.any p (fun m=>az rest (au ((d,v' m)::ts) (os' m)))∧∀ k,kh esz (v' k) (os' k) (l++ys) (d::S)∧∀ m,m∉d::S→aj (os' k) m=aj os m):=by
 by_cases hy:ys=[]
 ·subst hy;rw[List.append_nil];rcases hg with ⟨rfl,rfl⟩ | ⟨n,q,hn,rfl,ho⟩
  ·exact .inl ⟨.c0 esz,os,Gx _ hsz,.inl ⟨rfl,rfl⟩,fun _ _=>rfl⟩
  ·refine .inl ⟨_,os,?_,.inr ⟨n,q,List.mem_cons_of_mem _ hn,rfl,ho⟩,fun _ _=>rfl⟩;have J:=tv (A:=au ts os) (esz:=esz) (lo:=0) (k:=l.length) ho (by simp);simp only[fD,J,mN _ esz ([]:List α) hsz,eW,X7,if_true];rfl
 ·rcases hg with ⟨rfl,rfl⟩ | ⟨n,q,hn,rfl,ho⟩
  ·obtain ⟨p,J⟩:=Gw (A:=au ts os) (rest:=rest) (e:=e) (q:=esz) (enc z) hsz hy hf (by simpa using hb) (by simpa using hml);refine .inr ⟨p,fun m=>.view d [] esz 0 ys.length,fun m=>(d,.box (.agg (ys.map enc++List.replicate m (enc z))))::os,J,fun k=>⟨.inr ⟨d,List.replicate k z,List.mem_cons_self,by simp,?_⟩,fun m hm =>?_⟩⟩
   ·simp[aj]
   ·rw[eg,if_neg (fun h=>by rw[h] at hm;exact hm List.mem_cons_self)]
  ·by_cases hr:l.length+ys.length≤(l++q).length
   ·have J:=x1 (A:=au ts os) (rest:=rest) (d:=some d) (e:=e) (bytes:=bytes) (esz:=esz) (enc z) hsz hy ho hr;have e1:(l++q).take l.length++(ys++(l++q).drop (l.length+ys.length))=(l++ys)++q.drop ys.length:=by simp[List.drop_append]
    rw[e1] at J;refine .inl ⟨_,(n,.box (.agg (((l++ys)++q.drop ys.length).map enc)))::os,J,.inr ⟨n,q.drop ys.length,List.mem_cons_of_mem _ hn,by simp,by simp[aj]⟩,fun m hm =>?_⟩;rw[eg,if_neg (fun h=>by rw[h] at hm;exact hm (List.mem_cons_of_mem _ hn))]
   ·obtain ⟨p,J⟩:=Gv (A:=au ts os) (rest:=rest) (d:=d) (e:=e) (bytes:=bytes) (esz:=esz) (enc z) hsz hy ho (by simp) (by omega) hf hb hml;refine .inr ⟨p,fun m=>.view d [] esz 0 (l.length+ys.length),fun m=>(d,.box (.agg (((l++q).take l.length).map enc++(ys.map enc++List.replicate m (enc z)))))::os,J,fun k=>⟨.inr ⟨d,List.replicate k z,List.mem_cons_self,by simp,?_⟩,fun m hm =>?_⟩⟩
    ·simp[aj]
    ·rw[eg,if_neg (fun h=>by rw[h] at hm;exact hm List.mem_cons_self)]
theorem bM.iQ(z:α){ts:List (Nat×I)}{os:List (Nat×aq)}{v:I}{l ys:List α}{S:List Nat}(hsz:Enc.sz α=esz)(hg:kh esz v os l S)(hf:aj os d=none)(hb:(l.length+ys.length)*bytes≤140737488355328)(hml:l.length+ys.length≤maxLen)
  (h:∀ v' os',kh esz v' os' (l++ys) (d::S)→(∀ m,m∉d::S→aj os' m=aj os m)→bM P Y ab K (az rest (au ((d,v')::ts) os'))):bM P Y ab K (fD (au ts os) (some d) e esz bytes (enc z) (enc ys) rest v):=by
 rcases Bf (rest:=rest) (e:=e) z hsz hg hf hb hml (ts:=ts) with ⟨v',os',J,U,ah⟩ | ⟨p,v',os',J,U⟩
 ·rw[J];exact h v' os' U ah
 ·rw[J];exact .any fun m _=>h _ _ (U m).1 (U m).2
theorem aR.iQ(z:α){ts:List (Nat×I)}{os:List (Nat×aq)}{v:I}{l ys:List α}{S:List Nat}(hsz:Enc.sz α=esz)(hg:kh esz v os l S)(hf:aj os d=none)(hb:(l.length+ys.length)*bytes≤140737488355328)(hml:l.length+ys.length≤maxLen)
  (h:∀ v' os',kh esz v' os' (l++ys) (d::S)→(∀ m,m∉d::S→aj os' m=aj os m)→aR P Y false K (az rest (au ((d,v')::ts) os'))):aR P Y false K (fD (au ts os) (some d) e esz bytes (enc z) (enc ys) rest v):=by
 rcases Bf (rest:=rest) (e:=e) z hsz hg hf hb hml (ts:=ts) with ⟨v',os',J,U,ah⟩ | ⟨p,v',os',J,U⟩
 ·rw[J];exact h v' os' U ah
 ·rw[J];exact .any rfl fun m _=>h _ _ (U m).1 (U m).2
theorem oJ(os:List (Nat×aq))(S:List Nat):kh esz (.c0 esz) os ([]:List α) S:=.inl ⟨rfl,rfl⟩
theorem oH{v:I}{os:List (Nat×aq)}{l:List α}{S:List Nat}{A:ai}(hsz:Enc.sz α=esz)(h:kh esz v os l S)(hA:∀ m∈S,A.o m=aj os m):bh true A v=some (enc l):=by
 rcases h with ⟨rfl,rfl⟩ | ⟨n,q,hn,rfl,ho⟩
 ·simp only[bh,gT,X7,hsz]
 ·have J:bh true A (.view n [] esz 0 l.length)=lv esz 0 l.length (some ((l++q).map enc)):=by
   rw[vk,hA n hn,ho];rfl
  rw[J,vi hsz,List.take_left]
end
def ec:List Int→Int→List Int
 | [],n=>[n]
 |x::l,n=>if x<n then x::ec l n else if x=n then x::l else n::x::l
theorem CG:∀ (l:List Int) (n:Int) (i:Nat) (h:i<l.length),(∀ k,k<i→∀ hk:k<l.length,l[k]<n)→l[i]=n→ec l n=l
 | [],_,_,h,_,_=>by simp at h
 |x::l,n,0,_,_,U=>by simp at U;simp[ec,U]
 |x::l,n,i+1,h,J,U=>by
  have hx:=J 0 (by omega) (by simp);simp only[List.getElem_cons_zero] at hx;rw[ec,if_pos hx,CG l n i (by simpa using h) (fun k hk ao=>J (k+1) (by omega) (by simpa using ao)) (by simpa using U)]
theorem wK:∀ (l:List Int) (n:Int) (i:Nat),i≤l.length→(∀ k,k<i→∀ hk:k<l.length,l[k]<n)→(∀ h:i<l.length,n<l[i])→ec l n=l.take i++n::l.drop i
 | [],n,i,h,_,_=>by simp[ec]
 |x::l,n,0,_,_,U=>by
  have:=U (by simp);simp only[List.getElem_cons_zero] at this;simp[ec,show ¬ x<n by omega,show ¬ x=n by omega]
 |x::l,n,i+1,h,J,U=>by
  have hx:=J 0 (by omega) (by simp);simp only[List.getElem_cons_zero] at hx;rw[ec,if_pos hx,wK l n i (by simpa using h) (fun k hk ao=>J (k+1) (by omega) (by simpa using ao)) (fun ao=>U (by simpa using ao))];rfl
theorem xi{α:Type}[Enc α]{A:ai}(esz:Nat){l:List α}{i:Nat}(h:i≤l.length)(ab:Enc.sz α=esz):jN A esz (some (.int .i64 i)) none none (enc l)=some (enc (l.drop i)):=by
 simp only[jN,gT,ab,if_true,iF,iZ,Z8];rw[if_pos ⟨by omega,by omega,by omega,by omega⟩];simp[List.take_of_length_le]
theorem rJ(l:List Int)(n:Int)(ao:l.length≤1000):bf Tryz.prog 109 [enc l,enc n] (enc (ec l n)):=by
 refine bf.b7 Tryz.func109 Hm Il Js (u8 rfl) (fun hwf W0 bI E1 =>?_);simp only[yn,CO,bK,Z1];clear hwf;have R:=y6 @bD aG
 repeat' ((first |(with_reducible refine .guard (fun hb =>?_) (fun hb =>?_) <;>try simp only[hb])|refine ae.aJ (by decide +kernel) rfl fun K hK =>?_|(refine .aA [0,1,4,5,17,31] hK ?_;clear hK K)|(with_reducible refine .done (hK _ ?_);clear hK K)|refine ae.of rfl ?_|(with_reducible refine aD.aI (fun h =>?_) (fun h =>?_) <;>try simp only[h])) <;>try simp only[aK,R,simprocAttr])
 all_goals clear R
 refine ae.loop (fun i:Nat=>au [(0,enc l),(1,.int .i64 n),(5,.int .i64 i)] []) (fun i=>i≤l.length∧∀ k,k<i→∀ h:k<l.length,l[k]<n) (fun i=>l.length-i) 0 ⟨zz5 _,fun k h=>by omega⟩ ?_ (fun i hi =>?_)
 ·refine bC.dT ?_ ?_ ?_ ?_ <;>simp[cF,dB,cS,cV,cD,I.only,cI]
 obtain ⟨hi1,hi2⟩:=hi;by_cases hlt:i<l.length
 ·have hc:=gO hlt;have he:=fun A=>fi (A:=A) 1 hlt rfl;have hw:=gR (i:=i) (by omega);rcases hp:decide (l[i]<n)
  ·have hp0:=of_decide_eq_false hp;rcases hq:(l[i]==n)
   ·have hq0:¬ l[i]=n:=by simpa using hq
    have hm:ec l n=l.take i++n::l.drop i:=wK l n i hi1 hi2 (fun h=>by omega);have R:=y6 @hc (y6 @he (y6 @hp (y6 @hq aG)))
    repeat' ((first |(with_reducible refine .guard (fun hb =>?_) (fun hb =>?_) <;>try simp only[hb])|refine ae.aJ (by decide +kernel) rfl fun K hK =>?_|(refine .aA [0,1,4,5,17,31] hK ?_;clear hK K)|(with_reducible refine .done (hK _ ?_);clear hK K)|refine ae.of rfl ?_|(with_reducible refine aD.aI (fun h =>?_) (fun h =>?_) <;>try simp only[h])) <;>try simp only[aK,R,simprocAttr])
    all_goals clear R
    refine ae.qT (gs:=p6) [] [(33,[]),(0,[]),(41,[])] [0,1,2,3,5,6,8,9,10,4,7,11,12] (by decide +kernel) (cP.of (by simp[fh,cD,qz,I.only,cI])) fun K hK =>?_;have hbs:fu 1 (some [.int .i64 n])=some (enc [n]):=jb 1 n rfl
    try simp only[eZ,p6,Y5,Y6,xj 1 hi1 rfl,xi 1 hi1 rfl,Option.map_none,Z7,hbs,kc,bE,simprocAttr]
    refine bM.iQ (0:Int) rfl (oJ _ []) rfl (by simp;omega) (by simp[maxLen];omega) fun v1 o1 g1 f1 =>?_
    try simp only[bE,simprocAttr]
    refine bM.iQ (0:Int) rfl g1 (f1 40 (by decide)) (by simp;omega) (by simp[maxLen];omega) fun v2 o2 g2 f2 =>?_
    try simp only[bE,simprocAttr]
    refine bM.iQ (0:Int) rfl g2 ((f2 44 (by decide)).trans (f1 44 (by decide))) (by simp;omega) (by simp[maxLen];omega) fun v3 o3 g3 f3 =>?_;have hf:=fun ts=>oH (A:=au ts o3) rfl g3 fun _ _=>rfl;rw[show ([]++List.take i l++[n]++List.drop i l)=ec l n by rw[hm];simp] at hf
    try simp only[bE,simprocAttr]
    refine .done (hK _ ?_);clear hK K;have R:=y6 @hf aG
    repeat' ((first |(with_reducible refine .guard (fun hb =>?_) (fun hb =>?_) <;>try simp only[hb])|refine ae.aJ (by decide +kernel) rfl fun K hK =>?_|(refine .aA [0,1,4,5,17,31] hK ?_;clear hK K)|(with_reducible refine .done (hK _ ?_);clear hK K)|refine ae.of rfl ?_|(with_reducible refine aD.aI (fun h =>?_) (fun h =>?_) <;>try simp only[h])) <;>try simp only[aK,R,simprocAttr])
    all_goals clear R
   ·have hm:ec l n=l:=CG l n i hlt hi2 (by simpa using hq);rw[hm];have R:=y6 @hc (y6 @he (y6 @hp (y6 @hq aG)))
    repeat' ((first |(with_reducible refine .guard (fun hb =>?_) (fun hb =>?_) <;>try simp only[hb])|refine ae.aJ (by decide +kernel) rfl fun K hK =>?_|(refine .aA [0,1,4,5,17,31] hK ?_;clear hK K)|(with_reducible refine .done (hK _ ?_);clear hK K)|refine ae.of rfl ?_|(with_reducible refine aD.aI (fun h =>?_) (fun h =>?_) <;>try simp only[h])) <;>try simp only[aK,R,simprocAttr])
    all_goals clear R
  ·have R:=y6 @hc (y6 @he (y6 @hp (y6 @hw aG)))
   repeat' ((first |(with_reducible refine .guard (fun hb =>?_) (fun hb =>?_) <;>try simp only[hb])|refine ae.aJ (by decide +kernel) rfl fun K hK =>?_|(refine .aA [0,1,4,5,17,31] hK ?_;clear hK K)|(with_reducible refine .done (hK _ ?_);clear hK K)|refine ae.of rfl ?_|(with_reducible refine aD.aI (fun h =>?_) (fun h =>?_) <;>try simp only[h])) <;>try simp only[aK,R,simprocAttr])
   all_goals clear R
   refine ⟨i+1,⟨by omega,fun k hk h =>?_⟩,by omega,?_⟩
   ·by_cases e:k=i
    ·subst e;exact of_decide_eq_true hp
    ·exact hi2 k (by omega) h
   ·refine bC.dT ?_ ?_ ?_ ?_ <;>simp[cF,dB,cS,cV,cD,I.only,cI]
 ·have hc:=gW hlt;have hge:i=l.length:=by omega
  have hm:ec l n=l.take i++n::l.drop i:=wK l n i hi1 hi2 (fun h=>absurd h hlt);have R:=y6 @hc aG
  repeat' ((first |(with_reducible refine .guard (fun hb =>?_) (fun hb =>?_) <;>try simp only[hb])|refine ae.aJ (by decide +kernel) rfl fun K hK =>?_|(refine .aA [0,1,4,5,17,31] hK ?_;clear hK K)|(with_reducible refine .done (hK _ ?_);clear hK K)|refine ae.of rfl ?_|(with_reducible refine aD.aI (fun h =>?_) (fun h =>?_) <;>try simp only[h])) <;>try simp only[aK,R,simprocAttr])
  all_goals clear R
  refine ae.qT (gs:=p6) [] [(33,[]),(0,[]),(41,[])] [0,1,2,3,5,6,8,9,10,4,7,11,12] (by decide +kernel) (cP.of (by simp[fh,cD,qz,I.only,cI])) fun K hK =>?_;have hbs:fu 1 (some [.int .i64 n])=some (enc [n]):=jb 1 n rfl
  try simp only[eZ,p6,Y5,Y6,xj 1 hi1 rfl,xi 1 hi1 rfl,Option.map_none,Z7,hbs,kc,bE,simprocAttr]
  refine bM.iQ (0:Int) rfl (oJ _ []) rfl (by simp;omega) (by simp[maxLen];omega) fun v1 o1 g1 f1 =>?_
  try simp only[bE,simprocAttr]
  refine bM.iQ (0:Int) rfl g1 (f1 40 (by decide)) (by simp;omega) (by simp[maxLen];omega) fun v2 o2 g2 f2 =>?_
  try simp only[bE,simprocAttr]
  refine bM.iQ (0:Int) rfl g2 ((f2 44 (by decide)).trans (f1 44 (by decide))) (by simp;omega) (by simp[maxLen];omega) fun v3 o3 g3 f3 =>?_;have hf:=fun ts=>oH (A:=au ts o3) rfl g3 fun _ _=>rfl;rw[show ([]++List.take i l++[n]++List.drop i l)=ec l n by rw[hm];simp] at hf
  try simp only[bE,simprocAttr]
  refine .done (hK _ ?_);clear hK K;have R:=y6 @hf aG
  repeat' ((first |(with_reducible refine .guard (fun hb =>?_) (fun hb =>?_) <;>try simp only[hb])|refine ae.aJ (by decide +kernel) rfl fun K hK =>?_|(refine .aA [0,1,4,5,17,31] hK ?_;clear hK K)|(with_reducible refine .done (hK _ ?_);clear hK K)|refine ae.of rfl ?_|(with_reducible refine aD.aI (fun h =>?_) (fun h =>?_) <;>try simp only[h])) <;>try simp only[aK,R,simprocAttr])
  all_goals clear R
def pj:da:=⟨0,0,0,false⟩
theorem uS:I.agg [.int .i64 0,.int .i64 0,.int .i64 0,.bool false]=enc pj:=rfl
def xc:gS:=⟨0,0,0,0⟩
theorem Lo:I.agg [.int .i64 0,.int .i64 0,.int .i64 0,.int .i64 0]=enc xc:=rfl
def iN(s:cd)(i:Nat):cd := { s with bB:=s.bB.take i++s.bB.drop (i+1) }
def jv(v:I):Prop:=v.bS=true∧b5 none v=true∧v.aX=.one∧v.size=1
theorem VN(l:List da):jv (enc l):=⟨ep _,by simp[lq,lp],(eH l).trans nh,by rw[kB,jV]⟩
theorem wv(l:List gS):jv (enc l):=⟨ep _,by simp[lq,lp],(eH l).trans nh,by rw[kB,jV]⟩
theorem oI{α:Type}[Enc α]{esz:Nat}{v:I}{os:List (Nat×aq)}{l:List α}{S:List Nat}(h:kh esz v os l S):jv v:=by
 rcases h with ⟨_,rfl⟩ | ⟨n,q,_,rfl,_⟩ <;>exact ⟨rfl,rfl,rfl,rfl⟩
theorem Xf{a s:Int}{h:List Int}{r e:I}(hr:jv r)(he:jv e):(gn a (enc h) s r e).aX=.eD [.one,.one,.one,.one,.one]:=by
 simp only[gn,I.aX,I.cT,eH,nh,hr.2.2.1,he.2.2.1]
theorem Ez{a s:Int}{h:List Int}{r e:I}(hr:jv r)(he:jv e):b5 (some 5) (gn a (enc h) s r e)=true:=by
 simp[b5,gn,I.isAgg,I.size,I.sizes,kB,jV,hr.2.2.2,he.2.2.2]
theorem tA{a s:Int}{h:List Int}{r e:I}(hr:jv r)(he:jv e):b5 (some 5) (gn a (enc h) s r e)=true∧(∀ A n rest x y,dk A (some 5) n [] (.agg [.int .i64 x,.nils 1,.int .i64 y,.nils 4,.nils 4]) (gn a (enc h) s r e) rest (some (.agg [.int .i64 x,.nils 1,.int .i64 y,.nils 4,.nils 4]))=az rest (A.aV n (.box (gn a (enc h) s r e)))) :=
 ⟨Ez hr he,fun A n rest x y=>dP rfl (Ez hr he) (Xf hr he)⟩
theorem xm{q:cd}{v:I}(hv:jv v):∀ A n rest,dk A none n [3] (enc q) v rest (some (enc q.bB))=az rest (A.aV n (.box (gn q.aw (enc q.here) q.dw v (enc q.bn)))) :=
 fun A n rest=>(dP hv.1 hv.2.1 (hv.2.2.1.trans ((eH _).trans nh).symm)).trans rfl
theorem Xe{q:cd}{v:I}(hv:jv v):∀ A n rest,dk A none n [4] (enc q) v rest (some (enc q.bn))=az rest (A.aV n (.box (gn q.aw (enc q.here) q.dw (enc q.bB) v))) :=
 fun A n rest=>(dP hv.1 hv.2.1 (hv.2.2.1.trans ((eH _).trans nh).symm)).trans rfl
theorem tB{A:ai}{a s:Int}{h:List Int}{r e:I}{rs:List da}{es:List gS}(hr:bh true A r=some (enc rs))(he:bh true A e=some (enc es)):bh true A (gn a (enc h) s r e)=some (enc (⟨a,h,s,rs,es⟩:cd)):=by
 have U:∀ k n,bh true A (.int k n)=some (.int k n):=fun k n=>by simp only[bh]
 have ah:bh true A (enc h)=some (enc h):=by simp only[ln]
 simp only[gn,vj,vl,vn,hr,he,U,ah,jT,Z7];rfl
theorem xy(s:cd)(i:Nat)(hi:i<s.bB.length)(ao:s.bB.length≤1000):bf Tryz.prog 111 [enc s,enc (i:Int)] (enc (iN s i)):=by
 refine bf.b7 Tryz.func111 Ho Io Ju (u8 rfl) (fun hwf W0 bI E1 =>?_);simp only[yq,CQ,bK,Z1];clear hwf;have hc:=gO hi;have hw:=gR (i:=i) (by omega);have hle:i≤s.bB.length:=by omega
 have af:(s.bB.take i).length+(s.bB.drop (i+1)).length≤1000:=by rw[X6,List.length_drop];omega
 have hd0:(s.bB.take i).length≤1000:=by omega
 have R:=y6 @hc (y6 @hw (y6 @cE aG))
 repeat' ((first |refine ae.aJ (by decide +kernel) rfl fun K hK =>?_|(refine .aA [0,1,2,4] hK ?_;clear hK K)|(with_reducible refine .done (hK _ ?_);clear hK K)|refine ae.of rfl ?_|(with_reducible refine aD.aI (fun h =>?_) (fun h =>?_) <;>try simp only[h])) <;>try simp only[aK,R,simprocAttr])
 all_goals clear R
 refine ae.qT (gs:=vq) [] [(5,[])] [0,1,2,3,4,6,7,8,9,10,5,11,12,13] (by decide +kernel) (cP.of (by simp[fh,cD,qz,I.only])) fun K hK =>?_
 try simp only[eZ,vq,Y5,Y6,xj 4 hle rfl,xi 4 (show i+1≤s.bB.length by omega) rfl,Option.map_none,Z7,hw,uS,kc,cE,aG,bE,simprocAttr]
 refine bM.iQ pj rfl (oJ _ []) rfl (by simp;omega) (by simp[maxLen];omega) fun v1 o1 g1 f1 =>?_
 try simp only[bE,simprocAttr]
 refine bM.iQ pj rfl g1 (f1 16 (by decide)) (by simp;omega) (by simp[maxLen];omega) fun v2 o2 g2 f2 =>?_;have ho2:aj o2 2=some (.box (enc s)):=(f2 2 (by decide)).trans (f1 2 (by decide));have ho4:aj o2 4=some (.box (.agg [.int .i64 0,.nils 1,.int .i64 0,.nils 4,.nils 4])):=(f2 4 (by decide)).trans (f1 4 (by decide));have ab:=xm (q:=s) (oI g2);have ht:=tA (a:=s.aw) (h:=s.here) (s:=s.dw) (oI g2) (wv s.bn);have hf:∀ ts os,aj os 10=aj o2 10→aj os 16=aj o2 16→bh true (au ts os) (gn s.aw (enc s.here) s.dw v2 (enc s.bn))=some (enc (iN s i)):=fun ts os J U =>
  (tB (oH rfl g2 (by intro m hm;simp only[zz8,List.not_mem_nil,or_false] at hm;rcases hm with rfl | rfl;exact U;exact J)) (by simp only[ln])).trans rfl
 try simp only[ho2,ab,cE,aG,bE,simprocAttr]
 refine .done (hK _ ?_);clear hK K;have R:=y6 @ho4 (y6 @ht (y6 @hf (y6 @cE aG)))
 repeat' ((first |refine ae.aJ (by decide +kernel) rfl fun K hK =>?_|(refine .aA [0,1,2,4] hK ?_;clear hK K)|(with_reducible refine .done (hK _ ?_);clear hK K)|refine ae.of rfl ?_|(with_reducible refine aD.aI (fun h =>?_) (fun h =>?_) <;>try simp only[h])) <;>try simp only[aK,R,simprocAttr])
 all_goals clear R
theorem G8(a b c d:Int):(dK [.int .i64 0,.int .i64 0,.int .i64 0,.int .i64 0] [(0,.int .i64 a),(1,.int .i64 b),(2,.int .i64 c),(3,.int .i64 d)]).map I.agg=some (enc (⟨a,b,c,d⟩:gS)):=by simp[dK,I.bS,I.size];rfl
def fS(s:cd)(x:bg):cd := { s with bn:=s.bn++[⟨x.kind,x.other,x.no,x.aH⟩] }
theorem xz(s:cd)(x:bg)(ao:s.bn.length≤1000):bf Tryz.prog 112 [enc s,enc x] (enc (fS s x)):=by
 refine bf.b7 Tryz.func112 Hp Ip Jv (u8 rfl) (fun hwf W0 bI E1 =>?_);simp only[yr,CR,bK,Z1];clear hwf;have hbs:∀ y:gS,fu 4 (some [enc y])=some (enc [y]):=fun y=>jb 4 y rfl;have R:=y6 @cE aG
 repeat' ((first |refine ae.aJ (by decide +kernel) rfl fun K hK =>?_|(refine .aA [0,1,2,3,4] hK ?_;clear hK K)|(with_reducible refine .done (hK _ ?_);clear hK K)|refine ae.of rfl ?_|(with_reducible refine aD.aI (fun h =>?_) (fun h =>?_) <;>try simp only[h])) <;>try simp only[aK,R,simprocAttr])
 all_goals clear R
 refine ae.qT (gs:=vr) [] [(5,[])] [0,1,2,4,5,6,7,8,9,10,11,12,13,3,14,15,16] (by decide +kernel) (cP.of (by simp[fh,cD,qz,I.only])) fun K hK =>?_
 try simp only[eZ,vr,Y5,Y6,List.nil_append,Lo,G8,kc,hbs,cE,aG,bE,simprocAttr]
 refine bM.iQ xc rfl (oJ _ []) rfl (by simp;omega) (by simp[maxLen];omega) fun v1 o1 g1 f1 =>?_
 try simp only[bE,simprocAttr]
 refine bM.iQ xc rfl g1 (f1 19 (by decide)) (by simp;omega) (by simp[maxLen];omega) fun v2 o2 g2 f2 =>?_;have ho2:aj o2 2=some (.box (enc s)):=(f2 2 (by decide)).trans (f1 2 (by decide));have ho4:aj o2 4=some (.box (.agg [.int .i64 0,.nils 1,.int .i64 0,.nils 4,.nils 4])):=(f2 4 (by decide)).trans (f1 4 (by decide));have ab:=Xe (q:=s) (oI g2);have ht:=tA (a:=s.aw) (h:=s.here) (s:=s.dw) (VN s.bB) (oI g2);have hf:∀ ts os,aj os 8=aj o2 8→aj os 19=aj o2 19→bh true (au ts os) (gn s.aw (enc s.here) s.dw (enc s.bB) v2)=some (enc (fS s x)):=fun ts os J U =>
  (tB (by simp only[ln]) (oH rfl g2 (by intro m hm;simp only[zz8,List.not_mem_nil,or_false] at hm;rcases hm with rfl | rfl;exact U;exact J))).trans rfl
 try simp only[ho2,ab,cE,aG,bE,simprocAttr]
 refine .done (hK _ ?_);clear hK K;have R:=y6 @ho4 (y6 @ht (y6 @hf (y6 @cE aG)))
 repeat' ((first |refine ae.aJ (by decide +kernel) rfl fun K hK =>?_|(refine .aA [0,1,2,3,4] hK ?_;clear hK K)|(with_reducible refine .done (hK _ ?_);clear hK K)|refine ae.of rfl ?_|(with_reducible refine aD.aI (fun h =>?_) (fun h =>?_) <;>try simp only[h])) <;>try simp only[aK,R,simprocAttr])
 all_goals clear R
def gP(s:cd)(x:bg):Bool:=match jk s x.no with
 |some i=>match s.bB[i]? with
  |some r=>r.to==x.other&&r.aH==x.aH
  |none=>false
 |none=>false
def ov(s:cd)(x:bg):Bool:=match jk s x.no with
 |some i=>match s.bB[i]? with
  |some r=>r.dp
  |none=>false
 |none=>false
def atR(s:cd)(x:bg):Nat:=(jk s x.no).getD 0
def cG(s:cd)(x:bg):cd×Bool :=
 if x.kind=1 then if decide (x.aH∈s.here)||h4 s x.aH then (s,false) else ({ s with here:=ec s.here x.aH },true)
 else if x.kind=2 then ({ s with here:=gN s.here x.aH },decide (x.aH∈s.here))
 else if x.kind=3 then if x.aH∉s.here∨x.other=s.aw∨x.no≠s.dw+1 then (s,false) else ({ s with here:=gN s.here x.aH,dw:=x.no,bB:=s.bB++[⟨x.no,x.other,x.aH,false⟩] },true)
 else if x.kind=4 then if gP s x && !ov s x then ({ s with bB:=s.bB.modify (atR s x) fun r => { r with dp:=true } },true) else (s,false)
 else if x.kind=5 then if gP s x then (iN s (atR s x),true) else (s,false)
 else if x.kind=6 then if gP s x&&ov s x then ({ iN s (atR s x) with here:=ec s.here x.aH },true) else (s,false)
 else if x.other=s.aw∨iR s x.other x.no≠0 then (s,false)
 else if x.kind=7 then if decide (x.aH∈s.here)||h4 s x.aH then (s,false) else (fS { s with here:=ec s.here x.aH } x,true)
 else (fS s x,true)
theorem Eb(s:cd)(no:Int):(jk s no=none∧j7 s no=-1)∨∃ i,∃ h:i<s.bB.length,jk s no=some i∧j7 s no=(i:Int)∧(s.bB[i]).no=no:=by
 cases h:jk s no with
 |none=>exact .inl ⟨rfl,by simp[j7,h]⟩
 |some i =>
  obtain ⟨J,U,_⟩:=List.findIdx?_eq_some_iff_getElem.1 h;exact .inr ⟨i,J,rfl,by simp[j7,h],of_decide_eq_true U⟩
def kl(s:cd)(x:bg):ai:=au [(2,.ptr 2 []),(3,.ptr 3 []),(4,.ptr 4 []),(5,.bool false),(6,.bool (decide (x.aH∈s.here))),(7,.int .i64 (j7 s x.no)),(8,.bool (gP s x))] [(4,.box (.agg [.int .i64 0,.nils 1,.int .i64 0,.nils 4,.nils 4])),(3,.box (enc x)),(2,.box (enc s))]
theorem mB{W0:World}{bI:aP}{n:Nat}{own c9:_}(y:br)(Q:Exit→ai→Prop)(s:cd)(x:bg)(ao:s.bB.length≤1000)
  (h:ae { P:=Tryz.prog,fM:=W0,bI:=bI,n:=n,own:=own,c9:=c9,Y:=dh,kN:=none } y Q (kl s x)) :
  ae { P:=Tryz.prog,fM:=W0,bI:=bI,n:=n,own:=own,c9:=c9,Y:=dh,kN:=none } (.seq (.cg none AQ) (.seq (.cg none AR) (.seq (.cg none AS) (.seq (.cg z8 AT) y)))) Q (au [(0,enc s),(1,enc x)] []):=by
 have hF1:=FR s.here x.aH;have hF2:=FT s x.no ao;have hg:decide ((-1:Int)≥0)=false:=rfl;unfold kl at h;rcases Eb s x.no with ⟨J,U⟩ | ⟨i,hi,J,U,-⟩
 ·have hm:gP s x=false:=by simp only[gP,J]
  rw[U] at hF2 h;rw[hm] at h;have R:=y6 @hg (y6 @cE (y6 @bD aG))
  repeat' ((first |(with_reducible refine .guard (fun hb =>?_) (fun hb =>?_) <;>try simp only[hb])|refine ae.aJ (by decide +kernel) rfl fun K hK =>?_|refine .flat _ (hF1) rfl ?_|refine .flat _ (hF2) rfl ?_|(refine .aA [0,1,2,3,4,5,6,7,8,45,46,54,63,73,91,117,128,141,144,149,161,186,190,197] hK ?_;clear hK K)|(with_reducible refine .done (hK _ ?_);clear hK K)|refine ae.of rfl ?_|(with_reducible refine aD.aI (fun h =>?_) (fun h =>?_) <;>try simp only[h])) <;>try simp only[aK,R,decide_false,simprocAttr])
  all_goals clear R
  refine ae.sub ?_ h;refine bC.dT ?_ ?_ ?_ ?_ <;>simp[cF,dB,cS,cV,av,cD,eg,I.only,I.cn,aq.only,cI]
 ·have hm:gP s x=((s.bB[i]).to==x.other&&(s.bB[i]).aH==x.aH):=by simp only[gP,J,Y2 hi]
  have hx:(if 0>(i:Int) then 0 else (i:Int))=(i:Int):=if_neg (by omega);have hg2:decide ((i:Int)≥0)=true:=by simp
  have he:=fun A=>fi (A:=A) 4 hi rfl;rw[U] at hF2 h;rw[hm] at h;rcases q1:((s.bB[i]).to==x.other)
  ·rw[q1,Bool.false_and] at h;have R:=y6 @hg2 (y6 @hx (y6 @he (y6 @q1 (y6 @cE (y6 @bD aG)))))
   repeat' ((first |(with_reducible refine .guard (fun hb =>?_) (fun hb =>?_) <;>try simp only[hb])|refine ae.aJ (by decide +kernel) rfl fun K hK =>?_|refine .flat _ (hF1) rfl ?_|refine .flat _ (hF2) rfl ?_|(refine .aA [0,1,2,3,4,5,6,7,8,45,46,54,63,73,91,117,128,141,144,149,161,186,190,197] hK ?_;clear hK K)|(with_reducible refine .done (hK _ ?_);clear hK K)|refine ae.of rfl ?_|(with_reducible refine aD.aI (fun h =>?_) (fun h =>?_) <;>try simp only[h])) <;>try simp only[aK,R,decide_true,simprocAttr])
   all_goals clear R
   refine ae.sub ?_ h;refine bC.dT ?_ ?_ ?_ ?_ <;>simp[cF,dB,cS,cV,av,cD,eg,I.only,I.cn,aq.only,cI]
  ·rw[q1,Bool.true_and] at h;have R:=y6 @hg2 (y6 @hx (y6 @he (y6 @q1 (y6 @cE (y6 @bD aG)))))
   repeat' ((first |(with_reducible refine .guard (fun hb =>?_) (fun hb =>?_) <;>try simp only[hb])|refine ae.aJ (by decide +kernel) rfl fun K hK =>?_|refine .flat _ (hF1) rfl ?_|refine .flat _ (hF2) rfl ?_|(refine .aA [0,1,2,3,4,5,6,7,8,45,46,54,63,73,91,117,128,141,144,149,161,186,190,197] hK ?_;clear hK K)|(with_reducible refine .done (hK _ ?_);clear hK K)|refine ae.of rfl ?_|(with_reducible refine aD.aI (fun h =>?_) (fun h =>?_) <;>try simp only[h])) <;>try simp only[aK,R,decide_true,simprocAttr])
   all_goals clear R
   refine ae.sub ?_ h;refine bC.dT ?_ ?_ ?_ ?_ <;>simp[cF,dB,cS,cV,av,cD,eg,I.only,I.cn,aq.only,cI]
structure kj (s:cd):Prop where
 ao:s.bB.length≤1000
 bH:s.here.length≤1000
 ab:s.bn.length≤1000
 aW:0≤s.dw
 J:s.dw≤1000
theorem fP(b:Bool):b=false∨b=true:=by cases b <;>simp
theorem FJ(s:cd)(x:bg)(ab:kj s)(hk:x.kind=1):bf Tryz.prog 76 [enc s,enc x] (.tuple [enc (cG s x).1,enc (cG s x).2]):=by
 refine bf.b7 Tryz.func76 l9 ma mb (u8 rfl) (fun hwf W0 bI E1 =>?_);simp only[lg,lL,bK,Z1];clear hwf;refine mB _ _ s x ab.ao ?_;unfold kl;have hk1:(x.kind==1)=true:=by rw[hk];rfl
 have hF1:=tQ s x.aH ab.ao;have hF2:=rJ s.here x.aH ab.bH;rcases fP (decide (x.aH∈s.here)) with q | q
 ·rcases fP (h4 s x.aH) with q2 | q2
  ·rw[show cG s x=({ s with here:=ec s.here x.aH },true) by simp only[cG,hk,q,q2];rfl];have R:=y6 @hk1 (y6 @q (y6 @q2 (y6 @cE (y6 @bD aG))))
   repeat' ((first |(with_reducible refine .guard (fun hb =>?_) (fun hb =>?_) <;>try simp only[hb])|refine ae.aJ (by decide +kernel) rfl fun K hK =>?_|refine .flat _ (hF1) rfl ?_|refine .lead _ (hF2) ?_|(refine .aA [0,1,2,3,4,5,6,7,8,45,46,54,63,73,91,117,128,141,144,149,161,186,190,197] hK ?_;clear hK K)|(with_reducible refine .done (hK _ ?_);clear hK K)|refine ae.of rfl ?_|(with_reducible refine aD.aI (fun h =>?_) (fun h =>?_) <;>try simp only[h])) <;>try simp only[aK,R,simprocAttr])
   all_goals clear R
  ·rw[show cG s x=(s,false) by simp only[cG,hk,q,q2];rfl];have R:=y6 @hk1 (y6 @q (y6 @q2 (y6 @cE (y6 @bD aG))))
   repeat' ((first |(with_reducible refine .guard (fun hb =>?_) (fun hb =>?_) <;>try simp only[hb])|refine ae.aJ (by decide +kernel) rfl fun K hK =>?_|refine .flat _ (hF1) rfl ?_|refine .lead _ (hF2) ?_|(refine .aA [0,1,2,3,4,5,6,7,8,45,46,54,63,73,91,117,128,141,144,149,161,186,190,197] hK ?_;clear hK K)|(with_reducible refine .done (hK _ ?_);clear hK K)|refine ae.of rfl ?_|(with_reducible refine aD.aI (fun h =>?_) (fun h =>?_) <;>try simp only[h])) <;>try simp only[aK,R,simprocAttr])
   all_goals clear R
 ·rw[show cG s x=(s,false) by simp only[cG,hk,q];rfl];have R:=y6 @hk1 (y6 @q (y6 @cE (y6 @bD aG)))
  repeat' ((first |(with_reducible refine .guard (fun hb =>?_) (fun hb =>?_) <;>try simp only[hb])|refine ae.aJ (by decide +kernel) rfl fun K hK =>?_|refine .flat _ (hF1) rfl ?_|refine .lead _ (hF2) ?_|(refine .aA [0,1,2,3,4,5,6,7,8,45,46,54,63,73,91,117,128,141,144,149,161,186,190,197] hK ?_;clear hK K)|(with_reducible refine .done (hK _ ?_);clear hK K)|refine ae.of rfl ?_|(with_reducible refine aD.aI (fun h =>?_) (fun h =>?_) <;>try simp only[h])) <;>try simp only[aK,R,simprocAttr])
  all_goals clear R
theorem FK(s:cd)(x:bg)(ab:kj s)(hk:x.kind=2):bf Tryz.prog 76 [enc s,enc x] (.tuple [enc (cG s x).1,enc (cG s x).2]):=by
 refine bf.b7 Tryz.func76 l9 ma mb (u8 rfl) (fun hwf W0 bI E1 =>?_);simp only[lg,lL,bK,Z1];clear hwf;refine mB _ _ s x ab.ao ?_;unfold kl;have hk1:(x.kind==1)=false:=by rw[hk];rfl
 have hk2:(x.kind==2)=true:=by rw[hk];rfl
 have hF2:=xw s.here x.aH ab.bH;rw[show cG s x=({ s with here:=gN s.here x.aH },decide (x.aH∈s.here)) by simp only[cG,hk];rfl];have R:=y6 @hk1 (y6 @hk2 (y6 @cE (y6 @bD aG)))
 repeat' ((first |(with_reducible refine .guard (fun hb =>?_) (fun hb =>?_) <;>try simp only[hb])|refine ae.aJ (by decide +kernel) rfl fun K hK =>?_|refine .lead _ (hF2) ?_|(refine .aA [0,1,2,3,4,5,6,7,8,45,46,54,63,73,91,117,128,141,144,149,161,186,190,197] hK ?_;clear hK K)|(with_reducible refine .done (hK _ ?_);clear hK K)|refine ae.of rfl ?_|(with_reducible refine aD.aI (fun h =>?_) (fun h =>?_) <;>try simp only[h])) <;>try simp only[aK,R,simprocAttr])
 all_goals clear R
theorem FL(s:cd)(x:bg)(ab:kj s)(hk:x.kind=3):bf Tryz.prog 76 [enc s,enc x] (.tuple [enc (cG s x).1,enc (cG s x).2]):=by
 refine bf.b7 Tryz.func76 l9 ma mb (u8 rfl) (fun hwf W0 bI E1 =>?_);simp only[lg,lL,bK,Z1];clear hwf;refine mB _ _ s x ab.ao ?_;unfold kl;have hk1:(x.kind==1)=false:=by rw[hk];rfl
 have hk2:(x.kind==2)=false:=by rw[hk];rfl
 have hk3:(x.kind==3)=true:=by rw[hk];rfl
 have hw:IntKind.i64.wrap (s.dw+1)=s.dw+1:=by have:=ab.aW;have:=ab.J;exact l3 _ (by omega) (by omega)
 have hF2:=xw s.here x.aH ab.bH;have e3:cG s x=if x.aH∉s.here∨x.other=s.aw∨x.no≠s.dw+1 then (s,false) else ({ s with here:=gN s.here x.aH,dw:=x.no,bB:=s.bB++[⟨x.no,x.other,x.aH,false⟩] },true):=by simp only[cG,hk];rfl
 rcases fP (decide (x.aH∈s.here)) with q | q
 ·rw[e3,if_pos (.inl (of_decide_eq_false q))];have R:=y6 @hk1 (y6 @hk2 (y6 @hk3 (y6 @q (y6 @cE (y6 @bD aG)))))
  repeat' ((first |(with_reducible refine .guard (fun hb =>?_) (fun hb =>?_) <;>try simp only[hb])|refine ae.aJ (by decide +kernel) rfl fun K hK =>?_|refine .lead _ (hF2) ?_|(refine .aA [0,1,2,3,4,5,6,7,8,45,46,54,63,73,91,117,128,141,144,149,161,186,190,197] hK ?_;clear hK K)|(with_reducible refine .done (hK _ ?_);clear hK K)|refine ae.of rfl ?_|(with_reducible refine aD.aI (fun h =>?_) (fun h =>?_) <;>try simp only[h])) <;>try simp only[aK,R,simprocAttr])
  all_goals clear R
 rcases fP (x.other==s.aw) with q2 | q2
 rotate_left
 ·rw[e3,if_pos (.inr (.inl (by simpa using q2)))];have R:=y6 @hk1 (y6 @hk2 (y6 @hk3 (y6 @q (y6 @q2 (y6 @cE (y6 @bD aG))))))
  repeat' ((first |(with_reducible refine .guard (fun hb =>?_) (fun hb =>?_) <;>try simp only[hb])|refine ae.aJ (by decide +kernel) rfl fun K hK =>?_|refine .lead _ (hF2) ?_|(refine .aA [0,1,2,3,4,5,6,7,8,45,46,54,63,73,91,117,128,141,144,149,161,186,190,197] hK ?_;clear hK K)|(with_reducible refine .done (hK _ ?_);clear hK K)|refine ae.of rfl ?_|(with_reducible refine aD.aI (fun h =>?_) (fun h =>?_) <;>try simp only[h])) <;>try simp only[aK,R,simprocAttr])
  all_goals clear R
 rcases fP (x.no != s.dw+1) with q3 | q3
 rotate_left
 ·rw[e3,if_pos (.inr (.inr (by simpa using q3)))];have R:=y6 @hk1 (y6 @hk2 (y6 @hk3 (y6 @q (y6 @q2 (y6 @q3 (y6 @hw (y6 @cE (y6 @bD aG))))))))
  repeat' ((first |(with_reducible refine .guard (fun hb =>?_) (fun hb =>?_) <;>try simp only[hb])|refine ae.aJ (by decide +kernel) rfl fun K hK =>?_|refine .lead _ (hF2) ?_|(refine .aA [0,1,2,3,4,5,6,7,8,45,46,54,63,73,91,117,128,141,144,149,161,186,190,197] hK ?_;clear hK K)|(with_reducible refine .done (hK _ ?_);clear hK K)|refine ae.of rfl ?_|(with_reducible refine aD.aI (fun h =>?_) (fun h =>?_) <;>try simp only[h])) <;>try simp only[aK,R,simprocAttr])
  all_goals clear R
 have J:x.aH∈s.here:=of_decide_eq_true q;have U:¬ x.other=s.aw:=by simpa using q2
 have ah:x.no=s.dw+1:=by simpa using q3
 rw[e3,if_neg (fun h=>h.elim (fun h=>h J) fun h=>h.elim U fun h=>h ah)];have ao:=ab.ao;obtain ⟨q0,hq0⟩:∃ q0:cd,q0 = { s with here:=gN s.here x.aH,dw:=x.no } :=⟨_,rfl⟩
 have hr0:q0.bB=s.bB:=by rw[hq0]
 have R:=y6 @hk1 (y6 @hk2 (y6 @hk3 (y6 @q (y6 @q2 (y6 @q3 (y6 @hw (y6 @cE (y6 @bD aG))))))))
 repeat' ((first |(with_reducible refine .guard (fun hb =>?_) (fun hb =>?_) <;>try simp only[hb])|refine ae.aJ (by decide +kernel) rfl fun K hK =>?_|refine .lead _ (hF2) ?_|(refine .aA [0,1,2,3,4,5,6,7,8,45,46,54,63,73,91,117,128,141,144,149,161,186,190,197] hK ?_;clear hK K)|(with_reducible refine .done (hK _ ?_);clear hK K)|refine ae.of rfl ?_|(with_reducible refine aD.aI (fun h =>?_) (fun h =>?_) <;>try simp only[h])) <;>try simp only[aK,R,simprocAttr])
 all_goals clear R
 rw[←hq0];refine ae.qT (gs:=vz) [] [(102,[])] [0,1,2,4,5,6,7,8,9,10,11,3,12,13,14] (by decide +kernel) (cP.of (by simp[fh,cD,qz,I.only])) fun K hK =>?_;have hbs:∀ y:da,fu 4 (some [enc y])=some (enc [y]):=fun y=>jb 4 y rfl
 try simp only[eZ,vz,Y5,Y6,List.nil_append,uS,r2,kc,hbs,cE,aG,bE,simprocAttr]
 refine bM.iQ pj rfl (oJ _ []) rfl (by simp[hr0];omega) (by simp[maxLen,hr0];omega) fun v1 o1 g1 f1 =>?_
 try simp only[bE,simprocAttr]
 refine bM.iQ pj rfl g1 (f1 114 (by decide)) (by simp[hr0];omega) (by simp[maxLen,hr0];omega) fun v2 o2 g2 f2 =>?_;have ho2:aj o2 2=some (.box (enc q0)):=(f2 2 (by decide)).trans (f1 2 (by decide));have ho4:aj o2 4=some (.box (.agg [.int .i64 0,.nils 1,.int .i64 0,.nils 4,.nils 4])):=(f2 4 (by decide)).trans (f1 4 (by decide));have ab:=xm (q:=q0) (oI g2);have ht:=tA (a:=q0.aw) (h:=q0.here) (s:=q0.dw) (oI g2) (wv q0.bn);have hf:∀ ts os,aj os 105=aj o2 105→aj os 114=aj o2 114→bh true (au ts os) (gn q0.aw (enc q0.here) q0.dw v2 (enc q0.bn))=some (enc ({ s with here:=gN s.here x.aH,dw:=x.no,bB:=s.bB++[⟨x.no,x.other,x.aH,false⟩] } : cd)):=fun ts os J U =>
  (tB (es:=q0.bn) (oH rfl g2 (by intro m hm;simp only[zz8,List.not_mem_nil,or_false] at hm;rcases hm with rfl | rfl;exact U;exact J)) (by simp only[ln])).trans (by rw[hq0];rfl)
 try simp only[ho2,ab,cE,aG,bE,simprocAttr]
 refine .done (hK _ ?_);clear hK K;have R:=y6 @ho4 (y6 @ht (y6 @hf (y6 @cE aG)))
 repeat' ((first |(with_reducible refine .guard (fun hb =>?_) (fun hb =>?_) <;>try simp only[hb])|refine ae.aJ (by decide +kernel) rfl fun K hK =>?_|(refine .aA [0,1,2,3,4,5,6,7,8,45,46,54,63,73,91,117,128,141,144,149,161,186,190,197] hK ?_;clear hK K)|(with_reducible refine .done (hK _ ?_);clear hK K)|refine ae.of rfl ?_|(with_reducible refine aD.aI (fun h =>?_) (fun h =>?_) <;>try simp only[h])) <;>try simp only[aK,R,simprocAttr])
 all_goals clear R
theorem vZ{s:cd}{x:bg}(h:gP s x=true):∃ i,∃ h:i<s.bB.length,jk s x.no=some i∧j7 s x.no=(i:Int)∧atR s x=i∧ov s x=(s.bB[i]).dp:=by
 rcases Eb s x.no with ⟨J,U⟩ | ⟨i,hi,J,U,-⟩
 ·simp only[gP,J] at h;cases h
 ·exact ⟨i,hi,J,U,by simp only[atR,J];rfl,by simp only[ov,J,Y2 hi]⟩
theorem BU{α β:Type}(e:α→β)(f:α→α):∀ (l:List α) (i:Nat) (h:i<l.length),(l.map e).set i (e (f l[i]))=(l.modify i f).map e
 |x::l,0,_=>rfl
 |x::l,i+1,h=>by
  have:=BU e f l i (by simpa using h);simp only[Z3,List.set_cons_succ,List.modify_succ_cons,List.getElem_cons_succ,this]
theorem Xa{A:ai}{n i:Nat}{xs:List da}{c v:Bool}{rest:List aC}(hi:i<xs.length):dk A none n [i,3] (.agg (xs.map enc)) (.bool v) rest (some (.bool c))=az rest (A.aV n (.box (.agg ((xs.modify i fun r => { r with dp:=v }).map enc)))):=by
 rw[dP (s:=none) (v:=.bool v) (old:=.bool c) rfl rfl rfl];have U:(xs.map (enc (α:=da)))[i]?=some (enc xs[i]):=by simp[hi]
 have ah:(enc xs[i]:I).eh [3] (.bool v)=enc ({ xs[i] with dp:=v } : da):=rfl;have ar:(xs.map (enc (α:=da))).set i (enc ({ xs[i] with dp:=v } : da))=(xs.modify i fun r => { r with dp:=v }).map enc:=BU enc (fun r:da => { r with dp:=v }) xs i hi;simp only[I.eh,U,ah,ar]
theorem GB{i:Nat}{xs:List da}(hi:i<xs.length):l8 i [3] (some (xs.map enc))=some (.bool (xs[i]).dp):=by
 simp only[l8,Y9,Y2 hi,Z7,oo];rfl
theorem B6{α:Type}(f:α→α):∀ (l r:List α) (i:Nat),i<l.length→(l++r).modify i f=l.modify i f++r
 | [],_,_,h=>by simp at h
 |x::l,r,0,_=>rfl
 |x::l,r,i+1,h=>by
  have:=B6 f l r i (by simpa using h);simp only[Z9,List.modify_succ_cons,this]
theorem FM(s:cd)(x:bg)(ab:kj s)(hk:x.kind=4):bf Tryz.prog 76 [enc s,enc x] (.tuple [enc (cG s x).1,enc (cG s x).2]):=by
 refine bf.b7 Tryz.func76 l9 ma mb (u8 rfl) (fun hwf W0 bI E1 =>?_);simp only[lg,lL,bK,Z1];clear hwf;refine mB _ _ s x ab.ao ?_;unfold kl;have hk1:(x.kind==1)=false:=by rw[hk];rfl
 have hk2:(x.kind==2)=false:=by rw[hk];rfl
 have hk3:(x.kind==3)=false:=by rw[hk];rfl
 have hk4:(x.kind==4)=true:=by rw[hk];rfl
 rcases fP (gP s x) with q | q
 ·rw[show cG s x=(s,false) by simp only[cG,hk,q];rfl];have R:=y6 @hk1 (y6 @hk2 (y6 @hk3 (y6 @hk4 (y6 @q (y6 @cE (y6 @bD aG))))))
  repeat' ((first |(with_reducible refine .guard (fun hb =>?_) (fun hb =>?_) <;>try simp only[hb])|refine ae.aJ (by decide +kernel) rfl fun K hK =>?_|(refine .aA [0,1,2,3,4,5,6,7,8,45,46,54,63,73,91,117,128,141,144,149,161,186,190,197] hK ?_;clear hK K)|(with_reducible refine .done (hK _ ?_);clear hK K)|refine ae.of rfl ?_|(with_reducible refine aD.aI (fun h =>?_) (fun h =>?_) <;>try simp only[h])) <;>try simp only[aK,R,simprocAttr])
  all_goals clear R
 ·obtain ⟨i,hi,J,U,ah,ar⟩:=vZ q;have he:=fun A=>fi (A:=A) 4 hi rfl;rcases fP (s.bB[i]).dp with q2 | q2
  rotate_left
  ·rw[show cG s x=(s,false) by simp only[cG,hk,q,ar,q2];rfl];have R:=y6 @hk1 (y6 @hk2 (y6 @hk3 (y6 @hk4 (y6 @q (y6 @U (y6 @he (y6 @q2 (y6 @cE (y6 @bD aG)))))))))
   repeat' ((first |(with_reducible refine .guard (fun hb =>?_) (fun hb =>?_) <;>try simp only[hb])|refine ae.aJ (by decide +kernel) rfl fun K hK =>?_|(refine .aA [0,1,2,3,4,5,6,7,8,45,46,54,63,73,91,117,128,141,144,149,161,186,190,197] hK ?_;clear hK K)|(with_reducible refine .done (hK _ ?_);clear hK K)|refine ae.of rfl ?_|(with_reducible refine aD.aI (fun h =>?_) (fun h =>?_) <;>try simp only[h])) <;>try simp only[aK,R,simprocAttr])
   all_goals clear R
  ·rw[show cG s x=({ s with bB:=s.bB.modify i fun r => { r with dp:=true } },true) by simp only[cG,hk,q,ah,ar,q2];rfl];have R:=y6 @hk1 (y6 @hk2 (y6 @hk3 (y6 @hk4 (y6 @q (y6 @U (y6 @he (y6 @q2 (y6 @uS (y6 @kc (y6 @cE (y6 @bD aG)))))))))))
   repeat' ((first |(with_reducible refine .guard (fun hb =>?_) (fun hb =>?_) <;>try simp only[hb])|refine ae.aJ (by decide +kernel) rfl fun K hK =>?_|(refine .aA [0,1,2,3,4,5,6,7,8,45,46,54,63,73,91,117,128,141,144,149,161,186,190,197] hK ?_;clear hK K)|(with_reducible refine .done (hK _ ?_);clear hK K)|refine ae.of rfl ?_|(with_reducible refine aD.aI (fun h =>?_) (fun h =>?_) <;>try simp only[h])) <;>try simp only[aK,R,simprocAttr])
   all_goals clear R
   have ao:=ab.ao;refine aR.iQ pj rfl (oJ _ []) rfl (by simp;omega) (by simp[maxLen];omega) fun v2 o2 g2 f2 =>?_;have hne:s.bB≠[]:=fun h=>by rw[h] at hi;simp at hi
   rw[List.nil_append] at g2;rcases g2 with ⟨hz,_⟩ | ⟨n,qq,hn,rfl,hrow⟩
   ·exact absurd hz hne
   rw[X3] at hn;subst hn;have ho2:aj o2 2=some (.box (enc s)):=f2 2 (by decide);have ho4:aj o2 4=some (.box (.agg [.int .i64 0,.nils 1,.int .i64 0,.nils 4,.nils 4])):=f2 4 (by decide);have hone:jv (.view 133 [] 4 0 s.bB.length):=⟨rfl,rfl,rfl,rfl⟩
   have hs3:=xm (q:=s) hone
   try simp only[ho2,hs3,cE,aG,bE,simprocAttr]
   have hof:∀ w,dq [.int .i64 s.aw,enc s.here,.int .i64 s.dw,.view 133 [] 4 0 s.bB.length,enc s.bn] 3 3 w=some w:=fun w=>jG (by simp) (by simp[I.sizes,I.size,kB,jV]);have hok:b5 none (.view 133 [] 4 0 s.bB.length)=true:=rfl;have hi':i<(s.bB++qq).length:=by rw[Z6];omega
   have hv:∀ fs,mi 133 [] 4 0 s.bB.length 4 (i:Int) (some fs)=some (.ptr 133 [i]):=fun fs=>by
    have:=Ug (m:=133) (sz:=4) (lo:=0) (l:=s.bB.length) (i:=i) (fs:=fs) hi
    rwa [Z1] at this
   have hat:l8 i [] (some ((s.bB++qq).map enc))=some (enc s.bB[i]):=by
    simp only[l8,Y9,Y4 hi,Y2 hi,Z7,oo,x4]
   have hat2:=GB hi';have hst:=fun A rest c v=>Xa (A:=A) (n:=133) (rest:=rest) (c:=c) (v:=v) hi';simp only[B6 _ _ _ _ hi] at hst;have ht:=tA (a:=s.aw) (h:=s.here) (s:=s.dw) hone (wv s.bn);have hf:∀ ts os,aj os 133=some (.box (.agg (((s.bB.modify i fun r => { r with dp:=true })++qq).map enc)))→bh true (au ts os) (gn s.aw (enc s.here) s.dw (.view 133 [] 4 0 s.bB.length) (enc s.bn))=some (enc ({ s with bB:=s.bB.modify i fun r => { r with dp:=true } } : cd)):=fun ts os J =>
    tB (rs:=s.bB.modify i fun r => { r with dp:=true }) (oH (esz:=4) (S:=[133]) (os:=os) rfl (.inr ⟨133,qq,X3.2 rfl,by rw[List.length_modify],J⟩) fun _ _=>rfl) (by simp only[ln])
   have R:=y6 @hrow (y6 @hof (y6 @hv (y6 @hat (y6 @hat2 (y6 @hst (y6 @ho4 (y6 @ht (y6 @hf (y6 @hok (y6 @kc (y6 @cE (y6 @bD aG))))))))))))
   repeat' ((first |(with_reducible refine .guard (fun hb =>?_) (fun hb =>?_) <;>try simp only[hb])|refine ae.aJ (by decide +kernel) rfl fun K hK =>?_|(refine .aA [0,1,2,3,4,5,6,7,8,45,46,54,63,73,91,117,128,141,144,149,161,186,190,197] hK ?_;clear hK K)|(with_reducible refine .done (hK _ ?_);clear hK K)|refine ae.of rfl ?_|(with_reducible refine aD.aI (fun h =>?_) (fun h =>?_) <;>try simp only[h])) <;>try simp only[aK,R,Z9,simprocAttr])
   all_goals clear R
theorem FN(s:cd)(x:bg)(ab:kj s)(hk:x.kind=5):bf Tryz.prog 76 [enc s,enc x] (.tuple [enc (cG s x).1,enc (cG s x).2]):=by
 refine bf.b7 Tryz.func76 l9 ma mb (u8 rfl) (fun hwf W0 bI E1 =>?_);simp only[lg,lL,bK,Z1];clear hwf;refine mB _ _ s x ab.ao ?_;unfold kl;have hk1:(x.kind==1)=false:=by rw[hk];rfl
 have hk2:(x.kind==2)=false:=by rw[hk];rfl
 have hk3:(x.kind==3)=false:=by rw[hk];rfl
 have hk4:(x.kind==4)=false:=by rw[hk];rfl
 have hk5:(x.kind==5)=true:=by rw[hk];rfl
 rcases fP (gP s x) with q | q
 ·rw[show cG s x=(s,false) by simp only[cG,hk,q];rfl];have R:=y6 @hk1 (y6 @hk2 (y6 @hk3 (y6 @hk4 (y6 @hk5 (y6 @q (y6 @cE (y6 @bD aG)))))))
  repeat' ((first |(with_reducible refine .guard (fun hb =>?_) (fun hb =>?_) <;>try simp only[hb])|refine ae.aJ (by decide +kernel) rfl fun K hK =>?_|(refine .aA [0,1,2,3,4,5,6,7,8,45,46,54,63,73,91,117,128,141,144,149,161,186,190,197] hK ?_;clear hK K)|(with_reducible refine .done (hK _ ?_);clear hK K)|refine ae.of rfl ?_|(with_reducible refine aD.aI (fun h =>?_) (fun h =>?_) <;>try simp only[h])) <;>try simp only[aK,R,simprocAttr])
  all_goals clear R
 ·obtain ⟨i,hi,J,U,ah,ar⟩:=vZ q;rw[show cG s x=(iN s i,true) by simp only[cG,hk,q,ah];rfl];have hF:=xy s i hi ab.ao;have R:=y6 @hk1 (y6 @hk2 (y6 @hk3 (y6 @hk4 (y6 @hk5 (y6 @q (y6 @U (y6 @cE (y6 @bD aG))))))))
  repeat' ((first |(with_reducible refine .guard (fun hb =>?_) (fun hb =>?_) <;>try simp only[hb])|refine ae.aJ (by decide +kernel) rfl fun K hK =>?_|refine .lead _ (hF) ?_|(refine .aA [0,1,2,3,4,5,6,7,8,45,46,54,63,73,91,117,128,141,144,149,161,186,190,197] hK ?_;clear hK K)|(with_reducible refine .done (hK _ ?_);clear hK K)|refine ae.of rfl ?_|(with_reducible refine aD.aI (fun h =>?_) (fun h =>?_) <;>try simp only[h])) <;>try simp only[aK,R,simprocAttr])
  all_goals clear R
theorem FO(s:cd)(x:bg)(ab:kj s)(hk:x.kind=6):bf Tryz.prog 76 [enc s,enc x] (.tuple [enc (cG s x).1,enc (cG s x).2]):=by
 refine bf.b7 Tryz.func76 l9 ma mb (u8 rfl) (fun hwf W0 bI E1 =>?_);simp only[lg,lL,bK,Z1];clear hwf;refine mB _ _ s x ab.ao ?_;unfold kl;have hk1:(x.kind==1)=false:=by rw[hk];rfl
 have hk2:(x.kind==2)=false:=by rw[hk];rfl
 have hk3:(x.kind==3)=false:=by rw[hk];rfl
 have hk4:(x.kind==4)=false:=by rw[hk];rfl
 have hk5:(x.kind==5)=false:=by rw[hk];rfl
 have hk6:(x.kind==6)=true:=by rw[hk];rfl
 rcases fP (gP s x) with q | q
 ·rw[show cG s x=(s,false) by simp only[cG,hk,q];rfl];have R:=y6 @hk1 (y6 @hk2 (y6 @hk3 (y6 @hk4 (y6 @hk5 (y6 @hk6 (y6 @q (y6 @cE (y6 @bD aG))))))))
  repeat' ((first |(with_reducible refine .guard (fun hb =>?_) (fun hb =>?_) <;>try simp only[hb])|refine ae.aJ (by decide +kernel) rfl fun K hK =>?_|(refine .aA [0,1,2,3,4,5,6,7,8,45,46,54,63,73,91,117,128,141,144,149,161,186,190,197] hK ?_;clear hK K)|(with_reducible refine .done (hK _ ?_);clear hK K)|refine ae.of rfl ?_|(with_reducible refine aD.aI (fun h =>?_) (fun h =>?_) <;>try simp only[h])) <;>try simp only[aK,R,simprocAttr])
  all_goals clear R
 ·obtain ⟨i,hi,J,U,ah,ar⟩:=vZ q;have he:=fun A=>fi (A:=A) 4 hi rfl;rcases fP (s.bB[i]).dp with q2 | q2
  ·rw[show cG s x=(s,false) by simp only[cG,hk,q,ar,q2];rfl];have R:=y6 @hk1 (y6 @hk2 (y6 @hk3 (y6 @hk4 (y6 @hk5 (y6 @hk6 (y6 @q (y6 @U (y6 @he (y6 @q2 (y6 @cE (y6 @bD aG)))))))))))
   repeat' ((first |(with_reducible refine .guard (fun hb =>?_) (fun hb =>?_) <;>try simp only[hb])|refine ae.aJ (by decide +kernel) rfl fun K hK =>?_|(refine .aA [0,1,2,3,4,5,6,7,8,45,46,54,63,73,91,117,128,141,144,149,161,186,190,197] hK ?_;clear hK K)|(with_reducible refine .done (hK _ ?_);clear hK K)|refine ae.of rfl ?_|(with_reducible refine aD.aI (fun h =>?_) (fun h =>?_) <;>try simp only[h])) <;>try simp only[aK,R,simprocAttr])
   all_goals clear R
  ·rw[show cG s x=({ iN s i with here:=ec s.here x.aH },true) by simp only[cG,hk,q,ah,ar,q2];rfl];have hF:=xy s i hi ab.ao;have hF2:=rJ s.here x.aH ab.bH;have R:=y6 @hk1 (y6 @hk2 (y6 @hk3 (y6 @hk4 (y6 @hk5 (y6 @hk6 (y6 @q (y6 @U (y6 @he (y6 @q2 (y6 @cE (y6 @bD aG)))))))))))
   repeat' ((first |(with_reducible refine .guard (fun hb =>?_) (fun hb =>?_) <;>try simp only[hb])|refine ae.aJ (by decide +kernel) rfl fun K hK =>?_|refine .lead _ (hF) ?_|refine .lead _ (hF2) ?_|(refine .aA [0,1,2,3,4,5,6,7,8,45,46,54,63,73,91,117,128,141,144,149,161,186,190,197] hK ?_;clear hK K)|(with_reducible refine .done (hK _ ?_);clear hK K)|refine ae.of rfl ?_|(with_reducible refine aD.aI (fun h =>?_) (fun h =>?_) <;>try simp only[h])) <;>try simp only[aK,R,simprocAttr])
   all_goals clear R
theorem FP(s:cd)(x:bg)(ab:kj s)(hk:x.kind=7):bf Tryz.prog 76 [enc s,enc x] (.tuple [enc (cG s x).1,enc (cG s x).2]):=by
 refine bf.b7 Tryz.func76 l9 ma mb (u8 rfl) (fun hwf W0 bI E1 =>?_);simp only[lg,lL,bK,Z1];clear hwf;refine mB _ _ s x ab.ao ?_;unfold kl;have hk1:(x.kind==1)=false:=by simp;omega
 have hk2:(x.kind==2)=false:=by simp;omega
 have hk3:(x.kind==3)=false:=by simp;omega
 have hk4:(x.kind==4)=false:=by simp;omega
 have hk5:(x.kind==5)=false:=by simp;omega
 have hk6:(x.kind==6)=false:=by simp;omega
 have e1:cG s x=if x.other=s.aw∨iR s x.other x.no≠0 then (s,false)
   else if x.kind=7 then if decide (x.aH∈s.here)||h4 s x.aH then (s,false) else (fS { s with here:=ec s.here x.aH } x,true)
   else (fS s x,true):=by
  unfold cG;rw[if_neg (by omega),if_neg (by omega),if_neg (by omega),if_neg (by omega),if_neg (by omega),if_neg (by omega)]
 have hF1:=xL s x.other x.no ab.ab;have hF2:=tQ s x.aH ab.ao;have hF3:=rJ s.here x.aH ab.bH;rcases fP (x.other==s.aw) with q | q
 rotate_left
 ·rw[e1,if_pos (.inl (by simpa using q))];have R:=y6 @hk1 (y6 @hk2 (y6 @hk3 (y6 @hk4 (y6 @hk5 (y6 @hk6 (y6 @q (y6 @cE (y6 @bD aG))))))))
  repeat' ((first |(with_reducible refine .guard (fun hb =>?_) (fun hb =>?_) <;>try simp only[hb])|refine ae.aJ (by decide +kernel) rfl fun K hK =>?_|(refine .aA [0,1,2,3,4,5,6,7,8,45,46,54,63,73,91,117,128,141,144,149,161,186,190,197] hK ?_;clear hK K)|(with_reducible refine .done (hK _ ?_);clear hK K)|refine ae.of rfl ?_|(with_reducible refine aD.aI (fun h =>?_) (fun h =>?_) <;>try simp only[h])) <;>try simp only[aK,R,simprocAttr])
  all_goals clear R
 rcases fP (iR s x.other x.no != 0) with q2 | q2
 rotate_left
 ·rw[e1,if_pos (.inr (by simpa using q2))];have R:=y6 @hk1 (y6 @hk2 (y6 @hk3 (y6 @hk4 (y6 @hk5 (y6 @hk6 (y6 @q (y6 @q2 (y6 @cE (y6 @bD aG)))))))))
  repeat' ((first |(with_reducible refine .guard (fun hb =>?_) (fun hb =>?_) <;>try simp only[hb])|refine ae.aJ (by decide +kernel) rfl fun K hK =>?_|refine .flat _ (hF1) rfl ?_|(refine .aA [0,1,2,3,4,5,6,7,8,45,46,54,63,73,91,117,128,141,144,149,161,186,190,197] hK ?_;clear hK K)|(with_reducible refine .done (hK _ ?_);clear hK K)|refine ae.of rfl ?_|(with_reducible refine aD.aI (fun h =>?_) (fun h =>?_) <;>try simp only[h])) <;>try simp only[aK,R,simprocAttr])
  all_goals clear R
 rw[e1,if_neg (fun h=>h.elim (by simpa using q) (by simpa using q2))];rw[if_pos hk];have hk7:(x.kind==7)=true:=by rw[hk];rfl
 rcases fP (decide (x.aH∈s.here)) with q3 | q3
 ·rcases fP (h4 s x.aH) with q4 | q4
  ·rw[show (if (decide (x.aH∈s.here)||h4 s x.aH)=true then ((s,false):cd×Bool) else (fS { s with here:=ec s.here x.aH } x,true))=(fS { s with here:=ec s.here x.aH } x,true) by rw[q3,q4];rfl];have hF4:=xz { s with here:=ec s.here x.aH } x ab.ab;have R:=y6 @hk1 (y6 @hk2 (y6 @hk3 (y6 @hk4 (y6 @hk5 (y6 @hk6 (y6 @hk7 (y6 @q (y6 @q2 (y6 @q3 (y6 @q4 (y6 @cE (y6 @bD aG))))))))))))
   repeat' ((first |(with_reducible refine .guard (fun hb =>?_) (fun hb =>?_) <;>try simp only[hb])|refine ae.aJ (by decide +kernel) rfl fun K hK =>?_|refine .flat _ (hF1) rfl ?_|refine .flat _ (hF2) rfl ?_|refine .lead _ (hF3) ?_|refine .lead _ (hF4) ?_|(refine .aA [0,1,2,3,4,5,6,7,8,45,46,54,63,73,91,117,128,141,144,149,161,186,190,197] hK ?_;clear hK K)|(with_reducible refine .done (hK _ ?_);clear hK K)|refine ae.of rfl ?_|(with_reducible refine aD.aI (fun h =>?_) (fun h =>?_) <;>try simp only[h])) <;>try simp only[aK,R,simprocAttr])
   all_goals clear R
  ·rw[show (if (decide (x.aH∈s.here)||h4 s x.aH)=true then ((s,false):cd×Bool) else (fS { s with here:=ec s.here x.aH } x,true))=(s,false) by rw[q3,q4];rfl];have R:=y6 @hk1 (y6 @hk2 (y6 @hk3 (y6 @hk4 (y6 @hk5 (y6 @hk6 (y6 @hk7 (y6 @q (y6 @q2 (y6 @q3 (y6 @q4 (y6 @cE (y6 @bD aG))))))))))))
   repeat' ((first |(with_reducible refine .guard (fun hb =>?_) (fun hb =>?_) <;>try simp only[hb])|refine ae.aJ (by decide +kernel) rfl fun K hK =>?_|refine .flat _ (hF1) rfl ?_|refine .flat _ (hF2) rfl ?_|(refine .aA [0,1,2,3,4,5,6,7,8,45,46,54,63,73,91,117,128,141,144,149,161,186,190,197] hK ?_;clear hK K)|(with_reducible refine .done (hK _ ?_);clear hK K)|refine ae.of rfl ?_|(with_reducible refine aD.aI (fun h =>?_) (fun h =>?_) <;>try simp only[h])) <;>try simp only[aK,R,simprocAttr])
   all_goals clear R
 ·rw[show (if (decide (x.aH∈s.here)||h4 s x.aH)=true then ((s,false):cd×Bool) else (fS { s with here:=ec s.here x.aH } x,true))=(s,false) by rw[q3];rfl];have R:=y6 @hk1 (y6 @hk2 (y6 @hk3 (y6 @hk4 (y6 @hk5 (y6 @hk6 (y6 @hk7 (y6 @q (y6 @q2 (y6 @q3 (y6 @cE (y6 @bD aG)))))))))))
  repeat' ((first |(with_reducible refine .guard (fun hb =>?_) (fun hb =>?_) <;>try simp only[hb])|refine ae.aJ (by decide +kernel) rfl fun K hK =>?_|refine .flat _ (hF1) rfl ?_|refine .flat _ (hF2) rfl ?_|(refine .aA [0,1,2,3,4,5,6,7,8,45,46,54,63,73,91,117,128,141,144,149,161,186,190,197] hK ?_;clear hK K)|(with_reducible refine .done (hK _ ?_);clear hK K)|refine ae.of rfl ?_|(with_reducible refine aD.aI (fun h =>?_) (fun h =>?_) <;>try simp only[h])) <;>try simp only[aK,R,simprocAttr])
  all_goals clear R
theorem FQ(s:cd)(x:bg)(ab:kj s)(hk:8≤x.kind∨x.kind<1):bf Tryz.prog 76 [enc s,enc x] (.tuple [enc (cG s x).1,enc (cG s x).2]):=by
 refine bf.b7 Tryz.func76 l9 ma mb (u8 rfl) (fun hwf W0 bI E1 =>?_);simp only[lg,lL,bK,Z1];clear hwf;refine mB _ _ s x ab.ao ?_;unfold kl;have hk1:(x.kind==1)=false:=by simp;omega
 have hk2:(x.kind==2)=false:=by simp;omega
 have hk3:(x.kind==3)=false:=by simp;omega
 have hk4:(x.kind==4)=false:=by simp;omega
 have hk5:(x.kind==5)=false:=by simp;omega
 have hk6:(x.kind==6)=false:=by simp;omega
 have e1:cG s x=if x.other=s.aw∨iR s x.other x.no≠0 then (s,false)
   else if x.kind=7 then if decide (x.aH∈s.here)||h4 s x.aH then (s,false) else (fS { s with here:=ec s.here x.aH } x,true)
   else (fS s x,true):=by
  unfold cG;rw[if_neg (by omega),if_neg (by omega),if_neg (by omega),if_neg (by omega),if_neg (by omega),if_neg (by omega)]
 have hF1:=xL s x.other x.no ab.ab;have hF2:=tQ s x.aH ab.ao;have hF3:=rJ s.here x.aH ab.bH;rcases fP (x.other==s.aw) with q | q
 rotate_left
 ·rw[e1,if_pos (.inl (by simpa using q))];have R:=y6 @hk1 (y6 @hk2 (y6 @hk3 (y6 @hk4 (y6 @hk5 (y6 @hk6 (y6 @q (y6 @cE (y6 @bD aG))))))))
  repeat' ((first |(with_reducible refine .guard (fun hb =>?_) (fun hb =>?_) <;>try simp only[hb])|refine ae.aJ (by decide +kernel) rfl fun K hK =>?_|(refine .aA [0,1,2,3,4,5,6,7,8,45,46,54,63,73,91,117,128,141,144,149,161,186,190,197] hK ?_;clear hK K)|(with_reducible refine .done (hK _ ?_);clear hK K)|refine ae.of rfl ?_|(with_reducible refine aD.aI (fun h =>?_) (fun h =>?_) <;>try simp only[h])) <;>try simp only[aK,R,simprocAttr])
  all_goals clear R
 rcases fP (iR s x.other x.no != 0) with q2 | q2
 rotate_left
 ·rw[e1,if_pos (.inr (by simpa using q2))];have R:=y6 @hk1 (y6 @hk2 (y6 @hk3 (y6 @hk4 (y6 @hk5 (y6 @hk6 (y6 @q (y6 @q2 (y6 @cE (y6 @bD aG)))))))))
  repeat' ((first |(with_reducible refine .guard (fun hb =>?_) (fun hb =>?_) <;>try simp only[hb])|refine ae.aJ (by decide +kernel) rfl fun K hK =>?_|refine .flat _ (hF1) rfl ?_|(refine .aA [0,1,2,3,4,5,6,7,8,45,46,54,63,73,91,117,128,141,144,149,161,186,190,197] hK ?_;clear hK K)|(with_reducible refine .done (hK _ ?_);clear hK K)|refine ae.of rfl ?_|(with_reducible refine aD.aI (fun h =>?_) (fun h =>?_) <;>try simp only[h])) <;>try simp only[aK,R,simprocAttr])
  all_goals clear R
 rw[e1,if_neg (fun h=>h.elim (by simpa using q) (by simpa using q2))];rw[if_neg (by omega)];have hk7:(x.kind==7)=false:=by simp;omega
 have hF4:=xz s x ab.ab;have R:=y6 @hk1 (y6 @hk2 (y6 @hk3 (y6 @hk4 (y6 @hk5 (y6 @hk6 (y6 @hk7 (y6 @q (y6 @q2 (y6 @cE (y6 @bD aG))))))))))
 repeat' ((first |(with_reducible refine .guard (fun hb =>?_) (fun hb =>?_) <;>try simp only[hb])|refine ae.aJ (by decide +kernel) rfl fun K hK =>?_|refine .flat _ (hF1) rfl ?_|refine .lead _ (hF4) ?_|(refine .aA [0,1,2,3,4,5,6,7,8,45,46,54,63,73,91,117,128,141,144,149,161,186,190,197] hK ?_;clear hK K)|(with_reducible refine .done (hK _ ?_);clear hK K)|refine ae.of rfl ?_|(with_reducible refine aD.aI (fun h =>?_) (fun h =>?_) <;>try simp only[h])) <;>try simp only[aK,R,simprocAttr])
 all_goals clear R
theorem FI(s:cd)(x:bg)(ab:kj s):bf Tryz.prog 76 [enc s,enc x] (.tuple [enc (cG s x).1,enc (cG s x).2]):=by
 by_cases J:x.kind=1;· exact FJ s x ab J
 by_cases U:x.kind=2;· exact FK s x ab U
 by_cases ah:x.kind=3;· exact FL s x ab ah
 by_cases ar:x.kind=4;· exact FM s x ab ar
 by_cases h5:x.kind=5;· exact FN s x ab h5
 by_cases h6:x.kind=6;· exact FO s x ab h6
 by_cases h7:x.kind=7;· exact FP s x ab h7
 exact FQ s x ab (by omega)
theorem CH:∀ (l:List Int) (n:Int),(ec l n).length≤l.length+1
 | [],n=>by simp[ec]
 |x::l,n=>by
  have:=CH l n;simp only[ec];split
  ·simp only[zz6];omega
  ·split <;>simp
theorem UA(l:List Int)(n:Int):(gN l n).length≤l.length:=List.length_filter_le _ _
theorem Lq(s:cd)(i:Nat):(iN s i).bB.length≤s.bB.length:=by
 simp only[iN,Z6,X6,List.length_drop];omega
structure og (s:cd) (i:Nat):Prop where
 ao:s.bB.length≤i
 bH:s.here.length≤i
 ab:s.bn.length≤i
 aW:0≤s.dw
 J:s.dw≤i
theorem og.small{s:cd}{i:Nat}(h:og s i)(hi:i≤1000):kj s:=by
 obtain ⟨J,U,ah,ar,h5⟩:=h;exact ⟨by omega,by omega,by omega,ar,by omega⟩
theorem og.next{s:cd}{i:Nat}(h:og s i)(x:bg)(ht:(cG s x).2=true):og (cG s x).1 (i+1):=by
 obtain ⟨J,U,ah,ar,h5⟩:=h;have hp:=CH s.here x.aH;have hq:=UA s.here x.aH;have he:=Lq s (atR s x);have hm:(s.bB.modify (atR s x) fun r => { r with dp:=true }).length=s.bB.length:=List.length_modify ..;have e1:(iN s (atR s x)).here=s.here:=rfl;have e2:(iN s (atR s x)).bn=s.bn:=rfl;have e3:(iN s (atR s x)).dw=s.dw:=rfl;unfold cG at ht ⊢;split at ht
 ·rename_i hk;rw[if_pos hk];split at ht
  ·cases ht
  ·rename_i h;rw[if_neg h];exact ⟨by simp only;omega,by simp only;omega,by simp only;omega,ar,by simp only;omega⟩
 rename_i hk;rw[if_neg hk];clear hk;split at ht
 ·rename_i hk;rw[if_pos hk];exact ⟨by simp only;omega,by simp only;omega,by simp only;omega,ar,by simp only;omega⟩
 rename_i hk;rw[if_neg hk];clear hk;split at ht
 ·rename_i hk;rw[if_pos hk];split at ht
  ·cases ht
  ·rename_i h;rw[if_neg h];have:x.no=s.dw+1:=Classical.byContradiction fun hn=>h (.inr (.inr hn));exact ⟨by simp only[Z6,List.length_singleton];omega,by simp only;omega,by simp only;omega,by simp only;omega,by simp only;omega⟩
 rename_i hk;rw[if_neg hk];clear hk;split at ht
 ·rename_i hk;rw[if_pos hk];split at ht
  ·rename_i h;rw[if_pos h];exact ⟨by simp only[List.length_modify];omega,by simp only;omega,by simp only;omega,ar,by simp only;omega⟩
  ·cases ht
 rename_i hk;rw[if_neg hk];clear hk;split at ht
 ·rename_i hk;rw[if_pos hk];split at ht
  ·rename_i h;rw[if_pos h];exact ⟨by simp only;omega,by simp only[e1];omega,by simp only[e2];omega,by simp only[e3];omega,by simp only[e3];omega⟩
  ·cases ht
 rename_i hk;rw[if_neg hk];clear hk;split at ht
 ·rename_i hk;rw[if_pos hk];split at ht
  ·rename_i h;rw[if_pos h];exact ⟨by simp only;omega,by simp only;omega,by simp only[e2];omega,by simp only[e3];omega,by simp only[e3];omega⟩
  ·cases ht
 rename_i hk;rw[if_neg hk];clear hk;split at ht
 ·cases ht
 rename_i hk;rw[if_neg hk];clear hk;split at ht
 ·rename_i hk;rw[if_pos hk];split at ht
  ·cases ht
  ·rename_i h;rw[if_neg h];exact ⟨by simp only[fS];omega,by simp only[fS];omega,by simp only[fS,Z6,List.length_singleton];omega,ar,by simp only[fS];omega⟩
 ·rename_i hk;rw[if_neg hk];exact ⟨by simp only[fS];omega,by simp only[fS];omega,by simp only[fS,Z6,List.length_singleton];omega,ar,by simp only[fS];omega⟩
def gj(s:cd):List bg→cd×Bool
 | []=>(s,true)
 |x::l=>if gz x then (if (cG s x).2 then gj (cG s x).1 l else (s,false)) else (s,false)
def jq(aw:Int):cd:=⟨aw,[],0,[],[]⟩
def rp(aw:Int):I:=.agg [.int .i64 aw,.nils 1,.int .i64 0,.nils 4,.nils 4]
theorem G9(aw:Int):(dK [.int .i64 0,.nils 1,.int .i64 0,.nils 4,.nils 4] [(0,.int .i64 aw)]).map I.agg=some (rp aw):=by simp[dK,I.bS,I.size];rfl
def rH(b:I)(s:cd):Prop:=(b=rp s.aw∧s=jq s.aw)∨b=enc s
theorem rH.Aq{b:I}{s:cd}(h:rH b s):b5 (some 5) b=true∧(∀ aN A,bh aN A b=some (enc s))∧(∀ A n rest (q:cd),dk A (some 5) n [] b (enc q) rest (some b)=az rest (A.aV n (.box (enc q))))∧(∀ A n rest x y,dk A (some 5) n [] (.agg [.int .i64 x,.nils 1,.int .i64 y,.nils 4,.nils 4]) b rest (some (.agg [.int .i64 x,.nils 1,.int .i64 y,.nils 4,.nils 4]))=az rest (A.aV n (.box b)))∧b.bS=true∧(∀ p,b.only p=true):=by
 rcases h with ⟨rfl,U⟩ | rfl
 ·refine ⟨rfl,fun aN A =>?_,fun A n rest q =>?_,fun A n rest x y=>dP rfl rfl rfl,rfl,fun _=>rfl⟩
  ·rw[U];simp only[rp,bh,bZ];rfl
  ·rw[dP (ep _) (by rw[fg];rfl) ((eH _).trans rfl),nT]
 ·refine ⟨by rw[fg];rfl,fun aN A=>by simp only[ln],fun A n rest q =>?_,fun A n rest x y =>?_,ep _,fun _=>cI _ _⟩
  ·rw[dP (ep _) (by rw[fg];rfl) ((eH _).trans (eH _).symm),nT]
  ·rw[dP (ep _) (by rw[fg];rfl) (eH _),nT]
def tZ(p:bP)(n:Nat)(t:Nat×I×cd):ai:=au [(0,enc p),(1,.int .i64 n),(2,.ptr 2 []),(4,.ptr 4 []),(5,.bool false),(6,.ptr 6 []),(7,.int .i64 t.1)] [(6,.box t.2.1),(4,.box (.agg [.int .i64 0,.nils 1,.int .i64 0,.nils 4,.nils 4])),(2,.box (enc p))]
theorem FH(p:bP)(n:Nat)(hn:n≤p.j.length)(ao:n≤200):bf Tryz.prog 65 [enc p,enc (n:Int)] (.tuple [enc (gj (jq p.aw) (p.j.take n)).1,enc (gj (jq p.aw) (p.j.take n)).2]):=by
 refine bf.b7 Tryz.func65 HR IT J5 (u8 rfl) (fun hwf W0 bI E1 =>?_);simp only[yV,Dt,bK,Z1];clear hwf;generalize hL:p.j.take n=L;have hLl:L.length=n:=by rw[←hL,X6];omega
 obtain ⟨z1,z2,z3,z4,z5,z6⟩:=rH.Aq (b:=rp p.aw) (s:=jq p.aw) (.inl ⟨rfl,rfl⟩);have R:=y6 @G9 (y6 @z4 (y6 @cE (y6 @eB (y6 @bD aG))))
 repeat' ((first |refine ae.aJ (by decide +kernel) rfl fun K hK =>?_|(refine .aA [0,1,2,4,5,6,7,8,9,15,24,37] hK ?_;clear hK K)|(with_reducible refine .done (hK _ ?_);clear hK K)|refine ae.of rfl ?_|(with_reducible refine aD.aI (fun h =>?_) (fun h =>?_) <;>try simp only[h])) <;>try simp only[aK,R,simprocAttr])
 all_goals clear R
 refine ae.loop (tZ p n) (fun t=>t.1≤n∧gj (jq p.aw) L=gj t.2.2 (L.drop t.1)∧og t.2.2 t.1∧rH t.2.1 t.2.2) (fun t=>n-t.1) (0,rp p.aw,jq p.aw) ⟨zz5 _,rfl,⟨zz5 _,zz5 _,zz5 _,Int.le_refl _,Int.le_refl _⟩,.inl ⟨rfl,rfl⟩⟩ ?_ ?_
 ·simp only[tZ];clear z1 z2 z3 z4 z5 hL;refine bC.dT ?_ ?_ ?_ ?_ <;>simp[*,cF,dB,cS,cV,av,cD,eg,I.only,I.cn,aq.only,cI]
 clear z1 z2 z3 z4 z5 z6;rintro ⟨i,b,s⟩ ⟨hi,hr,hu,hb0⟩;simp only at hi hr hu hb0;obtain ⟨z1,z2,z3,z4,z5,z6⟩:=hb0.Aq;simp only[tZ];by_cases hlt:i<n
 ·have hc:=gO hlt;have hij:i<p.j.length:=by omega
  have he:=fun A=>fi (A:=A) 4 hij rfl;have hw:=gR (i:=i) (by omega);have hx:L.drop i=p.j[i]::L.drop (i+1):=by
   have U:i<L.length:=by omega
   rw[List.drop_eq_getElem_cons U]
   congr 1
   subst hL;rw[List.getElem_take]
  rw[hx] at hr;obtain ⟨x,hxe⟩:∃ x,x=p.j[i]:=⟨_,rfl⟩
  rw[←hxe] at he hr;have hF1:=xD x;have hF2:=FI s x (hu.small (by omega));rcases fP (gz x) with q | q
  ·rw[hr,show gj s (x::L.drop (i+1))=(s,false) by simp only[gj,q];rfl];rw[q] at hF1;have R:=y6 @hc (y6 @he (y6 @z1 (y6 @z2 (y6 @z4 (y6 @cE (y6 @eB (y6 @bD aG)))))))
   repeat' ((first |refine ae.aJ (by decide +kernel) rfl fun K hK =>?_|refine .flat _ (hF1) rfl ?_|(refine .aA [0,1,2,4,5,6,7,8,9,15,24,37] hK ?_;clear hK K)|(with_reducible refine .done (hK _ ?_);clear hK K)|refine ae.of rfl ?_|(with_reducible refine aD.aI (fun h =>?_) (fun h =>?_) <;>try simp only[h])) <;>try simp only[aK,R,simprocAttr])
   all_goals clear R
  ·rw[q] at hF1;rcases fP (cG s x).2 with q2 | q2
   ·rw[hr,show gj s (x::L.drop (i+1))=(s,false) by simp only[gj,q,q2];rfl];rw[q2] at hF2;have R:=y6 @hc (y6 @he (y6 @z1 (y6 @z2 (y6 @z4 (y6 @cE (y6 @eB (y6 @bD aG)))))))
    repeat' ((first |refine ae.aJ (by decide +kernel) rfl fun K hK =>?_|refine .flat _ (hF1) rfl ?_|refine .lead _ (hF2) ?_|(refine .aA [0,1,2,4,5,6,7,8,9,15,24,37] hK ?_;clear hK K)|(with_reducible refine .done (hK _ ?_);clear hK K)|refine ae.of rfl ?_|(with_reducible refine aD.aI (fun h =>?_) (fun h =>?_) <;>try simp only[h])) <;>try simp only[aK,R,simprocAttr])
    all_goals clear R
   ·have hu':=hu.next x q2
    have hr':gj (jq p.aw) L=gj (cG s x).1 (L.drop (i+1)):=by rw[hr];simp only[gj,q,q2,if_true]
    rw[q2] at hF2;have R:=y6 @hc (y6 @he (y6 @hw (y6 @z1 (y6 @z2 (y6 @z3 (y6 @cE (y6 @eB (y6 @bD aG))))))))
    repeat' ((first |refine ae.aJ (by decide +kernel) rfl fun K hK =>?_|refine .flat _ (hF1) rfl ?_|refine .lead _ (hF2) ?_|(refine .aA [0,1,2,4,5,6,7,8,9,15,24,37] hK ?_;clear hK K)|(with_reducible refine .done (hK _ ?_);clear hK K)|refine ae.of rfl ?_|(with_reducible refine aD.aI (fun h =>?_) (fun h =>?_) <;>try simp only[h])) <;>try simp only[aK,R,simprocAttr])
    all_goals clear R
    refine ⟨(i+1,enc (cG s x).1,(cG s x).1),⟨by simp only;omega,hr',hu',.inr rfl⟩,by simp only;omega,?_⟩;simp only;clear hr hr' z1 z2 z3 z4 z5 z6;refine bC.dT ?_ ?_ ?_ ?_ <;>simp[cF,dB,cS,cV,av,cD,eg,I.only,I.cn,aq.only,cI]
 ·have hc:=gW hlt;have af:L.drop i=[]:=List.drop_eq_nil_of_le (by omega);rw[hr,af,show gj s []=(s,true) from rfl];have R:=y6 @hc (y6 @z1 (y6 @z2 (y6 @z4 (y6 @cE (y6 @eB (y6 @bD aG))))))
  repeat' ((first |refine ae.aJ (by decide +kernel) rfl fun K hK =>?_|(refine .aA [0,1,2,4,5,6,7,8,9,15,24,37] hK ?_;clear hK K)|(with_reducible refine .done (hK _ ?_);clear hK K)|refine ae.of rfl ?_|(with_reducible refine aD.aI (fun h =>?_) (fun h =>?_) <;>try simp only[h])) <;>try simp only[aK,R,simprocAttr])
  all_goals clear R
def U1(p:bP):cd:=(gj (jq p.aw) p.j).1
def ku(p:bP):Int:=if dz 0 5 p.aw=true∧p.j.length≤200∧dz 0 p.j.length p.eI=true∧(gj (jq p.aw) p.j).2=true then 0 else 91
theorem Fp(p:bP):bf Tryz.prog 24 [enc p] (enc (ku p)):=by
 refine bf.b7 Tryz.func24 HB IC JQ (u8 rfl) (fun hwf W0 bI E1 =>?_);simp only[yH,Dc,bK];clear hwf;have hF1:=pD p.aw;have hF2:=od p.eI 0 p.j.length;rcases fP (dz 0 5 p.aw) with q | q
 ·rw[show ku p=91 from if_neg fun h=>by rw[q] at h;cases h.1];rw[q] at hF1;have R:=y6 @cE (y6 @eB aG)
  repeat' ((first |(with_reducible refine .guard (fun hb =>?_) (fun hb =>?_) <;>try simp only[hb])|refine ae.aJ (by decide +kernel) rfl fun K hK =>?_|refine .flat _ (hF1) rfl ?_|(refine .aA [0,1,2,4,23,33] hK ?_;clear hK K)|(with_reducible refine .done (hK _ ?_);clear hK K)|refine ae.of rfl ?_|(with_reducible refine aD.aI (fun h =>?_) (fun h =>?_) <;>try simp only[h])) <;>try simp only[aK,R,simprocAttr])
  all_goals clear R
 rw[q] at hF1;rcases fP (decide ((p.j.length:Int)>200)) with q2 | q2
 rotate_left
 ·rw[show ku p=91 from if_neg fun h=>by have:=h.2.1;have:=of_decide_eq_true q2;omega];have R:=y6 @q2 (y6 @cE (y6 @eB aG))
  repeat' ((first |(with_reducible refine .guard (fun hb =>?_) (fun hb =>?_) <;>try simp only[hb])|refine ae.aJ (by decide +kernel) rfl fun K hK =>?_|refine .flat _ (hF1) rfl ?_|(refine .aA [0,1,2,4,23,33] hK ?_;clear hK K)|(with_reducible refine .done (hK _ ?_);clear hK K)|refine ae.of rfl ?_|(with_reducible refine aD.aI (fun h =>?_) (fun h =>?_) <;>try simp only[h])) <;>try simp only[aK,R,simprocAttr])
  all_goals clear R
 have U:p.j.length≤200:=by have:=of_decide_eq_false q2;omega
 rcases fP (dz 0 p.j.length p.eI) with q3 | q3
 ·rw[show ku p=91 from if_neg fun h=>by rw[q3] at h;cases h.2.2.1];rw[q3] at hF2;have R:=y6 @q2 (y6 @cE (y6 @eB aG))
  repeat' ((first |(with_reducible refine .guard (fun hb =>?_) (fun hb =>?_) <;>try simp only[hb])|refine ae.aJ (by decide +kernel) rfl fun K hK =>?_|refine .flat _ (hF1) rfl ?_|refine .flat _ (hF2) rfl ?_|(refine .aA [0,1,2,4,23,33] hK ?_;clear hK K)|(with_reducible refine .done (hK _ ?_);clear hK K)|refine ae.of rfl ?_|(with_reducible refine aD.aI (fun h =>?_) (fun h =>?_) <;>try simp only[h])) <;>try simp only[aK,R,simprocAttr])
  all_goals clear R
 rw[q3] at hF2;have hF:=FH p p.j.length (Z4 _) U;rw[List.take_length] at hF;rcases fP (gj (jq p.aw) p.j).2 with q4 | q4
 ·rw[show ku p=91 from if_neg fun h=>by rw[q4] at h;cases h.2.2.2];rw[q4] at hF;have R:=y6 @q2 (y6 @cE (y6 @eB aG))
  repeat' ((first |(with_reducible refine .guard (fun hb =>?_) (fun hb =>?_) <;>try simp only[hb])|refine ae.aJ (by decide +kernel) rfl fun K hK =>?_|refine .flat _ (hF1) rfl ?_|refine .flat _ (hF2) rfl ?_|refine .lead _ (hF) ?_|(refine .aA [0,1,2,4,23,33] hK ?_;clear hK K)|(with_reducible refine .done (hK _ ?_);clear hK K)|refine ae.of rfl ?_|(with_reducible refine aD.aI (fun h =>?_) (fun h =>?_) <;>try simp only[h])) <;>try simp only[aK,R,simprocAttr])
  all_goals clear R
 ·rw[show ku p=0 from if_pos ⟨q,U,q3,q4⟩];rw[q4] at hF;have R:=y6 @q2 (y6 @cE (y6 @eB aG))
  repeat' ((first |(with_reducible refine .guard (fun hb =>?_) (fun hb =>?_) <;>try simp only[hb])|refine ae.aJ (by decide +kernel) rfl fun K hK =>?_|refine .flat _ (hF1) rfl ?_|refine .flat _ (hF2) rfl ?_|refine .lead _ (hF) ?_|(refine .aA [0,1,2,4,23,33] hK ?_;clear hK K)|(with_reducible refine .done (hK _ ?_);clear hK K)|refine ae.of rfl ?_|(with_reducible refine aD.aI (fun h =>?_) (fun h =>?_) <;>try simp only[h])) <;>try simp only[aK,R,simprocAttr])
  all_goals clear R
end Go.Proofs.YthbdbocionnfgaaGreatDoor
namespace Go.Proofs.YthbdbocionnfgaaGreatDoor
open Go Go.Abs
theorem BZ(l:List Int)(n b:Int):b∈ec l n↔b=n∨b∈l:=by
 induction l with
 |nil=>simp[ec]
 |cons x l ih =>
  simp only[ec];split
  ·simp only[zz8,ih];constructor
   ·rintro (h | h | h) <;>simp[h]
   ·rintro (h | h | h) <;>simp[h]
  ·split
   ·rename_i h;subst h;simp
   ·simp
theorem Wj{l:List Int}(h:l.Pairwise (· < ·))(n:Int):(ec l n).Pairwise (· < ·):=by
 induction l with
 |nil=>simp[ec]
 |cons x l ih =>
  obtain ⟨J,U⟩:=List.pairwise_cons.1 h;simp only[ec];split
  ·refine List.pairwise_cons.2 ⟨fun a ha =>?_,ih U⟩;rcases (BZ l n a).1 ha with rfl | ha
   ·assumption
   ·exact J a ha
  ·split
   ·exact h
   ·refine List.pairwise_cons.2 ⟨fun a ha =>?_,h⟩;rcases zz8.1 ha with rfl | ha
    ·omega
    ·have:=J a ha;omega
theorem UO(l:List Int)(n b:Int):b∈gN l n↔b∈l∧b≠n:=by simp[gN]
theorem UB{l:List Int}(h:l.Pairwise (· < ·))(n:Int):(gN l n).Pairwise (· < ·):=h.filter _
def rj(x:bg):gS:=⟨x.kind,x.other,x.no,x.aH⟩
structure ea (s:aB) (t:cd):Prop where
 aw:t.aw=s.aw
 here:∀ b,b∈t.here↔b∈s.here
 pt:t.here.Pairwise (· < ·)
 dw:t.dw=s.all.length
 bB:t.bB=s.bB
 bn:t.bn=s.bn.map rj
 nt:∀ x∈s.bn,x.kind≠0
 no:∀ i,i<s.all.length→(s.b8 i).no=(i:Int)+1
 cw:s.aQ.Pairwise (· < ·)
 ok:cu s
theorem ea.zero(aw:Int):ea (eP aw) (jq aw):=⟨rfl,fun b=>by simp[eP,jq],by simp[jq],rfl,rfl,rfl,fun x hx=>by simp[eP] at hx,fun i hi=>by simp[eP] at hi,by simp[eP],kH aw⟩
theorem ea.K2{s:aB}{t:cd}(h:ea s t)(b:Int):decide (b∈t.here)=decide (b∈s.here):=by simp only[h.here]
theorem ea.GF{s:aB}{t:cd}(h:ea s t)(b:Int):h4 t b=s.e7 b:=by simp only[h4,aB.e7,h.bB]
theorem ea.Un{s:aB}{t:cd}(h:ea s t)(x:bg):(iR t x.other x.no≠0)↔fw x∈s.dV:=by
 have hk:=h.nt;simp only[iR,h.bn,aB.dV];revert hk;generalize s.bn=l;intro hk
 induction l with
 |nil=>simp
 |cons y l ih =>
  have ih':=ih fun z hz=>hk z (List.mem_cons_of_mem _ hz);simp only[Z3,List.find?_cons,zz8];by_cases e:(rj y).cZ=x.other∧(rj y).no=x.no
  ·rw[decide_eq_true e];simp only;have e2:fw x=fw y:=by
    simp only[rj] at e;simp only[fw,e.1,e.2]
   exact ⟨fun _=>.inl e2,fun _=>hk y List.mem_cons_self⟩
  ·rw[decide_eq_false e];refine Iff.trans ih' ?_;constructor
   ·exact .inr
   ·rintro (h | h)
    ·exfalso;apply e
     simp only[fw,mX.mk.injEq] at h;simp only[rj,h.1,h.2,and_self]
    ·exact h
theorem ea.Xs{s:aB}{t:cd}(h:ea s t)(x:bg):(s.unknown x=true)↔¬ (x.other=t.aw∨iR t x.other x.no≠0):=by
 rw[h.Un,h.aw];simp only[aB.unknown,t8,bne_iff_ne,ne_eq,Bool.not_eq_true',decide_eq_false_iff_not,not_or]
theorem ea.bK{s:aB}{t:cd}(h:ea s t)(no:Int):(s.at no=none∧jk t no=none)∨∃ k,∃ hk:k<s.aQ.length,s.at no=some s.aQ[k]∧jk t no=some k:=by
 have hno:∀ i∈s.aQ,(s.b8 i).no=(i:Int)+1:=fun i hi=>h.no i (h.ok.cw i hi);simp only[aB.at,jk,h.bB,aB.bB];revert hno;generalize s.aQ=l;intro hno
 induction l with
 |nil=>exact .inl ⟨rfl,rfl⟩
 |cons i l ih =>
  have hi:=hno i List.mem_cons_self;simp only[List.find?_cons,Z3,List.findIdx?_cons,hi];by_cases e:no=(i:Int)+1
  ·exact .inr ⟨0,by simp,by simp[e],by simp[e]⟩
  ·have e':¬ (i:Int)+1=no:=fun h=>e h.symm;rw[decide_eq_false e,decide_eq_false e'];rcases ih fun j hj=>hno j (List.mem_cons_of_mem _ hj) with ⟨J,U⟩ | ⟨k,hk,J,U⟩
   ·exact .inl ⟨J,by simp[U]⟩
   ·exact .inr ⟨k+1,by simpa using hk,by simpa using J,by simp[U]⟩
theorem ea.hJ{s:aB}{t:cd}(h:ea s t)(x:bg):(s.on x=none∧gP t x=false)∨∃ k,∃ hk:k<s.aQ.length,s.on x=some s.aQ[k]∧gP t x=true∧atR t x=k∧ov t x=(s.b8 s.aQ[k]).dp:=by
 rcases h.bK x.no with ⟨J,U⟩ | ⟨k,hk,J,U⟩
 ·exact .inl ⟨by simp only[aB.on,J],by simp only[gP,U]⟩
 ·have hr:t.bB[k]?=some (s.b8 s.aQ[k]):=by rw[h.bB,aB.bB,Y9,Y2 hk];rfl
  by_cases e:(s.b8 s.aQ[k]).to=x.other∧(s.b8 s.aQ[k]).aH=x.aH
  ·exact .inr ⟨k,hk,by simp only[aB.on,J,if_pos e],by simp[gP,U,hr,e.1,e.2],by simp[atR,U],by simp[ov,U,hr]⟩
  ·refine .inl ⟨by simp only[aB.on,J,if_neg e],?_⟩;simp only[gP,U,hr,Bool.and_eq_false_iff,beq_eq_false_iff_ne,ne_eq];by_cases e1:(s.b8 s.aQ[k]).to=x.other
   ·exact .inr fun e2=>e ⟨e1,e2⟩
   ·exact .inl e1
theorem Lv{l:List Nat}(h:l.Nodup)(k:Nat)(hk:k<l.length):l.erase l[k]=l.take k++l.drop (k+1):=by
 induction l generalizing k with
 |nil=>simp at hk
 |cons x l ih =>
  cases k with
  |zero=>simp
  |succ k =>
   obtain ⟨J,U⟩:=List.nodup_cons.1 h;have hk':k<l.length:=by simpa using hk
   have:¬ x=l[k]:=fun e=>J (e▸List.getElem_mem hk');simp only[List.getElem_cons_succ,X4,List.drop_succ_cons,Z9];rw[List.erase_cons_tail (by simpa using this),ih U k hk']
theorem UN(l:List Int)(n b:Int):b∈gD l n↔b=n∨b∈l:=by
 unfold gD;split
 ·constructor
  ·exact .inr
  ·rintro (rfl | h)
   ·assumption
   ·exact h
 ·simp only[X5,X3];exact Or.comm
theorem WM{s:aB}(ab:cu s)(r:da)(h:List Int):({ s with here:=h,all:=s.all++[r],aQ:=s.aQ++[s.all.length] } : aB).bB=s.bB++[r]:=by
 simp only[aB.bB,Y3,Z3,X7,aB.b8]
 congr 1
 ·refine List.map_congr_left fun i hi =>?_
  show (s.all++[r]).getD i default=s.all.getD i default
  simp only[Z0,Y4 (ab.cw i hi)]
 ·simp
theorem WN{s:aB}(ab:cu s){k:Nat}(hk:k<s.aQ.length):({ s with all:=s.all.set s.aQ[k] { s.b8 s.aQ[k] with dp:=true } } : aB).bB=s.bB.modify k fun r => { r with dp:=true } :=by
 have ao:=ab.cw;have hn:=ab.iw;refine List.ext_getElem (by simp[aB.bB]) fun j J U =>?_;have hj:j<s.aQ.length:=by simpa[aB.bB] using J
 rw[List.getElem_modify];simp only[aB.bB,List.getElem_map,aB.b8,Z0];by_cases e:k=j
 ·subst e;rw[if_pos rfl,List.getElem?_set_self (ao _ (List.getElem_mem hk))];rfl
 ·have hne:s.aQ[k]≠s.aQ[j]:=fun e'=>e ((List.getElem_inj hn).1 e');rw[if_neg e,List.getElem?_set_ne hne]
theorem ea.Af{s:aB}{t:cd}(h:ea s t){k:Nat}(hk:k<s.aQ.length):ea { s with aQ:=s.aQ.erase s.aQ[k] } (iN t k):=by
 have hr:(iN t k).bB=({ s with aQ:=s.aQ.erase s.aQ[k] } : aB).bB:=by
  simp only[iN,h.bB,aB.bB,Lv h.ok.iw k hk,Y3,List.map_take,List.map_drop];rfl
 exact ⟨h.aw,h.here,h.pt,h.dw,hr,h.bn,h.nt,h.no,h.cw.sublist List.erase_sublist,⟨fun i hi=>h.ok.cw i (List.mem_of_mem_erase hi),h.ok.iw.erase _,h.ok.af⟩⟩
theorem ea.put{s:aB}{t:cd}(h:ea s t)(b:Int):ea { s with here:=gD s.here b } { t with here:=ec t.here b } :=
 ⟨h.aw,fun c=>by simp only[BZ,UN,h.here],Wj h.pt b,h.dw,h.bB,h.bn,h.nt,h.no,h.cw,⟨h.ok.cw,h.ok.iw,mY h.ok.af⟩⟩
theorem ea.nv{s:aB}{t:cd}(h:ea s t)(b:Int):ea { s with here:=s.here.erase b } { t with here:=gN t.here b } :=
 ⟨h.aw,fun c=>by simp only[UO,h.here,h.ok.af.mem_erase_iff];exact And.comm,UB h.pt b,h.dw,h.bB,h.bn,h.nt,h.no,h.cw,⟨h.ok.cw,h.ok.iw,h.ok.af.erase _⟩⟩
theorem ea.Es{s:aB}{t:cd}(h:ea s t){x:bg}(hx:x.kind≠0):ea { s with bn:=s.bn++[x] } (fS t x) :=
 ⟨h.aw,h.here,h.pt,h.dw,h.bB,by simp only[fS,h.bn,Y3];rfl,fun y hy=>by
  rcases X5.1 hy with hy | hy
  ·exact h.nt y hy
  ·rw[X3.1 hy];exact hx,h.no,h.cw,⟨h.ok.cw,h.ok.iw,h.ok.af⟩⟩
theorem ea.step{s:aB}{t:cd}(h:ea s t){x:bg}(hx:gz x=true):match eL s x with
  |some s'=>(cG t x).2=true∧ea s' (cG t x).1
  |none=>(cG t x).2=false:=by
 have hk:1≤x.kind∧x.kind≤8:=by
  simp only[gz] at hx;split at hx
  ·omega
  ·split at hx
   ·omega
   ·cases hx
 have hb:=h.here x.aH;have af:=h.K2 x.aH;have ha:=h.GF x.aH;simp only[eL,cG,af,ha];by_cases k1:x.kind=1
 ·simp only[if_pos k1];by_cases c:x.aH∈s.here∨s.e7 x.aH=true
  ·have c2:(decide (x.aH∈s.here)||s.e7 x.aH)=true:=by simpa using c
   simp only[if_pos c,if_pos c2]
  ·have c2:¬ (decide (x.aH∈s.here)||s.e7 x.aH)=true:=by simpa using c
   simp only[if_neg c,if_neg c2];exact ⟨trivial,h.put _⟩
 simp only[if_neg k1];by_cases k2:x.kind=2
 ·simp only[if_pos k2];by_cases c:x.aH∈s.here
  ·simp only[if_pos c,decide_eq_true c];exact ⟨trivial,h.nv _⟩
  ·simp only[if_neg c,decide_eq_false c]
 simp only[if_neg k2];by_cases k3:x.kind=3
 ·simp only[if_pos k3];by_cases c:x.aH∈s.here∧x.other≠s.aw∧x.no=(s.all.length:Int)+1
  ·have c2:¬ (x.aH∉t.here∨x.other=t.aw∨x.no≠t.dw+1):=by
    rw[hb,h.aw,h.dw];rintro (c' | c' | c')
    ·exact c' c.1
    ·exact c.2.1 c'
    ·exact c' c.2.2
   simp only[if_pos c,if_neg c2];have ao:=h.nv x.aH;refine ⟨trivial,h.aw,ao.here,ao.pt,by simp only[Z6,List.length_singleton,c.2.2];omega,?_,h.bn,h.nt,fun i hi =>?_,?_,?_⟩
   ·rw[WM h.ok,h.bB]
   ·simp only[Z6,List.length_singleton] at hi;by_cases e:i<s.all.length
    ·have:=h.no i e;rw[←this];simp only[aB.b8,Z0,Y4 e]
    ·have e2:i=s.all.length:=by omega
     subst e2;simp only[aB.b8,Z0];simp[c.2.2]
   ·refine List.pairwise_append.2 ⟨h.cw,by simp,fun a ha b hb =>?_⟩;rw[X3.1 hb];exact h.ok.cw a ha
   ·have hn:eL s x=some { s with here:=s.here.erase x.aH,all:=s.all++[⟨x.no,x.other,x.aH,false⟩],aQ:=s.aQ++[s.all.length] } :=by
     simp only[eL,if_neg k1,if_neg k2,if_pos k3,if_pos c]
    exact (h.ok.next hn).1
  ·have c2:x.aH∉t.here∨x.other=t.aw∨x.no≠t.dw+1:=by
    rw[hb,h.aw,h.dw];by_cases c1:x.aH∈s.here
    ·by_cases c3:x.other=s.aw
     ·exact .inr (.inl c3)
     ·exact .inr (.inr fun e=>c ⟨c1,c3,e⟩)
    ·exact .inl c1
   simp only[if_neg c,if_pos c2]
 simp only[if_neg k3];by_cases k4:x.kind=4
 ·simp only[if_pos k4];rcases h.hJ x with ⟨J,U⟩ | ⟨k,hk',J,U,ah,ar⟩
  ·simp only[J,U];rfl
  ·simp only[J,U,ah,ar];rcases Bool.eq_false_or_eq_true (s.b8 s.aQ[k]).dp with c | c
   ·rw[c];rfl
   ·rw[c];refine ⟨rfl,h.aw,h.here,h.pt,h.dw.trans (by simp),?_,h.bn,h.nt,fun i hi =>?_,h.cw,?_⟩
    ·show t.bB.modify k _=_
     rw[WN h.ok hk',h.bB]
    ·have hi':i<s.all.length:=by simpa using hi
     simp only[aB.b8,Z0,List.getElem?_set];split
     ·rename_i e;rw[if_pos (e▸hi')];simp only[Option.getD_some,e];have:=h.no i hi';simpa only[aB.b8,Z0] using this
     ·have:=h.no i hi';simpa only[aB.b8,Z0] using this
    ·have hn:eL s x=some { s with all:=s.all.set s.aQ[k] { s.b8 s.aQ[k] with dp:=true } } :=by
      simp only[eL,if_neg k1,if_neg k2,if_neg k3,if_pos k4,J,c];rfl
     exact (h.ok.next hn).1
 simp only[if_neg k4];by_cases k5:x.kind=5
 ·simp only[if_pos k5];rcases h.hJ x with ⟨J,U⟩ | ⟨k,hk',J,U,ah,ar⟩
  ·simp only[J,U];rfl
  ·simp only[J,U,ah];exact ⟨rfl,h.Af hk'⟩
 simp only[if_neg k5];by_cases k6:x.kind=6
 ·simp only[if_pos k6];rcases h.hJ x with ⟨J,U⟩ | ⟨k,hk',J,U,ah,ar⟩
  ·simp only[J,U];rfl
  ·simp only[J,U,ah,ar];rcases Bool.eq_false_or_eq_true (s.b8 s.aQ[k]).dp with c | c
   ·rw[c];exact ⟨rfl,(h.Af hk').put x.aH⟩
   ·rw[c];rfl
 simp only[if_neg k6];have hu:=h.Xs x;by_cases c:x.other=t.aw∨iR t x.other x.no≠0
 ·have hu':¬ s.unknown x=true:=fun bH=>hu.1 bH c;simp only[if_pos c];by_cases k7:x.kind=7
  ·rw[if_pos k7,if_neg fun bH=>hu' bH.1];trivial
  ·rw[if_neg k7,if_pos (by omega),if_neg hu'];trivial
 ·have hu':s.unknown x=true:=hu.2 c;simp only[if_neg c];by_cases k7:x.kind=7
  ·simp only[if_pos k7];by_cases c2:(decide (x.aH∈s.here)||s.e7 x.aH)=true
   ·have hn:¬ (s.unknown x=true∧x.aH∉s.here∧s.e7 x.aH=false):=fun bH=>by
     simp only[Bool.or_eq_true,decide_eq_true_eq] at c2;rcases c2 with c2 | c2
     ·exact bH.2.1 c2
     ·rw[bH.2.2] at c2;cases c2
    simp only[if_pos c2,if_neg hn]
   ·have c3:=c2;simp only[Bool.or_eq_true,decide_eq_true_eq,not_or,Bool.not_eq_true] at c3;have hn:s.unknown x=true∧x.aH∉s.here∧s.e7 x.aH=false:=⟨hu',c3.1,c3.2⟩
    simp only[if_neg c2,if_pos hn];exact ⟨trivial,(h.put x.aH).Es (by omega)⟩
  ·simp only[if_neg k7];rw[if_pos (by omega),if_pos hu'];exact ⟨trivial,h.Es (by omega)⟩
theorem ea.run:∀ (l:List bg) {s:aB} {t:cd},ea s t→match fR s l with
  |some s'=>(gj t l).2=true∧ea s' (gj t l).1
  |none=>(gj t l).2=false
 | [],s,t,h=>⟨rfl,h⟩
 |x::l,s,t,h=>by
  simp only[fR,gj,gp];by_cases hx:gz x=true
  ·have ab:=h.step hx;rw[if_pos hx,if_pos hx];cases hn:eL s x with
   |none=>rw[hn] at ab;simp only at ab ⊢;rw[ab];rfl
   |some s' =>
    rw[hn] at ab;simp only at ab ⊢;rw[ab.1,if_pos rfl];exact ea.run l ab.2
  ·rw[if_neg hx,if_neg hx]
theorem VR(p:bP):match du p with
  |some s=>ku p=0∧ea s (U1 p)
  |none=>ku p=91:=by
 have hr:=ea.run p.j (ea.zero p.aw);simp only[du,fC,ku];by_cases hk:iy p=true
 ·have hk':=hk;simp only[iy,t8,decide_eq_true_eq] at hk';rw[if_pos hk];cases hq:fR (eP p.aw) p.j with
  |none=>rw[hq] at hr;simp only at hr ⊢;rw[if_neg fun h=>by rw[hr] at h;cases h.2.2.2]
  |some s=>rw[hq] at hr;exact ⟨if_pos ⟨hk'.1,hk'.2.1,hk'.2.2,hr.1⟩,hr.2⟩
 ·rw[if_neg hk];refine if_neg fun h=>hk ?_;simp only[iy,t8,decide_eq_true_eq];exact ⟨h.1,h.2.1,h.2.2.1⟩
theorem Jb(p:bP):nf p=ku p:=by
 have h:=VR p;simp only[nf];cases ho:du p with
 |none=>rw[ho] at h;exact h.symm
 |some s=>rw[ho] at h;exact h.1.symm
end Go.Proofs.YthbdbocionnfgaaGreatDoor
namespace Go.Proofs.YthbdbocionnfgaaGreatDoor
open Go Go.Abs Go.Shelf
open Go.Abs.Enc (enc)
def Uu:Go.Shelf.Ren:=⟨fun | 171=>119 | 243=>144 | 246=>159 | 283=>170 | 284=>171 | 285=>172 | 286=>173 | 129=>143 | 317=>182 | 318=>183 | 319=>184 | 320=>185 | 337=>190 | 338=>191 | n=>n,fun | 3=>3 | 9=>9 | 2=>2 | 4=>4 | 171=>198 | 0=>0 | 53=>171 | 37=>172 | 5=>5 | 173=>200 | 212=>209 | 51=>169 | 20=>20 | 213=>210 | 46=>151 | 232=>223 | 233=>224 | n=>n,fun | 17=>3 | 18=>6 | 19=>7 | n=>n⟩
theorem Ut:Go.Proofs.LaysM.n171 Tryz.prog Uu := {
 mixed:=by kernel_rfl
 f129:=Tryz.func143.trans (congrArg some (by kernel_rfl))
 f171:=Tryz.func119.trans (congrArg some (by kernel_rfl))
 f243:=Tryz.func144.trans (congrArg some (by kernel_rfl))
 f246:=Tryz.func159.trans (congrArg some (by kernel_rfl))
 f283:=Tryz.func170.trans (congrArg some (by kernel_rfl))
 f284:=Tryz.func171.trans (congrArg some (by kernel_rfl))
 f285:=Tryz.func172.trans (congrArg some (by kernel_rfl))
 f286:=Tryz.func173.trans (congrArg some (by kernel_rfl))
 f317:=Tryz.func182.trans (congrArg some (by kernel_rfl))
 f318:=Tryz.func183.trans (congrArg some (by kernel_rfl))
 f319:=Tryz.func184.trans (congrArg some (by kernel_rfl))
 f320:=Tryz.func185.trans (congrArg some (by kernel_rfl))
 f337:=Tryz.func190.trans (congrArg some (by kernel_rfl))
 f338:=Tryz.func191.trans (congrArg some (by kernel_rfl))
 t0:=Tryz.underlying0
 a0:=Tryz.isAgg0
 z0:=Tryz.sizeOf0
 v0:=Tryz.zeroValue0
 t2:=Tryz.underlying2
 a2:=Tryz.isAgg2
 z2:=Tryz.sizeOf2
 v2:=Tryz.zeroValue2
 t3:=Tryz.underlying3
 a3:=Tryz.isAgg3
 z3:=Tryz.sizeOf3
 v3:=Tryz.zeroValue3
 t4:=Tryz.underlying4
 a4:=Tryz.isAgg4
 z4:=Tryz.sizeOf4
 v4:=Tryz.zeroValue4
 t5:=Tryz.underlying5
 a5:=Tryz.isAgg5
 z5:=Tryz.sizeOf5
 v5:=Tryz.zeroValue5
 t9:=Tryz.underlying9
 a9:=Tryz.isAgg9
 z9:=Tryz.sizeOf9
 v9:=Tryz.zeroValue9
 t20:=Tryz.underlying20
 a20:=Tryz.isAgg20
 z20:=Tryz.sizeOf20
 v20:=Tryz.zeroValue20
 t37:=Tryz.underlying172
 a37:=Tryz.isAgg172
 z37:=Tryz.sizeOf172
 v37:=Tryz.zeroValue172
 t46:=Tryz.underlying151
 a46:=Tryz.isAgg151
 z46:=Tryz.sizeOf151
 v46:=Tryz.zeroValue151
 t51:=Tryz.underlying169
 a51:=Tryz.isAgg169
 z51:=Tryz.sizeOf169
 v51:=Tryz.zeroValue169
 t53:=Tryz.underlying171
 a53:=Tryz.isAgg171
 z53:=Tryz.sizeOf171
 v53:=Tryz.zeroValue171
 t171:=Tryz.underlying198
 a171:=Tryz.isAgg198
 z171:=Tryz.sizeOf198
 v171:=Tryz.zeroValue198
 t173:=Tryz.underlying200
 a173:=Tryz.isAgg200
 z173:=Tryz.sizeOf200
 v173:=Tryz.zeroValue200
 t212:=Tryz.underlying209
 a212:=Tryz.isAgg209
 z212:=Tryz.sizeOf209
 v212:=Tryz.zeroValue209
 t213:=Tryz.underlying210
 a213:=Tryz.isAgg210
 z213:=Tryz.sizeOf210
 t232:=Tryz.underlying223
 a232:=Tryz.isAgg223
 z232:=Tryz.sizeOf223
 v232:=Tryz.zeroValue223
 t233:=Tryz.underlying224
 a233:=Tryz.isAgg224
 z233:=Tryz.sizeOf224
 v233:=Tryz.zeroValue224
 g17:=by kernel_rfl
 g18:=by kernel_rfl
 g19:=by kernel_rfl
 i0:=by kernel_rfl
 i2:=by kernel_rfl
 i3:=by kernel_rfl
 i4:=by kernel_rfl
 i5:=by kernel_rfl
 i9:=by kernel_rfl
 i20:=by kernel_rfl
 i37:=by kernel_rfl
 i46:=by kernel_rfl
 i51:=by kernel_rfl
 i53:=by kernel_rfl
 i171:=by kernel_rfl
 i173:=by kernel_rfl
 i212:=by kernel_rfl
 i232:=by kernel_rfl
 i233:=by kernel_rfl
 m17:=by kernel_rfl
 m18:=by kernel_rfl
 m19:=by kernel_rfl }
open Go.RowKit Go.Sort Go.Lib in
theorem strconv_Itoa (n : Int) (aW : -9223372036854775808 ≤ n) (J : n ≤ 9223372036854775807) (w : World) (htab : Lib.TabIs Tryz.prog w "internal/strconv.uint64pow10" .u64 Lib.pow10Tab) :
  Calls Tryz.prog 119 #[.int .i64 n] w fun e w'=>e=.returned (.string ⟨(Lib.itoa n).toArray⟩)∧∃ k os,w'=grow (w.drewN k) os:=Any.strconv_Itoa Ut n aW J w htab
structure e9 where
 b:ByteArray
 deriving DecidableEq
instance:Enc e9 where
 enc s:=.bO s.b
 sz:=1
 aX:=.one
 gJ:=false
 done _:=rfl
 size _:=by simp[I.size]
 iE _:=by simp[I.aX]
 agg _:=rfl
def mj(n:Int):e9:=⟨⟨(Lib.itoa n).toArray⟩⟩
open Go.Sort Go.RowKit in
theorem x8(w:World)(k:Nat)(os:Array Obj):Go.RowKit.Below w.heap.size w (grow (w.drewN k) os) :=
 ⟨rfl,rfl,rfl,by simp,fun i hi=>by rw[heap_grow_old _ _ (by simpa using hi)];rfl⟩
theorem EZ(n:Int):bf Tryz.prog 119 [enc n] (enc (mj n)):=by
 refine ⟨Hq,fun w D vs ao hD hv =>?_⟩;have hv':aE w D c9 [.int .i64 n] vs:=hv;simp only[aE] at hv';obtain ⟨v,rest,cs,rfl,J,U,rfl⟩:=hv';obtain ⟨rfl,ah,ar⟩:=eQ (jh J U);have h3':-9223372036854775808≤n:=ah;have h4':n≤9223372036854775807:=ar;have hg:Tryz.prog.globalNamed vO=some 3:=by kernel_rfl
 have htab:=(ao 3 hg).2;refine (strconv_Itoa n h3' h4' w htab).mono ?_;rintro e w' ⟨rfl,k,os,rfl⟩;refine ⟨_,D,rfl,⟨[.string ⟨(Lib.itoa n).toArray⟩],by simp[bu,I.isAgg,enc],?_⟩,x8 w k os,fun b o af=>Nat.lt_of_lt_of_le (hD b o af) (x8 w k os).size,fun _ _ h _=>h⟩;have hlen:=Lib.itoa_length_le n h3' h4'
 show al _ _ _ (.bO _) _
 simp only[al];refine ⟨rfl,?_⟩
 show (Lib.itoa n).toArray.size≤maxLen
 simp only[List.size_toArray,maxLen];omega
end Go.Proofs.YthbdbocionnfgaaGreatDoor
namespace Go.Proofs.YthbdbocionnfgaaGreatDoor
open Go Go.Abs
open Go.Abs.Enc (enc)
def nW:e9:=⟨⟨#[32]⟩⟩
def qF:e9:=⟨⟨#[10]⟩⟩
def jd(a b:e9):e9:=⟨a.b++b.b⟩
theorem pQ(a b:e9):(jd a b).b.size=a.b.size+b.b.size:=by simp[jd]
theorem rT(a b:e9)(h:a.b.size+b.b.size≤9223372036854775807):cv .add (.bO a.b) (.bO b.b)=some (.bO (jd a b).b):=by
 simp only[cv,if_pos h,jd]
theorem Bw{n:Int}(h:IntKind.i64.min≤n∧n≤IntKind.i64.max):(mj n).b.size≤21:=by
 have:=Lib.itoa_length_le n h.1 h.2
 show (Lib.itoa n).toArray.size≤21
 simpa using this
def jn(w:e9)(l:List Int)(i:Nat):e9:=(l.take i).foldl (fun a n=>jd a (jd nW (mj n))) w
def lU(w:e9)(l:List Int):e9:=jd (jn w l l.length) qF
theorem Ee(w:e9){l:List Int}{i:Nat}(h:i<l.length):jn w l (i+1)=jd (jn w l i) (jd nW (mj l[i])):=by
 simp only[jn,Y7 h,List.foldl_append,List.foldl_cons,List.foldl_nil]
theorem wZ(w:e9){l:List Int}(ao:∀ x∈l,IntKind.i64.min≤x∧x≤IntKind.i64.max):∀ i,i≤l.length→(jn w l i).b.size≤w.b.size+22*i
 |0,_=>by simp[jn]
 |i+1,h=>by
  have J:=wZ w ao i (by omega);have U:=Bw (ao l[i] (List.getElem_mem _));rw[Ee w (by omega),pQ,pQ];have ah:nW.b.size=1:=rfl;omega
theorem tU(w:e9)(l:List Int)(hb:w.b.size+22*l.length≤1000000000000):bf Tryz.prog 93 [enc w,enc l] (enc (lU w l)):=by
 refine bf.b7 Tryz.func93 H8 I8 Kl (u8 rfl) (fun hwf W0 bI E1 =>?_);simp only[zg,DK,bK,Z1];have hlen:l.length≤maxLen:=((mS l).1 hwf.2.1).1;have hwl:∀ x∈l,IntKind.i64.min≤x∧x≤IntKind.i64.max:=fun x hx=>((mS l).1 hwf.2.1).2 x hx;simp only[maxLen] at hlen;have ab:=wZ w hwl;refine .gl (by decide +kernel) fun K hK =>?_;simp only[AZ,bE,simprocAttr];refine .done (hK _ ?_);clear hK K;refine ae.seq ?_;refine .gl (by decide +kernel) fun K hK =>?_;simp only[A1,bE,simprocAttr]
 try simp only[kb,bE,simprocAttr]
 refine .done (hK _ ?_);clear hK K;refine ae.block (ae.loop (fun i:Nat=>au [(0,enc (jn w l i)),(7,enc l),(8,.int .i64 l.length),(9,.int .i64 i)] []) (fun i=>i≤l.length) (fun i=>l.length-i) 0 (zz5 _) ?_ (fun i hi =>?_))
 ·refine bC.dT ?_ ?_ ?_ ?_ <;>simp[cF,dB,cS,cV,cD,I.only,cI]
  all_goals rfl
 ·refine .gl (by decide +kernel) fun K hK =>?_;simp only[A2,bE,simprocAttr];refine .done (hK _ ?_);clear hK K;refine ae.seq ?_;refine ae.jB ?_;simp only[aD,bE,simprocAttr];refine ⟨fun h =>?_,fun h =>?_⟩
  ·have hlt:i<l.length:=by simpa using h
   refine ae.skip ?_;try simp only[ej,simprocAttr]
   refine ae.seq (ae.block ?_);refine .gl (by decide +kernel) fun K hK =>?_;simp only[A4,bE,simprocAttr]
   try simp only[fi 1 hlt rfl,bE,simprocAttr]
   refine .done (hK _ ?_);clear hK K;refine .j4 (by decide +kernel) fun K hK =>?_;simp only[A5,bE,simprocAttr];refine .flat _ (EZ l[i]) rfl ?_;have J:=Bw (hwl l[i] (List.getElem_mem _));have U:=ab i hi;have ah:nW.b.size=1:=rfl
   try simp only[show (I.bO ⟨#[32]⟩)=I.bO nW.b from rfl,show (enc (mj l[i]):I)=.bO (mj l[i]).b from rfl,show (enc (jn w l i):I)=.bO (jn w l i).b from rfl,rT nW (mj l[i]) (by omega),rT (jn w l i) (jd nW (mj l[i])) (by rw[pQ];omega),bE,simprocAttr]
   refine .done (hK _ ?_);clear hK K;try simp only[ej,jw]
   refine .j4 (by decide +kernel) fun K hK =>?_;simp only[A6,bE,simprocAttr];refine .done (hK _ ?_);clear hK K;try simp only[ej]
   refine ⟨i+1,by omega,by omega,?_⟩;rw[l3 _ (by omega) (by omega),Ee w hlt];refine bC.dT ?_ ?_ ?_ ?_ <;>simp[cF,dB,cS,cV,cD,I.only,cI]
   all_goals rfl
  ·have hge:i=l.length:=by simp at h;omega
   subst hge;refine ae.exit ?_;try simp only[ej,jw,simprocAttr]
   have U:=ab l.length (Z4 _);have ah:qF.b.size=1:=rfl;refine .gl (by decide +kernel) fun K hK =>?_;simp only[A7,bE,simprocAttr]
   try simp only[show (I.bO ⟨#[10]⟩)=I.bO qF.b from rfl,show (enc (jn w l l.length):I)=.bO (jn w l l.length).b from rfl,rT (jn w l l.length) qF (by omega),bE,simprocAttr]
   refine .done (hK _ ?_);clear hK K;refine ae.ret ?_;simp only[bE,simprocAttr];rfl
def kW:List e9:=[⟨⟨#[]⟩⟩,⟨⟨#[112,111,117,110,100]⟩⟩,⟨⟨#[114,101,108,101,97,115,101]⟩⟩,⟨⟨#[115,101,110,100]⟩⟩,⟨⟨#[99,97,108,108]⟩⟩,⟨⟨#[100,111,110,101]⟩⟩,⟨⟨#[98,97,99,107]⟩⟩,⟨⟨#[116,97,107,101]⟩⟩,⟨⟨#[114,101,102,117,115,101]⟩⟩]
theorem Hc:fu 1 (some [I.bO ⟨#[]⟩,I.bO ⟨#[112,111,117,110,100]⟩,I.bO ⟨#[114,101,108,101,97,115,101]⟩,I.bO ⟨#[115,101,110,100]⟩,I.bO ⟨#[99,97,108,108]⟩,I.bO ⟨#[100,111,110,101]⟩,I.bO ⟨#[98,97,99,107]⟩,I.bO ⟨#[116,97,107,101]⟩,I.bO ⟨#[114,101,102,117,115,101]⟩])=some (enc kW):=by
 have h:fu 1 (some (kW.map (enc (α:=e9))))=some (enc kW):=by
  simp only[fu];rw[if_pos ⟨by simp[Enc.size];exact fun _ _=>rfl,ij _⟩];rfl
 exact h
theorem xN:bf Tryz.prog 94 [] (enc kW):=by
 refine bf.b7 Tryz.func94 H9 I9 Km (u8 rfl) (fun hwf W0 bI E1 =>?_);simp only[zh,DL,bK];have R:=y6 @Hc aG
 repeat' ((first |refine ae.aJ (by decide +kernel) rfl fun K hK =>?_|(refine .aA [0] hK ?_;clear hK K)|(with_reducible refine .done (hK _ ?_);clear hK K)|refine ae.of rfl ?_|(with_reducible refine aD.aI (fun h =>?_) (fun h =>?_) <;>try simp only[h])) <;>try simp only[aK,R,simprocAttr])
 all_goals clear R
 all_goals rfl
def uT:e9:=⟨⟨#[]⟩⟩
def nH:e9:=⟨⟨#[112,111,117,110,100]⟩⟩
def jO(k:Int):e9:=kW.getD k.toNat uT
def mn(x:bg):e9:=if x.kind≤2 then lU (jO x.kind) [x.aH] else lU (jO x.kind) [x.aH,x.other,x.no]
def lJ(p:bP)(i:Nat):e9:=(p.j.take i).foldl (fun a x=>jd a (mn x)) (lU nH [p.aw,p.eI])
def ta(p:bP):e9×Int:=match du p with
 |none=>(uT,91)
 |some _=>(lJ p p.j.length,0)
theorem EP(k:Int):(jO k).b.size≤7:=by
 have h:∀ x∈kW,x.b.size≤7:=by decide
 simp only[jO,Z0];cases hk:kW[k.toNat]? with
 |none=>exact zz5 _
 |some x=>exact h x (List.mem_of_getElem? hk)
theorem w0(w:e9){l:List Int}(ao:∀ x∈l,IntKind.i64.min≤x∧x≤IntKind.i64.max):(lU w l).b.size≤w.b.size+22*l.length+1:=by
 have:=wZ w ao l.length (Z4 _);rw[lU,pQ];have:qF.b.size=1:=rfl;omega
theorem vF{n:Int}(h:-100000≤n∧n≤100000):IntKind.i64.min≤n∧n≤IntKind.i64.max:=by
 have J:IntKind.i64.min=-9223372036854775808:=by decide
 have U:IntKind.i64.max=9223372036854775807:=by decide
 omega
theorem Cf{x:bg}(h:gz x=true):(1≤x.kind∧x.kind≤8)∧(1≤x.aH∧x.aH≤9999)∧(0≤x.other∧x.other≤5)∧(0≤x.no∧x.no≤200):=by
 simp only[gz,dz] at h;split at h
 ·simp only[t8,decide_eq_true_eq,beq_iff_eq] at h;omega
 ·split at h
  ·simp only[t8,decide_eq_true_eq] at h;omega
  ·cases h
theorem BH{x:bg}(h:gz x=true):(mn x).b.size≤74:=by
 obtain ⟨_,U,ah,ar⟩:=Cf h;have hw:=EP x.kind;simp only[mn];split
 ·have:=w0 (jO x.kind) (l:=[x.aH]) (by simp only[X3,forall_eq];exact vF (by omega));simp only[zz6,List.length_nil] at this;omega
 ·have:=w0 (jO x.kind) (l:=[x.aH,x.other,x.no]) (by
   intro y hy;simp only[zz8,List.not_mem_nil,or_false] at hy;rcases hy with rfl | rfl | rfl <;>exact vF (by omega))
  simp only[zz6,List.length_nil] at this;omega
theorem Eg:∀ {l:List bg} {s s':aB},fR s l=some s'→∀ x∈l,gz x=true
 | [],_,_,_,x,hx=>by cases hx
 |y::l,s,s',h,x,hx=>by
  simp only[fR] at h;cases hy:gp s y with
  |none=>rw[hy] at h;cases h
  |some s2 =>
   rw[hy] at h;rcases zz8.1 hx with rfl | hx
   ·simp only[gp] at hy;split at hy
    ·assumption
    ·cases hy
   ·exact Eg h x hx
theorem Cp{p:bP}{s:aB}(h:du p=some s):∀ x∈p.j,gz x=true:=Eg (iT h).2.2.2.2.2
theorem CD(p:bP){i:Nat}(h:i<p.j.length):lJ p (i+1)=jd (lJ p i) (mn p.j[i]):=by
 simp only[lJ,Y7 h,List.foldl_append,List.foldl_cons,List.foldl_nil]
theorem CC{p:bP}{s:aB}(ho:du p=some s):∀ i,i≤p.j.length→(lJ p i).b.size≤50+74*i
 |0,_=>by
  have h5:=(iT ho).2.2.2.2.1;have ar:=(iT ho).2.2.2.1;simp only[iy,dz,t8,decide_eq_true_eq] at h5;have:=w0 nH (l:=[p.aw,p.eI]) (by
   intro y hy;simp only[zz8,List.not_mem_nil,or_false] at hy;rcases hy with rfl | rfl <;>exact vF (by omega))
  have hp:nH.b.size=5:=rfl;simp only[zz6,List.length_nil] at this
  show (lU nH [p.aw,p.eI]).b.size≤_
  omega
 |i+1,h=>by
  have J:=CC ho i (by omega);have U:=BH (Cp ho p.j[i] (List.getElem_mem _));rw[CD p (by omega),pQ];omega
theorem yh(a:Int):fu 1 (some [.int .i64 a])=some (enc [a]):=pO (ys:=[a]) 1 rfl
theorem Hd(a b:Int):fu 1 (some [.int .i64 a,.int .i64 b])=some (enc [a,b]):=pO (ys:=[a,b]) 1 rfl
theorem He(a b c:Int):fu 1 (some [.int .i64 a,.int .i64 b,.int .i64 c])=some (enc [a,b,c]):=pO (ys:=[a,b,c]) 1 rfl
theorem Uc{k:Int}(h:1≤k∧k≤8)(A:ai):jA A 1 k (enc kW)=some (.ref (enc (jO k))):=by
 have hk:k.toNat<kW.length:=by show k.toNat<9;omega
 have:=fi (A:=A) (l:=kW) (k:=k.toNat) 1 hk rfl;have e:((k.toNat:Nat):Int)=k:=by omega
 rw[e] at this;rw[this];simp[jO,Z0,hk]
def xS(p:bP)(i:Nat):ai :=
 au [(1,.ptr 1 []),(5,enc (lJ p i)),(20,enc p.j),(21,.int .i64 p.j.length),(22,.int .i64 i)] [(1,.box (enc p))]
theorem FA(p:bP):bf Tryz.prog 53 [enc p] (.tuple [enc (ta p).1,enc (ta p).2]):=by
 refine bf.b7 Tryz.func53 HN IN J1 (u8 rfl) (fun hwf W0 bI E1 =>?_);simp only[yR,Dp,bK];clear hwf;have hF:=rL p;simp only[nf] at hF;simp only[ta];have e0:(I.bO ⟨#[]⟩)=enc uT:=rfl;have e1:(I.bO ⟨#[112,111,117,110,100]⟩)=enc nH:=rfl;cases ho:du p with
 |none =>
  rw[ho] at hF;have R:=y6 @c8 (y6 @bD (y6 @bY (y6 @bw (y6 @bt aG))))
  repeat' ((first |refine ae.aJ (by decide +kernel) rfl fun K hK =>?_|refine .lead _ (hF) ?_|(refine .aA [0,1,2,3,4,5,7,11,20,21,22,23,28] hK ?_;clear hK K)|(with_reducible refine .done (hK _ ?_);clear hK K)|refine ae.of rfl ?_|(with_reducible refine aD.aI (fun h =>?_) (fun h =>?_) <;>try simp only[h])) <;>try simp only[aK,R,simprocAttr])
  all_goals clear R
  all_goals rfl
 |some s =>
  have hjl:=(iT ho).2.2.2.1;have hok:=Cp ho;have hsz:=CC ho;have hp:nH.b.size=5:=rfl;have hR:=tU nH [p.aw,p.eI] (by simp[hp]);rw[ho] at hF;have R:=y6 @Hd (y6 @c8 (y6 @bD (y6 @bY (y6 @bw (y6 @bt aG)))))
  repeat' ((first |refine ae.aJ (by decide +kernel) rfl fun K hK =>?_|refine .lead _ (hF) ?_|refine .flat _ (hR) rfl ?_|(refine .aA [0,1,2,3,4,5,7,11,20,21,22,23,28] hK ?_;clear hK K)|(with_reducible refine .done (hK _ ?_);clear hK K)|refine ae.of rfl ?_|(with_reducible refine aD.aI (fun h =>?_) (fun h =>?_) <;>try simp only[h])) <;>try simp only[aK,R,simprocAttr])
  all_goals clear R
  refine ae.loop (xS p) (fun i=>i≤p.j.length) (fun i=>p.j.length-i) 0 (zz5 _) ?_ ?_
  ·refine bC.dT ?_ ?_ ?_ ?_ <;>simp[cF,dB,cS,cV,av,cD,eg,I.only,aq.only,cI]
   all_goals rfl
  intro i hi;simp only[xS];have hsi:=hsz i hi;by_cases hlt:i<p.j.length
  ·have hc:=gO hlt;have he:=fun A=>fi (A:=A) 4 hlt rfl;have hw:=gR (i:=i) (by omega);have hst:∀ A rest b,dk A (some 4) 7 [] b (enc p.j[i]) rest (some (.agg [.int .i64 0,.int .i64 0,.int .i64 0,.int .i64 0]))=az rest (A.aV 7 (.box (enc p.j[i]))):=fun A rest b=>dP (ep _) (by rw[fg];rfl) (eH _);have hoki:=hok p.j[i] (List.getElem_mem hlt);have hls:=BH hoki;obtain ⟨hk,hk2⟩:=Cf hoki;have hwd:=Uc hk;have hps:=CD p hlt;have hww:=EP p.j[i].kind;generalize p.j[i]=x at *;have hadd:∀ l:e9,l.b.size≤74→cv .add (enc (lJ p i)) (enc l)=some (enc (jd (lJ p i) l)):=fun l h=>rT (lJ p i) l (by omega);rcases q:decide (x.kind≤2)
   ·have bH:¬ x.kind≤2:=of_decide_eq_false q;have ao:mn x=lU (jO x.kind) [x.aH,x.other,x.no]:=by simp[mn,bH]
    rw[ao] at hls hps;have hR2:=tU (jO x.kind) [x.aH,x.other,x.no] (by simp;omega);have had:=hadd _ hls;have R:=y6 @hc (y6 @he (y6 @hw (y6 @hst (y6 @hwd (y6 @q (y6 @had (y6 @He (y6 @c8 (y6 @bD (y6 @bY (y6 @bw (y6 @bt aG))))))))))))
    repeat' ((first |refine ae.aJ (by decide +kernel) rfl fun K hK =>?_|refine .lead _ (xN) ?_|refine .flat _ (hR2) rfl ?_|(refine .aA [0,1,2,3,4,5,7,11,20,21,22,23,28] hK ?_;clear hK K)|(with_reducible refine .done (hK _ ?_);clear hK K)|refine ae.of rfl ?_|(with_reducible refine aD.aI (fun h =>?_) (fun h =>?_) <;>try simp only[h])) <;>try simp only[aK,R,simprocAttr])
    all_goals clear R
    refine ⟨i+1,by omega,by omega,?_⟩;rw[hps];refine bC.dT ?_ ?_ ?_ ?_ <;>simp[cF,dB,cS,cV,av,cD,eg,I.only,aq.only,cI]
    all_goals rfl
   ·have bH:x.kind≤2:=of_decide_eq_true q;have ao:mn x=lU (jO x.kind) [x.aH]:=by simp[mn,bH]
    rw[ao] at hls hps;have hR2:=tU (jO x.kind) [x.aH] (by simp;omega);have had:=hadd _ hls;have R:=y6 @hc (y6 @he (y6 @hw (y6 @hst (y6 @hwd (y6 @q (y6 @had (y6 @yh (y6 @c8 (y6 @bD (y6 @bY (y6 @bw (y6 @bt aG))))))))))))
    repeat' ((first |refine ae.aJ (by decide +kernel) rfl fun K hK =>?_|refine .lead _ (xN) ?_|refine .flat _ (hR2) rfl ?_|(refine .aA [0,1,2,3,4,5,7,11,20,21,22,23,28] hK ?_;clear hK K)|(with_reducible refine .done (hK _ ?_);clear hK K)|refine ae.of rfl ?_|(with_reducible refine aD.aI (fun h =>?_) (fun h =>?_) <;>try simp only[h])) <;>try simp only[aK,R,simprocAttr])
    all_goals clear R
    refine ⟨i+1,by omega,by omega,?_⟩;rw[hps];refine bC.dT ?_ ?_ ?_ ?_ <;>simp[cF,dB,cS,cV,av,cD,eg,I.only,aq.only,cI]
    all_goals rfl
  ·have hge:i=p.j.length:=by omega
   have hc:=gW hlt;subst hge;have R:=y6 @hc (y6 @c8 (y6 @bD (y6 @bY (y6 @bw (y6 @bt aG)))))
   repeat' ((first |refine ae.aJ (by decide +kernel) rfl fun K hK =>?_|(refine .aA [0,1,2,3,4,5,7,11,20,21,22,23,28] hK ?_;clear hK K)|(with_reducible refine .done (hK _ ?_);clear hK K)|refine ae.of rfl ?_|(with_reducible refine aD.aI (fun h =>?_) (fun h =>?_) <;>try simp only[h])) <;>try simp only[aK,R,simprocAttr])
   all_goals clear R
theorem bM.rF{P:Program}{Y:Value→List I→List (Nat×aq)→cA→Prop}{ab:List FuncId}{K:ai→Prop}{v:Value}{vs:List I}{dst:Option Nat}{rest:List aC}{ts:List (Nat×I)}{os osk ow:List (Nat×aq)}{In Ix:List (Nat×aq)→Prop}
  (hY:Y v vs osk (fun r os2=>(r=.bool true∧In os2)∨(r=.bool false∧Ix os2))) (hk:eT os osk) (hi:∀ os',In os'→eT os os') (hx:∀ os',Ix os'→eT os os') (hcl:I.b9 vs=true) (how:∀ m,av ow m=true→m<1000000)
  (J:∀ os2,In os2→bM P Y ab K (az rest ((au ts (ow++os2)).aT dst (.bool true)))) (U:∀ os2,Ix os2→bM P Y ab K (az rest ((au ts (ow++os2)).aT dst (.bool false)))) :
  bM P Y ab K (.kq v vs dst rest (au ts (ow++osk))):=by
 refine .ER osk vs _ hY (fX.ik hk how) (rZ vs hcl) ?_ ?_
 ·rintro r os' (⟨rfl,h⟩ | ⟨rfl,h⟩)
  ·exact gq.ik hk (hi _ h) rfl
  ·exact gq.ik hk (hx _ h) rfl
 ·rintro r os' (⟨rfl,h⟩ | ⟨rfl,h⟩)
  ·rw[r0 hk (hi _ h) how];exact J os' h
  ·rw[r0 hk (hx _ h) how];exact U os' h
theorem qd{os os2 ow:List (Nat×aq)}{ts:List (Nat×I)}(h:eT os os2)(how:∀ m,av ow m=true→m<1000000):∀ n x,aj os2 n=some x→(au ts (ow++os2)).o n=some x∧x.only (av os2)=true∧x.eb=true:=fun n x hx=>by
 have hn:av os2 n=true:=by simp[av,hx]
 have hg:=h.lA n (by rw[←h.same];exact hn);refine ⟨?_,h.ok n x hx⟩;simp only[au,fB];cases hw:aj ow n with
 |none=>exact hx
 |some y=>have:=how n (by simp[av,hw]);omega
def tj:dE:=⟨0,0,0,0,0⟩
def nJ(s:aB)(to n:Int):dE:=⟨if (s.b8 (n.toNat-1)).dp then 3 else 1,s.aw,to,(s.b8 (n.toNat-1)).aH,n⟩
def px(s:aB)(to n:Int):Bool:=(s.b8 (n.toNat-1)).to==to
def fY(s:aB)(to:Int)(i:Nat):List dE:=(((cj s.bA).take i).filter (px s to)).map (nJ s to)
def kL(s:aB)(to:Int)(no:Nat):List dE:=match s.bn.find? fun x=>decide (fw x=⟨to,no⟩) with
 |some x=>[⟨if x.kind=8 then 4 else 2,s.aw,to,x.aH,no⟩]
 |none=>[]
def gL(s:aB)(to:Int)(k:Nat):List dE:=(List.range k).flatMap fun i=>kL s to (i+1)
def fm(s:aB)(to:Int):List dE:=fY s to (cj s.bA).length++gL s to 200
theorem vJ(s:aB)(to:Int){i:Nat}(h:i<(cj s.bA).length):fY s to (i+1)=fY s to i++if px s to (cj s.bA)[i] then [nJ s to (cj s.bA)[i]] else []:=by
 simp only[fY,Y7 h,List.filter_append,Y3,List.filter_cons,List.filter_nil]
 congr 1
 split <;>rfl
theorem oN(s:aB)(to:Int)(k:Nat):gL s to (k+1)=gL s to k++kL s to (k+1):=by
 simp only[gL,List.range_succ,List.flatMap_append,List.flatMap_cons,List.flatMap_nil,List.append_nil]
theorem Br(s:aB)(to:Int):∀ {i n:Nat},i≤n→n≤(cj s.bA).length→fY s to i <+: fY s to n
 |i,0,h,_=>by
   have:i=0:=by omega
   subst this;exact List.prefix_rfl
 |i,n+1,h,hn=>by
  by_cases e:i=n+1
  ·subst e;exact List.prefix_rfl
  ·rw[vJ s to (by omega)];exact (Br s to (by omega) (by omega)).trans (List.prefix_append _ _)
theorem Bv(s:aB)(to:Int):∀ {k n:Nat},k≤n→gL s to k <+: gL s to n
 |k,0,h=>by
   have:k=0:=by omega
   subst this;exact List.prefix_rfl
 |k,n+1,h=>by
  by_cases e:k=n+1
  ·subst e;exact List.prefix_rfl
  ·rw[oN];exact (Bv s to (by omega)).trans (List.prefix_append _ _)
theorem A9{α:Type}{l m:List α}{x d:α}(h:l++[x] <+: m):l.length<m.length∧m.getD l.length d=x:=by
 obtain ⟨r,rfl⟩:=h;refine ⟨by simp,?_⟩;rw[Y1,Z0,zz0 (Z4 _)];simp
theorem Tz{s:aB}{to:Int}{i:Nat}(h:i<(cj s.bA).length)(ht:px s to (cj s.bA)[i]=true):(fY s to i).length<(fm s to).length∧(fm s to).getD (fY s to i).length tj=nJ s to (cj s.bA)[i]:=by
 have J:=vJ s to h;rw[if_pos ht] at J;have U:=Br s to (i:=i+1) (n:=(cj s.bA).length) (by omega) (Z4 _);rw[J] at U;exact A9 (U.trans (List.prefix_append _ _))
theorem TA{s:aB}{to:Int}{k:Nat}{x:dE}(h:k<200)(hx:kL s to (k+1)=[x]):(fY s to (cj s.bA).length++gL s to k).length<(fm s to).length∧(fm s to).getD (fY s to (cj s.bA).length++gL s to k).length tj=x:=by
 have J:=oN s to k;rw[hx] at J;have U:=Bv s to (k:=k+1) (n:=200) (by omega);rw[J] at U;refine A9 ?_;rw[Y1];exact List.prefix_append_right_inj _ |>.2 U
theorem ot(a b c d e:Int):(dK [.int .i64 0,.int .i64 0,.int .i64 0,.int .i64 0,.int .i64 0] [(0,.int .i64 a),(1,.int .i64 b),(2,.int .i64 c),(3,.int .i64 d),(4,.int .i64 e)]).map I.agg=some (enc (⟨a,b,c,d,e⟩:dE)):=by simp[dK,I.bS,I.size];rfl
theorem mO:(∀ A n b rest (q:dE) x y z w u,dk A (some 5) n [] b (enc q) rest (some (.agg [.int .i64 x,.int .i64 y,.int .i64 z,.int .i64 w,.int .i64 u]))=az rest (A.aV n (.box (enc q)))) ∧
  (∀ (A:ai) n (q:dE) rest (v u:Int),dk A none n [0] (enc q) (.int .i64 v) rest (some (.int .i64 u))=az rest (A.aV n (.box (enc (⟨v,q.cZ,q.to,q.aH,q.no⟩:dE))))) ∧
  (∀ A n b rest (q:bg) x y z w,dk A (some 4) n [] b (enc q) rest (some (.agg [.int .i64 x,.int .i64 y,.int .i64 z,.int .i64 w]))=az rest (A.aV n (.box (enc q)))) :=
 ⟨fun A n b rest q x y z w u=>dP (ep _) (by rw[fg];rfl) (eH _),fun A n q rest v u=>dP rfl rfl rfl,fun A n b rest q x y z w=>dP (ep _) (by rw[fg];rfl) (eH _)⟩
theorem sZ{a b:aq} : ∀ m,av [(7,a),(7,b)] m=true→m<1000000:=fun m h=>by
 simp only[av,aj] at h
 (repeat' split at h) <;>first | omega | (simp at h;done)
theorem s7{a b c:aq} : ∀ m,av [(7,a),(7,b),(7,c)] m=true→m<1000000:=fun m h=>by
 simp only[av,aj] at h
 (repeat' split at h) <;>first | omega | (simp at h;done)
theorem sY{a b c d:aq} : ∀ m,av [(11,a),(11,b),(9,c),(9,d)] m=true→m<1000000:=fun m h=>by
 simp only[av,aj] at h
 (repeat' split at h) <;>first | omega | (simp at h;done)
theorem wD{a b c d e:aq} : ∀ m,av [(11,a),(11,b),(11,e),(9,c),(9,d)] m=true→m<1000000:=fun m h=>by
 simp only[av,aj] at h
 (repeat' split at h) <;>first | omega | (simp at h;done)
theorem VV:∀ m,av [] m=true→m<1000000:=fun m h=>by simp[av,aj] at h
theorem ng{ow os osk:List (Nat×aq)}(hw:∀ m,av ow m=true→m<1000000)(gk:eT os osk):∀ m,aj osk m=none∨aj osk m=aj (ow++osk) m:=fun m=>by
 rw[fB];cases h:aj ow m with
 |none=>exact .inr rfl
 |some y=>exact .inl (gk.none (hw m (by simp[av,h])))
theorem nY(p:Nat→Bool)(s:aB):(dx s).only p=true:=j0 p _ (nX s)
def rR(s:aB)(to:Int)(v:Value)(t:Nat×List (Nat×aq)):ai :=
 au [(0,.raw v),(1,.ref (dx s)),(2,.ref (.int .i64 to)),(8,.int .i64 ((t.1:Int)+1))] t.2
def rQ(s:aB)(to:Int)(v:Value)(t:Nat×List (Nat×aq)):ai :=
 au [(0,.raw v),(1,.ref (dx s)),(2,.ref (.int .i64 to)),(13,enc (cj s.bA)),(14,.int .i64 (cj s.bA).length),(15,.int .i64 t.1)] t.2
theorem EX(s:aB)(to:Int)(ao:s.aQ.length≤1000):xP Tryz.prog 107 [.ref (dx s),.ref (enc to)] (fm s to).length (fun k=>[enc ((fm s to).getD k tj)]):=by
 intro Y v a8 Ix os hv hY hI hIx aW;have hG:=hI 0 os aW;have hlen:(cj s.bA).length=s.aQ.length:=by simp[cj,aB.bA]
 have hN:=xK s (by omega);refine kd.b7 Tryz.func107 zk Ij Jq (u8 rfl) (u8 rfl) hG.lA (fun hwf W0 bI E1 =>?_);simp only[yl,CM,bK,Z1,Nat.reduceAdd];have R:=y6 @ez (y6 @bD (y6 @bY (y6 @bw (y6 @bt aG))))
 repeat' ((first |(with_reducible refine .guard (fun hb =>?_) (fun hb =>?_) <;>try simp only[hb])|refine ae.aJ (by decide +kernel) rfl fun K hK =>?_|refine .lead _ (hN) ?_|(refine .aA [0,1,2,5,6,7,8,9,10,11,13,14,15,16,39,52,55,80,88] hK ?_;clear hK K)|(with_reducible refine .done (hK _ ?_);clear hK K)|refine ae.of rfl ?_|(with_reducible refine aD.aI (fun h =>?_) (fun h =>?_) <;>try simp only[h])) <;>try simp only[aK,R,simprocAttr])
 all_goals clear R
 refine ae.loop (rQ s to v) (fun t=>t.1≤(cj s.bA).length∧a8 (fY s to t.1).length t.2) (fun t=>(cj s.bA).length-t.1) (0,os) ⟨zz5 _,aW⟩ ?_ ?_
 ·refine bC.slots ?_ (fun n=>rfl);simp[cF,cD]
 rintro ⟨i,osk⟩ ⟨hi,hIk⟩;simp only at hi hIk;have gk:=hI _ osk hIk;have n7:=gk.none (n:=7) (by decide);simp only[rQ];by_cases hlt:i<(cj s.bA).length
 ·have hc:=gO hlt;have he:=fun A=>fi (A:=A) 1 hlt rfl;have hw:=gR (i:=i) (by omega);have hlk:=BJ s hlt;have hsu:=vJ s to hlt;have hra:=Tz (s:=s) (to:=to) hlt;obtain ⟨n,hn⟩:∃ n,n=(cj s.bA)[i]:=⟨_,rfl⟩
  rw[←hn] at he hlk hsu hra;obtain ⟨r,hr⟩:∃ r,r=s.b8 (n.toNat-1):=⟨_,rfl⟩
  have hrd:nJ s to n=⟨if r.dp then 3 else 1,s.aw,to,r.aH,n⟩:=by simp only[nJ,←hr]
  have hta:px s to n=(r.to==to):=by simp only[px,←hr]
  rw[←hr] at hlk;rcases q:(r.to==to)
  ·rw[q] at hta;rw[hta] at hsu;simp only[Z2,if_false,List.append_nil] at hsu;rcases qc:r.dp
   all_goals
    have R:=y6 @hc (y6 @he (y6 @hw (y6 @hlk (y6 @q (y6 @qc (y6 @n7 (y6 @ot (y6 @mO (y6 @ez (y6 @bD (y6 @bY (y6 @bw (y6 @bt aG)))))))))))))
    repeat' ((first |(with_reducible refine .guard (fun hb =>?_) (fun hb =>?_) <;>try simp only[hb])|(refine ae.qS (gs:=nl) [] [] [0,1,2,3,4,5,6,7,8,9,10,11] (by decide +kernel) (cP.of (by simp[fh])) fun K hK =>?_;simp only[eZ,nl,Y5,Y6,R,simprocAttr])|refine ae.aJ (by decide +kernel) rfl fun K hK =>?_|(refine .aA [0,1,2,5,6,7,8,9,10,11,13,14,15,16,39,52,55,80,88] hK ?_;clear hK K)|(with_reducible refine .done (hK _ ?_);clear hK K)|refine ae.of rfl ?_|(with_reducible refine aD.aI (fun h =>?_) (fun h =>?_) <;>try simp only[h])) <;>try simp only[aK,R,simprocAttr])
    all_goals clear R
    refine ⟨(i+1,osk),⟨by simp only;omega,by simp only[hsu];exact hIk⟩,by simp only;omega,?_⟩;refine bC.fn ?_ ?_ ?_ (fun m x h=>(gk.ok m x h).1)
    ·simp[cF,cD]
    ·first | exact ng (ow:=[(7,_),(7,_)]) sZ gk | exact ng (ow:=[(7,_),(7,_),(7,_)]) s7 gk
    ·simp[cS,I.only,cI,nY]
  ·rw[q] at hta;rw[hta,if_pos rfl] at hsu;obtain ⟨g1,g2⟩:=hra hta;have hs1:(fY s to (i+1)).length=(fY s to i).length+1:=by rw[hsu];simp
   have hy:=hY _ osk _ g1 hIk (fun r os2 h=>h);simp only[g2,hrd] at hy;rcases qc:r.dp
   ·rw[qc] at hy;simp only[Z2,if_false] at hy;have R:=y6 @hc (y6 @he (y6 @hw (y6 @hlk (y6 @q (y6 @qc (y6 @n7 (y6 @ot (y6 @mO (y6 @r7 (y6 @ez (y6 @bD (y6 @bY (y6 @bw (y6 @bt aG))))))))))))))
    repeat' ((first |(with_reducible refine .guard (fun hb =>?_) (fun hb =>?_) <;>try simp only[hb])|(refine ae.qS (gs:=nl) [] [] [0,1,2,3,4,5,6,7,8,9,10,11] (by decide +kernel) (cP.of (by simp[fh])) fun K hK =>?_;simp only[eZ,nl,Y5,Y6,R,simprocAttr])|refine ae.aJ (by decide +kernel) rfl fun K hK =>?_|refine bM.rF (ow:=[(7,_),(7,_)]) hy gk (hI _) hIx (by simp[I.b9,kz]) sZ (fun os2 U =>?_) (fun os2 U =>?_)|(refine .aA [0,1,2,5,6,7,8,9,10,11,13,14,15,16,39,52,55,80,88] hK ?_;clear hK K)|(with_reducible refine .done (hK _ ?_);clear hK K)|refine ae.of rfl ?_|(with_reducible refine aD.aI (fun h =>?_) (fun h =>?_) <;>try simp only[h])) <;>try simp only[aK,R,simprocAttr])
    all_goals clear R
    ·have g3:=hI _ os2 U;refine ⟨(i+1,os2),⟨by simp only;omega,by simp only[hs1];exact U⟩,by simp only;omega,?_⟩;refine bC.fn ?_ (ng sZ g3) ?_ (fun m x h=>(g3.ok m x h).1)
     ·simp[cF,cD]
     ·simp[cS,I.only,cI,nY]
    ·rw[nO];exact ⟨os2,[],qd (hIx os2 U) sZ,trivial,rfl,.inr U⟩
   ·rw[qc] at hy;simp only[if_true] at hy;have R:=y6 @hc (y6 @he (y6 @hw (y6 @hlk (y6 @q (y6 @qc (y6 @n7 (y6 @ot (y6 @mO (y6 @r7 (y6 @ez (y6 @bD (y6 @bY (y6 @bw (y6 @bt aG))))))))))))))
    repeat' ((first |(with_reducible refine .guard (fun hb =>?_) (fun hb =>?_) <;>try simp only[hb])|(refine ae.qS (gs:=nl) [] [] [0,1,2,3,4,5,6,7,8,9,10,11] (by decide +kernel) (cP.of (by simp[fh])) fun K hK =>?_;simp only[eZ,nl,Y5,Y6,R,simprocAttr])|refine ae.aJ (by decide +kernel) rfl fun K hK =>?_|refine bM.rF (ow:=[(7,_),(7,_),(7,_)]) hy gk (hI _) hIx (by simp[I.b9,kz]) s7 (fun os2 U =>?_) (fun os2 U =>?_)|(refine .aA [0,1,2,5,6,7,8,9,10,11,13,14,15,16,39,52,55,80,88] hK ?_;clear hK K)|(with_reducible refine .done (hK _ ?_);clear hK K)|refine ae.of rfl ?_|(with_reducible refine aD.aI (fun h =>?_) (fun h =>?_) <;>try simp only[h])) <;>try simp only[aK,R,simprocAttr])
    all_goals clear R
    ·have g3:=hI _ os2 U;refine ⟨(i+1,os2),⟨by simp only;omega,by simp only[hs1];exact U⟩,by simp only;omega,?_⟩;refine bC.fn ?_ (ng s7 g3) ?_ (fun m x h=>(g3.ok m x h).1)
     ·simp[cF,cD]
     ·simp[cS,I.only,cI,nY]
    ·rw[nO];exact ⟨os2,[],qd (hIx os2 U) s7,trivial,rfl,.inr U⟩
 ·have hge:i=(cj s.bA).length:=by omega
  have hc:=gW hlt;rw[hge] at hIk;rw[hge] at hc ⊢;have R:=y6 @hc (y6 @ez (y6 @bD (y6 @bY (y6 @bw (y6 @bt aG)))))
  repeat' ((first |(with_reducible refine .guard (fun hb =>?_) (fun hb =>?_) <;>try simp only[hb])|refine ae.aJ (by decide +kernel) rfl fun K hK =>?_|(refine .aA [0,1,2,5,6,7,8,9,10,11,13,14,15,16,39,52,55,80,88] hK ?_;clear hK K)|(with_reducible refine .done (hK _ ?_);clear hK K)|refine ae.of rfl ?_|(with_reducible refine aD.aI (fun h =>?_) (fun h =>?_) <;>try simp only[h])) <;>try simp only[aK,R,simprocAttr])
  all_goals clear R
  refine ae.loop (rR s to v) (fun t=>t.1≤200∧a8 (fY s to (cj s.bA).length++gL s to t.1).length t.2) (fun t=>200-t.1) (0,osk) ⟨zz5 _,by simpa[gL] using hIk⟩ ?_ ?_
  ·refine bC.slots ?_ (fun n=>rfl);simp[cF,cD]
  clear hIk gk n7 hc hlt hi hge;rintro ⟨k,osk⟩ ⟨hk,hIk⟩;simp only at hk hIk;have gk:=hI _ osk hIk;have n9:=gk.none (n:=9) (by decide);have n11:=gk.none (n:=11) (by decide);simp only[rR];by_cases hlt:k<200
  ·have hc:decide (((k:Int)+1)≤200)=true:=by simp;omega
   have hw:IntKind.i64.wrap ((k:Int)+1+1)=((k+1:Nat):Int)+1:=by rw[l3 _ (by omega) (by omega)];omega
   have hsu:=oN s to k;have hlg:=BI uW fw (fun x:bg=>enc x) (.agg [.int .i64 0,.int .i64 0,.int .i64 0,.int .i64 0]) ⟨to,(k:Int)+1⟩ s.bn;have ew:(enc (⟨to,(k:Int)+1⟩:mX):I)=.agg [.int .i64 to,.int .i64 ((k:Int)+1)]:=rfl;rw[ew] at hlg;have e2:(fun x:bg=>decide ((⟨to,(k:Int)+1⟩:mX)=fw x))=fun x=>decide (fw x=⟨to,(k:Int)+1⟩):=by
    funext x;rw[Bool.eq_iff_iff];simp[eq_comm]
   rw[e2] at hlg;have hrb:kL s to (k+1)=match s.bn.find? fun x=>decide (fw x=⟨to,(k:Int)+1⟩) with
    |some x=>[⟨if x.kind=8 then 4 else 2,s.aw,to,x.aH,(k:Int)+1⟩]
    |none=>[]:=by simp only[kL];rfl
   have gr:=fun x=>TA (s:=s) (to:=to) (k:=k) (x:=x) hlt;cases hf:s.bn.find? fun x=>decide (fw x=⟨to,(k:Int)+1⟩) with
   |none =>
    rw[hf] at hlg hrb;simp only at hlg hrb;have hlk:fj (.bd [.i .i64,.i .i64]) (.agg [.int .i64 0,.int .i64 0,.int .i64 0,.int .i64 0]) (.agg [.int .i64 to,.int .i64 ((k:Int)+1)]) (s.dV.map enc) (s.bn.map enc)=some (enc gX,false):=hlg;have q:(gX.kind==8)=false:=rfl;rw[hrb,List.append_nil] at hsu;have R:=y6 @hc (y6 @hw (y6 @hlk (y6 @q (y6 @n9 (y6 @n11 (y6 @uk (y6 @ot (y6 @mO (y6 @ez (y6 @bD (y6 @bY (y6 @bw (y6 @bt aG)))))))))))))
    repeat' ((first |(with_reducible refine .guard (fun hb =>?_) (fun hb =>?_) <;>try simp only[hb])|refine ae.aJ (by decide +kernel) rfl fun K hK =>?_|(refine .aA [0,1,2,5,6,7,8,9,10,11,13,14,15,16,39,52,55,80,88] hK ?_;clear hK K)|(with_reducible refine .done (hK _ ?_);clear hK K)|refine ae.of rfl ?_|(with_reducible refine aD.aI (fun h =>?_) (fun h =>?_) <;>try simp only[h])) <;>try simp only[aK,R,simprocAttr])
    all_goals clear R
    refine ⟨(k+1,osk),⟨by simp only;omega,by simp only[hsu];exact hIk⟩,by simp only;omega,?_⟩;refine bC.fn ?_ (ng (ow:=[(11,_),(11,_),(9,_),(9,_)]) sY gk) ?_ (fun m x h=>(gk.ok m x h).1)
    ·simp[cF,cD]
    ·simp[cS,I.only,nY]
   |some x =>
    rw[hf] at hlg hrb;simp only at hlg hrb;have hlk:fj (.bd [.i .i64,.i .i64]) (.agg [.int .i64 0,.int .i64 0,.int .i64 0,.int .i64 0]) (.agg [.int .i64 to,.int .i64 ((k:Int)+1)]) (s.dV.map enc) (s.bn.map enc)=some (enc x,true):=hlg;obtain ⟨g1,g2⟩:=gr _ hrb;rw[hrb] at hsu;have hs1:(fY s to (cj s.bA).length++gL s to (k+1)).length=(fY s to (cj s.bA).length++gL s to k).length+1:=by rw[hsu];simp only[Z6,zz6,List.length_nil];omega
    have hy:=hY _ osk _ g1 hIk (fun r os2 h=>h);simp only[g2] at hy;rcases q:(x.kind==8)
    ·have qk:¬ x.kind=8:=by simpa using q
     simp only[if_neg qk] at hy;have R:=y6 @hc (y6 @hw (y6 @hlk (y6 @q (y6 @n9 (y6 @n11 (y6 @uk (y6 @ot (y6 @mO (y6 @r7 (y6 @ez (y6 @bD (y6 @bY (y6 @bw (y6 @bt aG))))))))))))))
     repeat' ((first |(with_reducible refine .guard (fun hb =>?_) (fun hb =>?_) <;>try simp only[hb])|refine ae.aJ (by decide +kernel) rfl fun K hK =>?_|refine aR.rF (ow:=[(11,_),(11,_),(9,_),(9,_)]) hy gk (hI _) hIx (by simp[I.b9,kz]) sY (fun os2 U =>?_) (fun os2 U =>?_)|(refine .aA [0,1,2,5,6,7,8,9,10,11,13,14,15,16,39,52,55,80,88] hK ?_;clear hK K)|(with_reducible refine .done (hK _ ?_);clear hK K)|refine ae.of rfl ?_|(with_reducible refine aD.aI (fun h =>?_) (fun h =>?_) <;>try simp only[h])) <;>try simp only[aK,R,simprocAttr])
     all_goals clear R
     ·have g3:=hI _ os2 U;refine ⟨(k+1,os2),⟨by simp only;omega,by simp only[hs1];exact U⟩,by simp only;omega,?_⟩;refine bC.fn ?_ (ng sY g3) ?_ (fun m x h=>(g3.ok m x h).1)
      ·simp[cF,cD]
      ·simp[cS,I.only,nY]
     ·rw[nO];exact ⟨os2,[],qd (hIx os2 U) sY,trivial,rfl,.inr U⟩
    ·have qk:x.kind=8:=by simpa using q
     simp only[if_pos qk] at hy;have R:=y6 @hc (y6 @hw (y6 @hlk (y6 @q (y6 @n9 (y6 @n11 (y6 @uk (y6 @ot (y6 @mO (y6 @r7 (y6 @ez (y6 @bD (y6 @bY (y6 @bw (y6 @bt aG))))))))))))))
     repeat' ((first |(with_reducible refine .guard (fun hb =>?_) (fun hb =>?_) <;>try simp only[hb])|refine ae.aJ (by decide +kernel) rfl fun K hK =>?_|refine aR.rF (ow:=[(11,_),(11,_),(11,_),(9,_),(9,_)]) hy gk (hI _) hIx (by simp[I.b9,kz]) wD (fun os2 U =>?_) (fun os2 U =>?_)|(refine .aA [0,1,2,5,6,7,8,9,10,11,13,14,15,16,39,52,55,80,88] hK ?_;clear hK K)|(with_reducible refine .done (hK _ ?_);clear hK K)|refine ae.of rfl ?_|(with_reducible refine aD.aI (fun h =>?_) (fun h =>?_) <;>try simp only[h])) <;>try simp only[aK,R,simprocAttr])
     all_goals clear R
     ·have g3:=hI _ os2 U;refine ⟨(k+1,os2),⟨by simp only;omega,by simp only[hs1];exact U⟩,by simp only;omega,?_⟩;refine bC.fn ?_ (ng wD g3) ?_ (fun m x h=>(g3.ok m x h).1)
      ·simp[cF,cD]
      ·simp[cS,I.only,nY]
     ·rw[nO];exact ⟨os2,[],qd (hIx os2 U) wD,trivial,rfl,.inr U⟩
  ·have hc:decide (((k:Int)+1)≤200)=false:=by simp;omega
   have hge:k=200:=by omega
   have R:=y6 @hc (y6 @ez (y6 @bD (y6 @bY (y6 @bw (y6 @bt aG)))))
   repeat' ((first |(with_reducible refine .guard (fun hb =>?_) (fun hb =>?_) <;>try simp only[hb])|refine ae.aJ (by decide +kernel) rfl fun K hK =>?_|(refine .aA [0,1,2,5,6,7,8,9,10,11,13,14,15,16,39,52,55,80,88] hK ?_;clear hK K)|(with_reducible refine .done (hK _ ?_);clear hK K)|refine ae.of rfl ?_|(with_reducible refine aD.aI (fun h =>?_) (fun h =>?_) <;>try simp only[h])) <;>try simp only[aK,R,simprocAttr])
   all_goals clear R
   rw[lR];refine ⟨osk,[],qd (ow:=[]) gk VV,trivial,rfl,.inl ?_⟩;rw[fm];rw[hge] at hIk;exact hIk
def DQ(o:Option aB):I:=match o with
 |some s=>.tuple [dx s,.bool true]
 |none=>.tuple [.nilp,.bool false]
theorem FF(aw:Int)(l:List bg)(ao:l.length≤200):bf Tryz.prog 62 [enc aw,enc l] (DQ (fC aw l)):=by
 refine bf.b7 Tryz.func62 zB zS zZ (u8 rfl) (fun hwf W0 bI E1 =>?_);simp only[uC,wO,bK,Z1];clear hwf;have R:=y6 @bY (y6 @bw (y6 @bt aG))
 repeat' ((first |refine ae.aJ (by decide +kernel) rfl fun K hK =>?_|refine aR.eP rfl (fun _ _ _=>rfl) ?_|(refine .aA [0,1,4,5,6,8,11,12,13,14,20] hK ?_;clear hK K)|(with_reducible refine .done (hK _ ?_);clear hK K)|refine ae.of rfl ?_|(with_reducible refine aD.aI (fun h =>?_) (fun h =>?_) <;>try simp only[h])) <;>try simp only[aK,R,simprocAttr])
 all_goals clear R
 refine ae.loop (rP l) (fun t=>t.1≤l.length∧fR (eP aw) (l.take t.1)=some t.2) (fun t=>l.length-t.1) (0,eP aw) ⟨zz5 _,rfl⟩ ?_ ?_
 ·rw[List.append_nil];refine bC.fn ?_ (fun n=>.inr rfl) ?_ (fun n x h=>(kT (kH aw) h).1)
  ·simp[cF,cD]
  ·have:=(dG (im (eP aw).all.length) (n:=2000)).2 (.inl (by omega));simp[cS,I.only,cI,this]
 rintro ⟨i,s⟩ ⟨hi,hrun⟩;simp only at hi hrun;obtain ⟨hk,hme,hln⟩:=mG (kH aw) hrun;have hln2:s.all.length≤i:=by simpa[eP,hi] using hln
 have n8:aj (de s) 8=none:=eA (.inl (by omega)) fun i _=>by simp[bx];omega
 simp only[rP];by_cases hlt:i<l.length
 ·have hc:=gO hlt;have he:=fun A=>fi (A:=A) 4 hlt rfl;have hw:=gR (i:=i) (by omega);have hst:∀ A rest,dk A (some 4) 8 [] (.agg [.int .i64 0,.int .i64 0,.int .i64 0,.int .i64 0]) (enc l[i]) rest (some (.agg [.int .i64 0,.int .i64 0,.int .i64 0,.int .i64 0]))=az rest (A.aV 8 (.box (enc l[i]))):=fun A rest=>dP (ep _) (by rw[fg];rfl) (eH _);have how:∀ (a b:aq) m,2000≤m→aj [(8,a),(8,b)] m=none:=fun a b m hm=>by simp only[aj];rw[if_neg (by omega),if_neg (by omega)]
  have hsp:l=l.take i++l[i]::l.drop (i+1):=by simp
  cases hn:gp s l[i] with
  |none =>
   have ab:dY s l[i]=(s,false):=by simp[dY,hn]
   have R:=y6 @hc (y6 @he (y6 @hst (y6 @n8 (y6 @bD (y6 @bY (y6 @bw (y6 @bt aG)))))))
   repeat' ((first |refine ae.aJ (by decide +kernel) rfl fun K hK =>?_|refine aR.rz (ow:=[(8,_),(8,_)]) hk (by omega) rfl (how _ _) ab ?_|(refine .aA [0,1,4,5,6,8,11,12,13,14,20] hK ?_;clear hK K)|(with_reducible refine .done (hK _ ?_);clear hK K)|refine ae.of rfl ?_|(with_reducible refine aD.aI (fun h =>?_) (fun h =>?_) <;>try simp only[h])) <;>try simp only[aK,R,simprocAttr])
   all_goals clear R
   have hno:fC aw l=none:=by
    rw[fC,hsp,pk,hrun];simp only[Option.bind_some,fR,hn]
   rw[hno];rfl
  |some s2 =>
   have ab:dY s l[i]=(s2,true):=by simp[dY,hn]
   have R:=y6 @hc (y6 @he (y6 @hst (y6 @hw (y6 @n8 (y6 @bY (y6 @bw (y6 @bt aG)))))))
   repeat' ((first |refine ae.aJ (by decide +kernel) rfl fun K hK =>?_|refine aR.rz (ow:=[(8,_),(8,_)]) hk (by omega) rfl (how _ _) ab ?_|(refine .aA [0,1,4,5,6,8,11,12,13,14,20] hK ?_;clear hK K)|(with_reducible refine .done (hK _ ?_);clear hK K)|refine ae.of rfl ?_|(with_reducible refine aD.aI (fun h =>?_) (fun h =>?_) <;>try simp only[h])) <;>try simp only[aK,R,simprocAttr])
   all_goals clear R
   obtain ⟨hk2,hme2,hln3⟩:=xr hk hn;refine ⟨(i+1,s2),⟨by simp only;omega,?_⟩,by simp only;omega,?_⟩
   ·rw[Y7 hlt,pk,hrun];simp only[Option.bind_some,fR,hn]
   ·refine bC.fn ?_ (fun n =>?_) ?_ (fun n x h=>(kT hk2 h).1)
    ·simp[cF,cD]
    ·simp only[fB];cases aj (de s2) n with
     |none=>exact .inl rfl
     |some y=>exact .inr rfl
    ·have:=(dG (im s2.all.length) (n:=2000)).2 (.inl (by omega));simp[cS,I.only,cI,this]
 ·have hge:i=l.length:=by omega
  have hc:=gW hlt;subst hge;rw[List.take_length] at hrun;have hfin:∀ ts,cQ (au ts (de s)) 9 (.agg [.int .i64 s.aw,.mref 2001,.mref 2002,.int .i64 s.all.length,.mref 2003,.mref 2004])=some (fK s):=fun ts=>gH (gK (im _) hk.cw fun n _=>rfl) 4;have hla:aj (de s) 2000=some (.box (.agg [.int .i64 s.aw,.mref 2001,.mref 2002,.int .i64 s.all.length,.mref 2003,.mref 2004])):=fo;have hrd:fC aw l=some s:=hrun;rw[hrd];have R:=y6 @hc (y6 @hfin (y6 @hla (y6 @we (y6 @bD (y6 @bY (y6 @bw (y6 @bt aG)))))))
  repeat' ((first |refine ae.aJ (by decide +kernel) rfl fun K hK =>?_|(refine .aA [0,1,4,5,6,8,11,12,13,14,20] hK ?_;clear hK K)|(with_reducible refine .done (hK _ ?_);clear hK K)|refine ae.of rfl ?_|(with_reducible refine aD.aI (fun h =>?_) (fun h =>?_) <;>try simp only[h])) <;>try simp only[aK,R,simprocAttr])
  all_goals clear R
  rfl
theorem FG(s:aB)(to:Int):bf Tryz.prog 63 [dx s,enc to] (.func 107 [.ref (dx s),.ref (enc to)]):=by
 refine bf.b7 Tryz.func63 HP IQ J3 (u8 rfl) (fun hwf W0 bI E1 =>?_);simp only[yT,Dr,bK,Z1];clear hwf;have hall:([I.ptr 2 [],I.ptr 3 []].all fun y=>y.bS)=true:=rfl;have hv:∀ k n,(I.int k n).bS=true:=fun _ _=>rfl;have R:=y6 @hall (y6 @hv (y6 @ez (y6 @bD (y6 @bY (y6 @bw (y6 @bt aG))))))
 repeat' ((first |refine ae.aJ (by decide +kernel) rfl fun K hK =>?_|(refine .aA [0,1,2,3,4] hK ?_;clear hK K)|(with_reducible refine .done (hK _ ?_);clear hK K)|refine ae.of rfl ?_|(with_reducible refine aD.aI (fun h =>?_) (fun h =>?_) <;>try simp only[h])) <;>try simp only[aK,R,simprocAttr])
 all_goals clear R
theorem Uh{s:aB}(hk:cu s)(to:Int):(fY s to (cj s.bA).length).Nodup:=by
 have hn:s.bA.Nodup:=by
  simp only[aB.bA];exact List.Pairwise.map _ (fun a b h e=>h (by omega)) hk.iw
 have ab:(cj s.bA).Nodup:=(List.mergeSort_perm _ _).nodup_iff.2 hn;rw[fY,List.take_length];have hf:=ab.filter (px s to);exact List.Pairwise.map _ (fun a b h e=>h (by simpa[nJ] using congrArg dE.no e)) hf
theorem vK{s:aB}{to:Int} : ∀ {k:Nat} {x:dE},x∈gL s to k→x.no≤k∧(x.kind=2∨x.kind=4)
 |0,x,h=>by simp[gL] at h
 |k+1,x,h=>by
  rw[oN] at h;rcases X5.1 h with h | h
  ·have:=vK h;omega
  ·simp only[kL] at h;split at h
   ·rw[X3.1 h];refine ⟨by simp,?_⟩;simp only;split <;>simp
   ·cases h
theorem Bu(s:aB)(to:Int):∀ k,(gL s to k).Nodup
 |0=>by simp[gL]
 |k+1=>by
  rw[oN];refine List.nodup_append.2 ⟨Bu s to k,?_,fun a ha b hb e =>?_⟩
  ·simp only[kL];split <;>simp
  ·have J:=(vK ha).1;have U:b.no=(k:Int)+1:=by
    simp only[kL] at hb;split at hb
    ·rw[X3.1 hb];simp
    ·cases hb
   rw[e] at J;omega
theorem WK{s:aB}(hk:cu s)(to:Int):(fm s to).Nodup:=by
 refine List.nodup_append.2 ⟨Uh hk to,Bu s to 200,fun a ha b hb e =>?_⟩;have J:=(vK hb).2;rw[←e] at J;simp only[fY,X1] at ha;obtain ⟨n,_,rfl⟩:=ha;simp only[nJ] at J;split at J <;>omega
def ly(p:bP):List bg:=p.j.take p.eI.toNat
def pc(p:bP)(to:Int):List dE×Int:=match du p with
 |none=>([],91)
 |some _=>if dz 0 5 to=false∨to=p.aw then ([],90) else match fC p.aw (ly p) with
  |some s=>(fm s to,0)
  |none=>([],0)
theorem L5{p:bP}{s:aB}(ho:du p=some s):0≤p.eI∧p.eI.toNat≤p.j.length∧∃ s2,fC p.aw (ly p)=some s2∧cu s2∧s2.aQ.length≤200:=by
 obtain ⟨_,_,_,ar,h5,h6⟩:=iT ho;simp only[iy,dz,t8,decide_eq_true_eq] at h5;obtain ⟨_,_,h7,h8⟩:=h5;have hsp:p.j=ly p++p.j.drop p.eI.toNat:=by simp[ly]
 rw[fC,hsp,pk] at h6;cases hr:fR (eP p.aw) (ly p) with
 |none=>rw[hr] at h6;cases h6
 |some s2 =>
  refine ⟨h7,by omega,s2,hr,(mG (kH p.aw) hr).1,?_⟩;have:=w4 hr;simp only[eP,List.length_nil,ly,X6] at this;omega
theorem W4{A:ai}{l:List bg}{i:Nat}(h:i≤l.length):jN A 4 none (some (.int .i64 i)) (some (.int .i64 i)) (enc l)=some (if i=0 then .c0 4 else enc (l.take i)):=by
 simp only[jN,gT,show Enc.sz bg=4 from rfl,if_true,iF,iZ,Z8];rw[if_pos ⟨by omega,by omega,by omega,by omega⟩];by_cases aW:i=0
 ·simp[aW]
 ·rw[if_neg (by simp;omega),if_neg aW];simp
theorem lZ{i:Nat}(l:List bg)(aN:Bool)(A:ai):bh aN A (if i=0 then .c0 4 else enc (l.take i))=some (enc (l.take i)):=by
 by_cases aW:i=0
 ·rw[if_pos aW,aW];simp only[bh];rfl
 ·rw[if_neg aW,ln]
theorem Bt(s:aB)(to:Int):∀ k,(gL s to k).length≤k
 |0=>by simp[gL]
 |k+1=>by
  have J:=Bt s to k;have U:(kL s to (k+1)).length≤1:=by simp only[kL];split <;>simp
  rw[oN,Z6];omega
theorem WJ(s:aB)(to:Int):(fm s to).length≤s.aQ.length+200:=by
 have J:=Bt s to 200;have U:(fY s to (cj s.bA).length).length≤s.aQ.length:=by
  simp only[fY,Z8,List.take_length];refine zz9 (List.length_filter_le _ _) ?_;simp[cj,aB.bA]
 rw[fm,Z6];omega
def iH(xs:List dE):List (Nat×aq):=[(1000009,.box (.own 1000080 xs.length)),(1000080,.bW 39 5 (xs.map enc))]
theorem Xd(xs ys:List dE):eT (iH xs) (iH ys):=by
 refine ⟨fun n=>by simp only[iH,av,aj];(repeat' split) <;>rfl,fun n x h =>?_,fun n h =>?_⟩
 ·simp only[iH,aj] at h
  repeat' split at h
  all_goals first | (cases h;done) | (simp only[v6] at h;subst h;exact ⟨by simp[iH,av,aj,aq.only,I.only,hU],rfl⟩)
 ·simp only[iH,av,aj] at h
  repeat' split at h
  all_goals first | omega | (simp at h;done)
theorem tR(p:bP)(to:Int):bf Tryz.prog 14 [enc p,enc to] (.tuple [enc (pc p to).1,enc (pc p to).2]):=by
 refine bf.b7 Tryz.func14 Hr Ir JF (u8 rfl) (fun hwf W0 bI E1 =>?_);simp only[yw,C1,bK,Z1];clear hwf;have hF:=rL p;simp only[nf] at hF;simp only[pc];cases ho:du p with
 |none =>
  rw[ho] at hF;have R:=y6 @c8 (y6 @bD (y6 @bY (y6 @bw (y6 @bt aG))))
  repeat' ((first |(with_reducible refine .guard (fun hb =>?_) (fun hb =>?_) <;>try simp only[hb])|refine ae.aJ (by decide +kernel) rfl fun K hK =>?_|refine .lead _ (hF) ?_|(refine .aA [0,1,2,4,5,6,7,9,10,14,24,40,41,54] hK ?_;clear hK K)|(with_reducible refine .done (hK _ ?_);clear hK K)|refine ae.of rfl ?_|(with_reducible refine aD.aI (fun h =>?_) (fun h =>?_) <;>try simp only[h])) <;>try simp only[aK,R,simprocAttr])
  all_goals clear R
  all_goals rfl
 |some s =>
  obtain ⟨f1,f2,s2,hr,hk,hl2⟩:=L5 ho;have hjl:=(iT ho).2.2.2.1;rw[ho] at hF
  dsimp only at hF ⊢
  have hT:=l5 to;rcases q2:dz 0 5 to
  ·rw[q2] at hT;simp only[true_or,if_true];have R:=y6 @c8 (y6 @bD (y6 @bY (y6 @bw (y6 @bt aG))))
   repeat' ((first |(with_reducible refine .guard (fun hb =>?_) (fun hb =>?_) <;>try simp only[hb])|refine ae.aJ (by decide +kernel) rfl fun K hK =>?_|refine .lead _ (hF) ?_|refine .flat _ (hT) rfl ?_|(refine .aA [0,1,2,4,5,6,7,9,10,14,24,40,41,54] hK ?_;clear hK K)|(with_reducible refine .done (hK _ ?_);clear hK K)|refine ae.of rfl ?_|(with_reducible refine aD.aI (fun h =>?_) (fun h =>?_) <;>try simp only[h])) <;>try simp only[aK,R,simprocAttr])
   all_goals clear R
   all_goals rfl
  rw[q2] at hT;rcases q3:(to==p.aw)
  case true =>
   have e:to=p.aw:=by simpa using q3
   simp only[Bool.true_eq_false,false_or,if_pos e];have R:=y6 @q3 (y6 @c8 (y6 @bD (y6 @bY (y6 @bw (y6 @bt aG)))))
   repeat' ((first |(with_reducible refine .guard (fun hb =>?_) (fun hb =>?_) <;>try simp only[hb])|refine ae.aJ (by decide +kernel) rfl fun K hK =>?_|refine .lead _ (hF) ?_|refine .flat _ (hT) rfl ?_|(refine .aA [0,1,2,4,5,6,7,9,10,14,24,40,41,54] hK ?_;clear hK K)|(with_reducible refine .done (hK _ ?_);clear hK K)|refine ae.of rfl ?_|(with_reducible refine aD.aI (fun h =>?_) (fun h =>?_) <;>try simp only[h])) <;>try simp only[aK,R,simprocAttr])
   all_goals clear R
   all_goals rfl
  have e:¬ to=p.aw:=by simpa using q3
  simp only[Bool.true_eq_false,false_or,if_neg e,hr];have hR:=FF p.aw (ly p) (by simp only[ly,X6];omega);rw[hr] at hR;simp only[DQ] at hR;obtain ⟨w,hsl,hfw⟩:∃ w:I,(∀ A,jN A 4 none (some (.int .i64 p.eI)) (some (.int .i64 p.eI)) (enc p.j)=some w)∧∀ aN A,bh aN A w=some (enc (ly p)) :=
   ⟨_,fun A=>by
    have:=W4 (A:=A) (l:=p.j) (i:=p.eI.toNat) f2;rw[show ((p.eI.toNat:Nat):Int)=p.eI by omega] at this;exact this,fun aN A=>lZ p.j aN A⟩
  have h63:=FG s2 to;have R:=y6 @q3 (y6 @hsl (y6 @hfw (y6 @ez (y6 @c8 (y6 @bD (y6 @bY (y6 @bw (y6 @bt aG))))))))
  repeat' ((first |(with_reducible refine .guard (fun hb =>?_) (fun hb =>?_) <;>try simp only[hb])|refine ae.aJ (by decide +kernel) rfl fun K hK =>?_|refine .lead _ (hF) ?_|refine .flat _ (hT) rfl ?_|refine .lead _ (hR) ?_|refine .lead _ (h63) ?_|(refine .aA [0,1,2,4,5,6,7,9,10,14,24,40,41,54] hK ?_;clear hK K)|(with_reducible refine .done (hK _ ?_);clear hK K)|refine ae.of rfl ?_|(with_reducible refine aD.aI (fun h =>?_) (fun h =>?_) <;>try simp only[h])) <;>try simp only[aK,R,Option.map_none,simprocAttr])
  all_goals clear R
  have hcap:I.b9 [.ref (dx s2),.ref (.int .i64 to)]=true:=by simp[I.b9,I.bq,nX]
  refine ae.sub (bC.Gd 9 80 39 5 5 [] _ rfl rfl rfl (B:=au [(9,.ptr 9 []),(40,.func 107 [.ref (dx s2),.ref (.int .i64 to)])] [(9,.box (.own 80 0)),(80,.bW 39 5 [])]) ?_) ?_
  ·simp only[nT];refine bC.dT ?_ ?_ ?_ ?_ <;>simp[*,cF,dB,cS,cV,av,cD,eg,I.only,I.cn,aq.only,nY]
  have hnd:=WK hk to;refine ae.lS (osb0:=iH []) (tsR:=[(9,.ptr 1000009 [])]) (ρ:=[(1999999,999999),(1000009,9),(1000080,80)])
   (fun k os=>os=iH ((fm s2 to).take k))
   (fun _ _=>False)
   ⟨rfl,rfl⟩ (u8 rfl) (by simp only[bE,simprocAttr]) hcap zk (EX s2 to (by omega)) (fun _=>rfl) rfl rfl rfl (fun o=>⟨?_,?_⟩) ?_ ?_ ?_ ?_ ?_ ?_ ?_
  ·intro n x hx;simp only[ed,iH,aj] at hx
   repeat' split at hx
   all_goals first | (cases hx;done) | (subst_vars;simp only[v6] at hx;subst hx;simp[ed,iH,av,bF,aj,aq.bl,I.bl,I.dO,aq.only,I.only,I.cn,aq.eb])
  ·intro a b ha hb;simp only[ed,iH,av,aj] at ha hb
   repeat' split at ha
   all_goals first | (simp at ha;done) | skip
   all_goals (repeat' split at hb)
   all_goals first | (simp at hb;done) | (subst_vars;simp[bF])
  ·simp[mL,cD,I.bl,bF,I.only,iH,av,aj]
  ·rintro k os rfl;exact Xd ..
  ·rintro e os h;exact h.elim
  ·simp[iH]
  ·rintro k osb hk' rfl W1 D1 E1 qp o1 o2;obtain ⟨r,hr0⟩:∃ r,r=(fm s2 to).getD k tj:=⟨_,rfl⟩
   have hri:(fm s2 to)[k]=r:=by rw[hr0];simp[Z0,hk']
   have hsu:(fm s2 to).take (k+1)=(fm s2 to).take k++[r]:=by rw[Y7 hk',hri]
   have hN2:(fm s2 to).length≤400:=by
    have J:=WJ s2 to;omega
   have hk2:k<400:=Nat.lt_of_lt_of_le hk' hN2;have hlast:∀ j,j+1=k→∃ u,((fm s2 to).take k)[j]?=some u∧u≠r:=fun j hj=>by
    refine ⟨(fm s2 to)[j],by rw[List.getElem?_take_of_lt (by omega),Y2],fun e =>?_⟩;rw[←hri] at e;have:=(List.getElem_inj hnd).1 e;omega
   have hxl:((fm s2 to).take k).length=k:=by rw[X6];omega
   generalize (fm s2 to).take k=xs at hsu hlast hxl ⊢;simp only[←hr0,tc,ed,iH];have hst:∀ A rest b x y z w u,dk A (some 5) 10 [] b (enc r) rest (some (.agg [.int .i64 x,.int .i64 y,.int .i64 z,.int .i64 w,.int .i64 u]))=az rest (A.aV 10 (.box (enc r))):=fun A rest b x y z w u=>mO.1 A 10 b rest r x y z w u;have R:=y6 @hst (y6 @c8 (y6 @bD (y6 @bY (y6 @bw (y6 @bt aG)))))
   repeat' ((first |(with_reducible refine .guard (fun hb =>?_) (fun hb =>?_) <;>try simp only[hb])|refine ae.aJ (by decide +kernel) rfl fun K hK =>?_|(refine .aA [0,1,2,4,5,6,7,9,10,14,24,40,41,54] hK ?_;clear hK K)|(with_reducible refine .done (hK _ ?_);clear hK K)|refine ae.of rfl ?_|(with_reducible refine aD.aI (fun h =>?_) (fun h =>?_) <;>try simp only[h])) <;>try simp only[aK,R,simprocAttr])
   all_goals clear R
   refine ⟨by simp[],?_⟩;have stOwn:∀ (A:ai) n b m k m' k' rest,dk A none n [] b (.own m k) rest (some (.own m' k'))=az rest (A.aV n (.box (.own m k))) :=
    fun _ _ _ m k m' k' _=>by rw[dP (s:=none) (v:=.own m k) (old:=.own m' k') rfl rfl rfl,nT]
   have hbs:fu 5 (some [enc r])=some (enc [r]):=jb 5 r rfl;have hap:=fun (A:ai) d rest=>pK (A:=A) (d:=d) 39 5 40 1000080 (l:=xs.length) (es:=xs) (ys:=[r]) (rest:=rest) rfl rfl (by simp) (by simp[maxLen];omega) (by simp;omega);have ib:∀ ts z1 z2 z3 z4 z5,Ed o2 (fun os=>os=[(1000009,.box (.own 1000080 ((fm s2 to).take (k+1)).length)),(1000080,.bW 39 5 (((fm s2 to).take (k+1)).map enc))]) (fun _ _=>False) .normal
     (au ts [(1000009,.box (.own 1000080 (xs++[r]).length)),(1000080,.bW 39 5 ((xs++[r]).map enc)),(1999999,.dA o2),(10,z1),(10,z2),(1999999,z3),(1000009,z4),(1000080,z5)]):=fun ts z1 z2 z3 z4 z5=>by
    refine ⟨_,?_,rfl⟩;rw[hsu];intro n x hx;simp only[ed,aj] at hx
    (repeat' split at hx) <;>first
     |(cases hx;done)
     |(subst_vars;simp only[v6] at hx;subst hx;simp[ed,av,au,aj,aq.only,I.only,aq.eb,hU,-List.map_append])
   have hle:=fun (A:ai) (h:A.o 1000080=some (.bW 39 5 (xs.map enc)))=>Uy A 1000080 xs.length 39 5 xs h rfl;by_cases aW:k=0
   ·have hz:((xs.length:Int)==0)=true:=by rw[beq_iff_eq];omega
    have R:=y6 @hle (y6 @hz (y6 @hbs (y6 @hap (y6 @stOwn (y6 @c8 (y6 @bD (y6 @bY (y6 @bw (y6 @bt aG)))))))))
    repeat' ((first |(with_reducible refine .guard (fun hb =>?_) (fun hb =>?_) <;>try simp only[hb])|refine ae.aJ (by decide +kernel) rfl fun K hK =>?_|(refine .aA [0,1,2,4,5,6,7,9,10,14,24,40,41,54] hK ?_;clear hK K)|(with_reducible refine .done (hK _ ?_);clear hK K)|refine ae.of rfl ?_|(with_reducible refine aD.aI (fun h =>?_) (fun h =>?_) <;>try simp only[h])) <;>try simp only[aK,R,simprocAttr])
    all_goals clear R
    exact ib _ _ _ _ _ _
   ·have hz:((xs.length:Int)==0)=false:=by rw[beq_eq_false_iff_ne];omega
    obtain ⟨u,hu,hne⟩:=hlast (k-1) (by omega);have hw1:IntKind.i64.wrap ((xs.length:Int)-1)=((k-1:Nat):Int):=by rw[l3 _ (by omega) (by omega)];omega
    have hq:=Ag u r;rw[decide_eq_false hne] at hq;have hie:=fun (A:ai) (h:A.o 1000080=some (.bW 39 5 (xs.map enc)))=>(by
     have hu2:(xs.map (enc (α:=dE)))[k-1]?=some (enc u):=by rw[Y9,hu];rfl
     have hc:xs.length=(xs.map (enc (α:=dE))).length∧True∧(0:Int)≤((k-1:Nat):Int)∧((k-1:Nat):Int)<((xs.map (enc (α:=dE))).length:Nat):=⟨by simp,trivial,by omega,by simp;omega⟩
     simp only[jA,h];rw[if_pos hc,Int.toNat_natCast,hu2];rfl:jA A 5 ((k-1:Nat):Int) (.own 1000080 xs.length)=some (.ref (enc u)))
    have R:=y6 @hle (y6 @hz (y6 @hw1 (y6 @hie (y6 @hq (y6 @hbs (y6 @hap (y6 @stOwn (y6 @c8 (y6 @bD (y6 @bY (y6 @bw (y6 @bt aG))))))))))))
    repeat' ((first |(with_reducible refine .guard (fun hb =>?_) (fun hb =>?_) <;>try simp only[hb])|refine ae.aJ (by decide +kernel) rfl fun K hK =>?_|(refine .aA [0,1,2,4,5,6,7,9,10,14,24,40,41,54] hK ?_;clear hK K)|(with_reducible refine .done (hK _ ?_);clear hK K)|refine ae.of rfl ?_|(with_reducible refine aD.aI (fun h =>?_) (fun h =>?_) <;>try simp only[h])) <;>try simp only[aK,R,simprocAttr])
    all_goals clear R
    all_goals exact ib _ _ _ _ _ _
  ·rintro os rfl;rw[List.take_length];simp only[iH,dv,Z3,X7,bF,aq.bl,I.bl,tl,ej,jw,reduceIte,Nat.reduceEqDiff,Z9,List.nil_append];have hfo:kD (fm s2 to).length (some (.bW 39 5 ((fm s2 to).map enc)))=some (enc (fm s2 to)):=pY 5 rfl rfl;have R:=y6 @hfo (y6 @c8 (y6 @bD (y6 @bY (y6 @bw (y6 @bt aG)))))
   repeat' ((first |(with_reducible refine .guard (fun hb =>?_) (fun hb =>?_) <;>try simp only[hb])|refine ae.aJ (by decide +kernel) rfl fun K hK =>?_|(refine .aA [0,1,2,4,5,6,7,9,10,14,24,40,41,54] hK ?_;clear hK K)|(with_reducible refine .done (hK _ ?_);clear hK K)|refine ae.of rfl ?_|(with_reducible refine aD.aI (fun h =>?_) (fun h =>?_) <;>try simp only[h])) <;>try simp only[aK,R,simprocAttr])
   all_goals clear R
  ·rintro e os h;exact h.elim
def uX:bP:=⟨0,[],0⟩
def uY:bP:=⟨0,[⟨1,7,0,0⟩],0⟩
def uZ:bP:=⟨0,[⟨1,7,0,0⟩],1⟩
def ni:bP:=⟨0,[⟨1,7,0,0⟩,⟨3,7,1,1⟩],1⟩
def nj:bP:=⟨0,[⟨1,7,0,0⟩,⟨3,7,1,1⟩],2⟩
def u3:bP:=⟨0,[⟨1,7,0,0⟩,⟨3,7,1,1⟩,⟨5,7,1,1⟩],2⟩
def u4:bP:=⟨1,[],0⟩
def pV:bP:=⟨1,[⟨7,7,0,1⟩],0⟩
def u5:bP:=⟨1,[⟨7,7,0,1⟩],1⟩
def oC:dE:=⟨1,0,1,7,1⟩
def oD:dE:=⟨2,1,0,7,1⟩
def u6:e9:=⟨⟨#[112,111,117,110,100,32,48,32,49,10,112,111,117,110,100,32,55,10,115,101,110,100,32,55,32,49,32,49,10]⟩⟩
theorem Lz:kG 0=(uX,0):=by decide +kernel
theorem LK:kG 1=(u4,0):=by decide +kernel
theorem LB:sB uX 7=(uY,0):=by decide +kernel
theorem LC:pw uY=(uZ,0):=by decide +kernel
theorem LD:rl uZ 7 1=(ni,⟨1,1,7,false⟩,0):=by decide +kernel
theorem LF:pc ni 1=([],0):=by decide +kernel
theorem LG:ta ni=(u6,0):=by decide +kernel
theorem LH:pw ni=(nj,0):=by decide +kernel
theorem LI:pc nj 1=([oC],0):=by decide +kernel
theorem LL:qb u4 oC=(pV,0):=by decide +kernel
theorem LO:tJ [nj,pV] 7=([1],0):=by decide +kernel
theorem LM:pw pV=(u5,0):=by decide +kernel
theorem LN:pc u5 0=([oD],0):=by decide +kernel
theorem LJ:qb nj oD=(u3,0):=by decide +kernel
theorem LA:tn u3=([],0):=by decide +kernel
theorem G6(a b c d:Int):(dK [.int .i64 0,.int .i64 0,.int .i64 0,.int .i64 0,.int .i64 0] [(0,.int .i64 a),(2,.int .i64 b),(3,.int .i64 c),(4,.int .i64 d)]).map I.agg=some (enc (⟨a,0,b,c,d⟩:dE)):=by simp[dK,I.bS,I.size];rfl
theorem G7(a b c d:Int):(dK [.int .i64 0,.int .i64 0,.int .i64 0,.int .i64 0,.int .i64 0] [(0,.int .i64 a),(1,.int .i64 b),(3,.int .i64 c),(4,.int .i64 d)]).map I.agg=some (enc (⟨a,b,0,c,d⟩:dE)):=by simp[dK,I.bS,I.size];rfl
theorem Hb(r:dE):fu 5 (some [enc r])=some (enc [r]):=jb 5 r rfl
theorem Hf(a b:bP):fu 3 (some [enc a,enc b])=some (enc [a,b]):=pO (ys:=[a,b]) 3 rfl
theorem Lt(s:e9)(b:ByteArray)(h:s.b=b):cv .eql (enc s) (.bO b)=some (.bool true):=by
 subst h
 show cv .eql (.bO s.b) (.bO s.b)=_
 simp[cv]
theorem Fl:bf Tryz.prog 18 [] (enc true):=by
 have J:=tS 0;have U:=tS 1;have ah:=Ft uX 7;have ar:=tP uY;have h5:=Fu uZ 7 1;have h6:=tR ni 1;have h7:=FA ni;have h8:=tP ni;have h9:=tR nj 1;have h10:=xE u4 oC;have h11:=Fv [nj,pV] 7;have h12:=tP pV;have h13:=tR u5 0;have h14:=xE nj oD;have h15:=Fy u3;rw[Lz] at J;rw[LK] at U;rw[LB] at ah;rw[LC] at ar;rw[LD] at h5;rw[LF] at h6;rw[LG] at h7;rw[LH] at h8;rw[LI] at h9;rw[LL] at h10;rw[LO] at h11;rw[LM] at h12;rw[LN] at h13;rw[LJ] at h14;rw[LA] at h15;simp only at J U ah ar h5 h6 h7 h8 h9 h10 h11 h12 h13 h14 h15;have h16:=xC [oC] [oC];have h17:=xC [oD] [oD];have h18:=Fx [1] [1];rw[decide_eq_true rfl] at h16 h17 h18;refine bf.b7 Tryz.func18 Hv Iv JK (u8 rfl) (fun hwf W0 bI E1 =>?_);simp only[yB,C6,bK];clear hwf;have q3:((0:Int)==0)=true:=rfl;have hst:∀ A n b rest x y z w (q:da),dk A (some 4) n [] b (enc q) rest (some (.agg [.int .i64 x,.int .i64 y,.int .i64 z,.bool w]))=az rest (A.aV n (.box (enc q))):=fun A n b rest x y z w q=>mP.1 A n b rest q x y z w;have hst2:∀ A n b rest (q:dE) x y z w u,dk A (some 5) n [] b (enc q) rest (some (.agg [.int .i64 x,.int .i64 y,.int .i64 z,.int .i64 w,.int .i64 u]))=az rest (A.aV n (.box (enc q))):=fun A n b rest q x y z w u=>mO.1 A n b rest q x y z w u;have eO:(⟨1,0,1,7,1⟩:dE)=oC:=rfl;have eR:(⟨2,1,0,7,1⟩:dE)=oD:=rfl;have hR:=Ls ⟨1,1,7,false⟩ ⟨1,1,7,false⟩;rw[decide_eq_true rfl] at hR;have hS:cv .eql (enc u6) (.bO ⟨#[112,111,117,110,100,32,48,32,49,10,112,111,117,110,100,32,55,10,115,101,110,100,32,55,32,49,32,49,10]⟩)=some (.bool true):=Lt u6 _ rfl;have hL:∀ α:Type,((([]:List α).length:Nat):Int)=0:=fun _=>rfl;have R:=y6 @q3 (y6 @hL (y6 @hst (y6 @hst2 (y6 @G6 (y6 @G7 (y6 @eO (y6 @eR (y6 @r2 (y6 @Hb (y6 @Hf (y6 @yh (y6 @hR (y6 @hS (y6 @c8 (y6 @bD (y6 @bY (y6 @bw (y6 @bt aG))))))))))))))))))
 repeat' ((first |(with_reducible refine .guard (fun hb =>?_) (fun hb =>?_) <;>try simp only[hb])|refine ae.aJ (by decide +kernel) rfl fun K hK =>?_|refine .lead _ (J) ?_|refine .lead _ (U) ?_|refine .lead _ (ah) ?_|refine .lead _ (ar) ?_|refine .lead _ (h5) ?_|refine .lead _ (h6) ?_|refine .lead _ (h7) ?_|refine .lead _ (h8) ?_|refine .lead _ (h9) ?_|refine .lead _ (h10) ?_|refine .lead _ (h11) ?_|refine .lead _ (h12) ?_|refine .lead _ (h13) ?_|refine .lead _ (h14) ?_|refine .lead _ (h15) ?_|refine .flat _ (h16) rfl ?_|refine .flat _ (h17) rfl ?_|refine .flat _ (h18) rfl ?_|(refine .aA [0,1,2,3,4,5,6,7,8,9,10,11,12,13,14,15,16,17,18,19,20,21,22,23,24,25,26] hK ?_;clear hK K)|(with_reducible refine .done (hK _ ?_);clear hK K)|refine ae.of rfl ?_|(with_reducible refine aD.aI (fun h =>?_) (fun h =>?_) <;>try simp only[h])) <;>try simp only[aK,R,simprocAttr])
 all_goals clear R
theorem Fw(p:bP)(x:bg)(r:dE):bf Tryz.prog 4 [enc p,enc x,enc r] (enc true):=by
 refine bf.b7 Tryz.func4 HJ IJ JX (u8 rfl) (fun hwf W0 bI E1 =>?_);simp only[r5,Dk,bK,Z1,Nat.reduceAdd];clear hwf;have J:=tS r.no;have U:=Fm r.no;have ah:=Fk (kG r.no).1 (kG r.no).1;have ar:=rL p;rw[Jb] at ar;rw[decide_eq_true rfl] at ah;have h5:=Fp p;have h6:=Fl;have hc:∀ a:Int,(a==a)=true:=fun a=>beq_self_eq_true a;have R:=y6 @hc (y6 @c8 (y6 @bD aG))
 repeat' ((first |(with_reducible refine .guard (fun hb =>?_) (fun hb =>?_) <;>try simp only[hb])|refine ae.aJ (by decide +kernel) rfl fun K hK =>?_|refine .lead _ (J) ?_|refine .lead _ (U) ?_|refine .flat _ (ah) rfl ?_|refine .flat _ (Fo x) rfl ?_|refine .flat _ (xD x) rfl ?_|refine .flat _ (ar) rfl ?_|refine .flat _ (h5) rfl ?_|refine .flat _ (Fq r) rfl ?_|refine .flat _ (Fs r) rfl ?_|refine .flat _ (h6) rfl ?_|(refine .aA [0,1,2,3,4,5,6,7,8,9,10] hK ?_;clear hK K)|(with_reducible refine .done (hK _ ?_);clear hK K)|refine ae.of rfl ?_|(with_reducible refine aD.aI (fun h =>?_) (fun h =>?_) <;>try simp only[h])) <;>try simp only[aK,R,simprocAttr])
 all_goals clear R
end Go.Proofs.YthbdbocionnfgaaGreatDoor
