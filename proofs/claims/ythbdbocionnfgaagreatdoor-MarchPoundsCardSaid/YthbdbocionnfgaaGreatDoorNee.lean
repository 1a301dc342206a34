/-
  A part of the proof that the law MarchPounds returns true for every input; three tables of Go's library start as the text lays them (the card ties them); conditions: none beyond the statement's own. (part 5 of 6)
-/
import Derived.Shelf.Strconv.Itoa3
import Derived.Lib.ItoaLen
import Derived.Test.YthbdbocionnfgaaGreatDoorNed
set_option linter.unusedSimpArgs false
set_option linter.unusedVariables false
set_option maxHeartbeats 16000000
set_option maxRecDepth 100000
namespace Go.Proofs.YthbdbocionnfgaaGreatDoor
open Go Go.Abs
open Go.Abs.Enc (enc)
theorem Ba(n:Nat)(ts:List (Nat×I)):∀ t,Abs.bY (lJ [n] ts) t=if (Abs.bY ts t).only (fun j => ![n].contains j)=true then Abs.bY ts t else .dw:=by
 intro t;simp only[lJ]
 induction ts with
 |nil=>simp[Abs.bY]
 |cons q ts ih =>
  obtain ⟨k,v⟩:=q;simp only[Z3,Abs.bY];split
  ·rfl
  ·exact ih
theorem uk{p q:Nat→Bool}(h:∀ n,p n=true→q n=true){y:ao}(hy:y.only p=true):y.only q=true:=by
 cases y with
 |box x=>exact iI h _ hy
 |bU T sz es=>exact ig h _ hy
 |dJ o=>rfl
 |dK T xs=>rfl
 |bz ks vs=>simp only[ao.only,t8] at hy ⊢;exact ⟨ig h _ hy.1,ig h _ hy.2⟩
 |it ks vs l c=>simp only[ao.only,t8] at hy ⊢;exact ⟨ig h _ hy.1,ig h _ hy.2⟩
theorem CR{n k:Nat} : ∀ {ts:List (Nat×I)},(∀ q∈ts,rj n k q.2)→∀ t,rj n k (Abs.bY ts t)
 | [],_,_=>.inr rfl
 |(a,v)::ts,h,t=>by
  simp only[Abs.bY];split
  ·exact h (a,v) (by simp)
  ·exact CR (fun q hq=>h q (by simp[hq])) t
theorem tu{p:Nat→Bool}{n k:Nat}(hp:p=fun j => ![n].contains j)(f:ao→ao)(hf:∀ y:ao,y.only p=true→f y=y):∀ {os:List (Nat×ao)},cn p (eK [n] os)→cn p (eK [n] (os.map fun q=>(q.1,f q.2)))
 | [],_=>trivial
 |(m,y)::os,h=>by
  simp only[Z3,eK,zw4] at h ⊢;split
  ·rename_i hm;rw[if_pos hm] at h;refine ⟨?_,tu (k:=k) hp f hf h.2⟩;rw[hf y h.1];exact h.1
  ·rename_i hm;rw[if_neg hm] at h;exact tu (k:=k) hp f hf h
theorem MW{ys q:List Int}{k:Nat}(hk:ys.length=k):lK 1 0 k (some ((ys++q).map enc))=some (enc ys):=by
 have h:(((ys++q).map (enc (α:=Int))).drop 0).take k=ys.map enc:=by
  rw[List.drop_zero,zz3,List.take_append_of_le_length (by simp[hk]),List.take_of_length_le (by simp[hk])]
 simp only[lK,h];rw[if_pos (iy ys),hE];rfl
theorem Fx{n k:Nat} : ∀ y:ao,y.only (fun j => ![n].contains j)=true→jC (iU n k) y=y:=fun y hy=>by
 cases y <;>try rfl
 simp only[ao.only] at hy;simp only[jC,ud (iI (fun j hj=>by simpa using hj) _ hy)]
theorem Fv{n:Nat} : ∀ y:ao,y.only (fun j => ![n].contains j)=true→jC (iT n) y=y:=fun y hy=>by
 cases y <;>try rfl
 simp only[ao.only] at hy;simp only[jC,Fw (iI (fun j hj=>by simpa using hj) _ hy)]
theorem Fu{ts ts':List (Nat×I)}(h:∀ q∈ts',Abs.bY ts q.1=q.2):b6 ts ts':=by
 induction ts' with
 |nil=>trivial
 |cons q ts' ih=>exact ⟨h q (by simp),ih fun q hq=>h q (by simp[hq])⟩
theorem ae.Zr{W0:World}{bF:aP}{nn:Nat}{ow:Nat→Prop}{E1:aY}{Y:Value→List I→List (Nat×ao)→cK→Prop}{lf:Option Nat}{ba:Option (List Deferred)}{y:bu}{Q:Exit→ai→Prop}{ts:List (Nat×I)}{os:List (Nat×ao)}{a b d n:Nat}{xs:List Int}
  (af:Abs.bY ts d=.own n xs.length) (hn:aj os n=some (.dK 3 xs)) (hlt:n<1000000) (aq:xs.length≤1000) (ht:∀ t,rj n xs.length (Abs.bY ts t)) (ho:cn (fun j => ![n].contains j) (eK [n] os))
  (ts':List (Nat×I)) (J:∀ q∈ts',q.1≠a∧q.1≠b∧Abs.bY ts q.1=q.2∧q.2.only (fun j=>j != n)=true)
  (hda:d≠a) (hdb:d≠b)
  (h:ae ⟨Tryz.prog,W0,bF,nn,ow,E1,Y,lf,ba⟩ y Q (av ((d,enc (bV xs))::ts') (eK [n] os))) :
  ae ⟨Tryz.prog,W0,bF,nn,ow,E1,Y,lf,ba⟩ (.seq (.cu none [⟨some a,.mv (.t d),none⟩,⟨some b,.call 89 [.t a],none⟩]) y) Q (av ts os):=by
 have hdrop:∀ m,aj (eK [n] os) m=if m=n then none else aj os m:=fun m=>by
  have:=nS [n] os m;simpa using this
 have ho':∀ m y,aj os m=some y→m≠n→y.only (fun j=>j != n)=true:=fun m y hy hm=>by
  have:=w5 ho m y (by rw[hdrop,if_neg hm];exact hy);exact uk (fun j hj=>by simpa using hj) this
 by_cases hx:xs=[]
 ·subst hx;refine ae.sub (bm.ZK hn (bm.refl _)) ?_;refine ae.seq (ae.cu (cl:=[]) (by rfl) fun K hK =>?_);have hd':Abs.bY (ts.map fun q=>(q.1,iT n q.2)) d=.nils 1:=by
   rw[px _ rfl,af];simp[iT]
  simp only[bG,simprocAttr,hd'];refine .flat _ (GK _ (.inr rfl)) rfl ?_
  try simp only[bG,simprocAttr]
  refine .done (hK _ ?_);clear hK K;refine ae.sub ((bm.jL [n] d (x:=.nils 1) (y:=enc ([]:List Int)) ?_ (by rfl) ?_).trans (bm.slots ?_ fun m =>?_)) h
  ·simp only[Abs.bY,hda,hdb,if_false];exact hd'
  ·exact tu (k:=0) rfl (jC (iT n)) Fv ho
  ·refine ⟨by simp[Abs.bY,bV],Fu fun q hq =>?_⟩;obtain ⟨k1,k2,k3,k4⟩:=J q hq;have hqd:q.1≠d:=fun e=>by
    rw[e,af] at k3;rw[←k3] at k4;simp[I.only] at k4
   have h5:Abs.bY (ts.map fun p=>(p.1,iT n p.2)) q.1=q.2:=by
    rw[px _ rfl,k3,Fw k4]
   simp only[Abs.bY,Ba,k1,k2,hqd,if_false,h5];rw[if_pos (iI (fun j hj=>by simpa using hj) _ k4)]
  ·rw[hdrop,nS,te];by_cases hm:m=n
   ·simp[hm]
   ·cases h6:aj os m with
    |none=>simp[hm]
    |some y =>
     have h7:jC (iT n) y=y:=Fv _ (uk (fun j hj=>by simpa using hj) (ho' _ _ h6 hm));simp[hm,h7]
 ·refine ae.ZJ hn hx hlt ht (fun m y hy hm=>.inr (ho' m y hy hm)) fun q =>?_;refine ae.seq (ae.cu (cl:=[]) (by rfl) fun K hK =>?_);have hd':Abs.bY (ts.map fun p=>(p.1,iU n xs.length p.2)) d=.view n [] 1 0 xs.length:=by
   rw[px _ rfl,af];simp[iU]
  simp only[bG,simprocAttr,hd'];refine .bP false [(1000000,n)] (jY 1000000 (xs++List.replicate q 0)) [.view 1000000 [] 1 0 xs.length] _ rfl (GJ xs _ (by omega)) ?_ ?_ ?_ ?_
  ·refine ⟨fun m y hy =>?_,fun m m' h h' _=>by rw[mJ.1 h,mJ.1 h']⟩;simp only[jY,aj] at hy;split at hy
   ·rename_i hm;cases hy;subst hm;exact ⟨by simp only[bI,if_true,aj,ao.bn,I.bn,tL],Cu _ _,rfl⟩
   ·cases hy
  ·exact ⟨.inl ⟨by simp[I.bn,bI],mJ.2 rfl,rfl⟩,trivial⟩
  ·rintro rr os2 ⟨rfl,rfl⟩;refine ⟨fun m y hy =>?_,fun m m' h h' _=>by rw[mJ.1 h,mJ.1 h'],fun m hm=>by rw[mJ.1 hm];exact mJ.2 rfl,fun m a b=>by rw[mJ.1 a] at b;simp[jY,aw,aj] at b,rfl,fun _=>rfl⟩;simp only[jY,aj] at hy;split at hy
   ·cases hy;exact ⟨Cu _ _,rfl,fun h=>by cases h⟩
   ·cases hy
  ·rintro rr os2 ⟨rfl,rfl⟩
   try simp only[jY,dE,Z3,zx0,ao.bn,I.bn,tL,bI,reduceIte,Z5,zy8,I.dU,bG,simprocAttr]
   refine .done (hK _ ?_);clear hK K;refine ae.sub ((bm.jL [n] d (x:=.view n [] 1 0 xs.length) (y:=enc (bV xs)) ?_ ?_ ?_).trans (bm.slots ?_ fun m =>?_)) h
   ·simp only[Abs.bY,hda,hdb,if_false];exact hd'
   ·have:aj (mM [n] ((n,ao.box (I.agg ((bV xs++List.replicate q 0).map enc)))::(n,ao.box (I.agg ((xs++List.replicate q 0).map enc)))::os.map fun p=>(p.1,jC (iU n xs.length) p.2))) n=some (.box (.agg ((bV xs++List.replicate q 0).map enc))):=by
     rw[pt];simp[aj]
    try simp only[this,bG,simprocAttr]
    exact MW (by simp[bV])
   ·have:=tu (k:=0) rfl (jC (iU n xs.length)) Fx ho;simpa[eK] using this
   ·refine ⟨by simp[Abs.bY],Fu fun q hq =>?_⟩;obtain ⟨k1,k2,k3,k4⟩:=J q hq;have hqd:q.1≠d:=fun e=>by
     rw[e,af] at k3;rw[←k3] at k4;simp[I.only] at k4
    have h5:Abs.bY (ts.map fun p=>(p.1,iU n xs.length p.2)) q.1=q.2:=by
     rw[px _ rfl,k3,ud k4]
    simp only[Abs.bY,Ba,k1,k2,hqd,if_false,h5];rw[if_pos (iI (fun j hj=>by simpa using hj) _ k4)]
   ·rw[hdrop,nS];by_cases hm:m=n
    ·simp[hm]
    ·simp only[aj,if_neg hm,te];cases h6:aj os m with
     |none=>simp[hm]
     |some y =>
      have h7:jC (iU n xs.length) y=y:=Fx _ (uk (fun j hj=>by simpa using hj) (ho' _ _ h6 hm));simp[hm,h7]
def iK(ks:List Int)(ay:List Nat):List Int:=ay.map fun i=>ks.getD i 0
theorem Yh(ks:List Int)(ay:List Nat)(i:Nat):iK ks (ay++[i])=iK ks ay++[ks.getD i 0]:=by simp[iK]
theorem Yg(ks:List Int)(ay:List Nat):(iK ks ay).length=ay.length:=by simp[iK]
theorem Yf{ks:List Int}{ay:List Nat}(h:ay.Perm (List.range ks.length)):(iK ks ay).Perm ks:=by
 have e:(List.range ks.length).map (fun i=>ks.getD i 0)=ks:=by
  refine List.ext_getElem (by simp) fun i J U =>?_;simp[Z0,U]
 simp only[iK];have:=h.map fun i=>ks.getD i 0
 rwa [e] at this
theorem Zp{xs ys:List Int}(h:xs.Perm ys):bV xs=bV ys:=by
 unfold bV;have hx:=List.pairwise_mergeSort (le:=fun x y:Int=>decide (x≤y)) (by intro a b c;simp;omega) (by intro a b;simp;omega) xs;have hy:=List.pairwise_mergeSort (le:=fun x y:Int=>decide (x≤y)) (by intro a b c;simp;omega) (by intro a b;simp;omega) ys;refine List.Perm.eq_of_pairwise (fun a b _ _ h k =>?_) hx hy ((List.mergeSort_perm _ _).trans (h.trans (List.mergeSort_perm _ _).symm));simp only[decide_eq_true_eq] at h k;omega
theorem CW(p:Nat→Bool)(f:Nat→cC):∀ l:List Nat,I.cv p (l.map fun i=>.ref (enc (f i)))=true
 | []=>rfl
 |i::l=>by simp[I.cv,I.only,b7,CW p f l]
def yu(s:aC)(t:List Nat×List Nat×Option Nat):ai :=
 av [(3,.own 905 (iK s.bp t.1).length),(9,.dq 9)] [(9,.it (s.bp.map enc) (s.aQ.map fun i=>.ref (enc (s.b9 i))) t.2.1 t.2.2),(905,.dK 3 (iK s.bp t.1))]
theorem ux(s:aC)(aq:s.aQ.length≤1000):a8 Tryz.prog 85 [c8 s] (enc (bV s.bp)):=by
 refine a8.cd Tryz.func85 IZ JZ Lh (u8 rfl) (fun hwf W0 bF E1 =>?_);simp only[zQ,Es,bJ];clear hwf;have hlen:s.bp.length=s.aQ.length:=by simp[aC.bp]
 refine .gA (by decide +kernel) fun K hK =>?_;simp only[BE,bG,simprocAttr];refine .done (hK _ ?_);clear hK K;refine .gA (by decide +kernel) fun K hK =>?_;simp only[BF,bG,simprocAttr];refine .done (hK _ ?_);clear hK K;refine ae.seq (ae.seq ?_);refine .kn (by decide +kernel) fun K hK =>?_;simp only[BG,bG,simprocAttr]
 try simp only[dH,jy,bw,mO,bG,simprocAttr]
 refine .done (hK _ ?_);clear hK K;try simp only[ez]
 refine ae.block (ae.loop (yu s) (fun t=>(t.1++t.2.1).Perm (List.range s.bp.length)) (fun t=>t.2.1.length) ([],List.range s.bp.length,none) (by simp) ?_ ?_)
 ·refine bm.G2 3 905 3 1 rfl rfl ?_;refine bm.slots ?_ (fun n =>?_)
  ·simp[b6,bZ,iK]
  ·simp only[iK,zx0,cY,qS,Z8,hlen]
   (repeat' split) <;>simp_all
 rintro ⟨ay,left,cur⟩ hC;simp only at hC;have hdl:ay.length+left.length=s.bp.length:=by simpa using hC.length_eq
 have hpl:=Yg s.bp ay;simp only[yu];by_cases hn:left=[]
 ·subst hn;refine .gA (by decide +kernel) fun K hK =>?_;simp only[v8,bG,simprocAttr]
  try simp only[mO,CL,bG,simprocAttr]
  refine .done (hK _ ?_);clear hK K;refine ae.seq ?_;refine ae.jN ?_;simp only[az,bG,simprocAttr];refine ⟨fun h =>?_,fun h =>?_⟩
  case refine_1=>cases h
  refine ae.exit ?_;try simp only[ez,jI,simprocAttr]
  have hdn:(iK s.bp ay).Perm s.bp:=Yf (by simpa using hC);rw[←Zp hdn];generalize iK s.bp ay=xs at hpl;refine ae.Zr (a:=18) (b:=19) (d:=3) (n:=905) (xs:=xs) rfl rfl (by decide) (by omega) (CR (by simp[rj,I.only,I.cv])) (by simp only[eK,zw4,List.filter_nil,List.contains_cons];simp[cn,ao.only,eE,CW,-List.map_map]) [] (by simp) (by decide) (by decide) ?_;have R:=aD
  repeat' ((first |refine ae.aF (by decide +kernel) rfl fun K hK =>?_|(refine .ay [0,2,3,4,9,11] hK ?_;clear hK K)|(with_reducible refine .done (hK _ ?_);clear hK K)|refine ae.of rfl ?_|(with_reducible refine az.aE (fun h =>?_) (fun h =>?_) <;>try simp only[h])) <;>try simp only[aG,R,simprocAttr])
  all_goals clear R
 ·refine .gA (by decide +kernel) fun K hK =>?_;simp only[v8,bG,simprocAttr]
  try simp only[mO,bG,simprocAttr]
  refine aR.ic hn fun i hi =>?_;have hib:i<s.bp.length:=zy6.1 (hC.mem_iff.1 (by simp[hi]));have hib2:i<s.aQ.length:=by omega
  obtain ⟨hm,hC2⟩:=Ck hC hi;have hk1:(s.bp.map (enc (α:=Int)))[i]?=some (enc s.bp[i]):=by simp[hib]
  have hk2:(s.aQ.map fun i=>I.ref (enc (s.b9 i)))[i]?=some (.ref (enc (s.b9 s.aQ[i]))):=by simp[hib2]
  refine ⟨_,_,hk1,hk2,?_⟩;have hent:mF (s.bp.map enc) (s.aQ.map fun i=>I.ref (enc (s.b9 i))) (some i)=some (.tuple [enc s.bp[i],.ref (enc (s.b9 s.aQ[i]))]):=by
   simp only[mF,hk1,hk2]
  have hx:s.bp.getD i 0=s.bp[i]:=by simp[Z0,hib]
  have hsn:=Yh s.bp ay i;rw[hx] at hsn;have hbs:e7 1 (some [.int .i64 s.bp[i]])=some (enc [s.bp[i]]):=h3 1 s.bp[i] rfl;have hap:=fun (A:ai) d rest=>Hd (A:=A) (d:=d) (e:=3) (bytes:=8) (n:=905) (l:=(iK s.bp ay).length) (xs:=iK s.bp ay) (y:=s.bp[i]) (rest:=rest) rfl (by simp[maxLen];omega) (by omega)
  try simp only[bG,simprocAttr]
  refine .done (hK _ ?_);clear hK K;refine ae.seq ?_;refine ae.jN ?_;simp only[az,bG,simprocAttr];refine ⟨fun h =>?_,fun h =>?_⟩
  case refine_2=>cases h
  refine ae.skip ?_;try simp only[ez,simprocAttr]
  refine ae.block ?_;have R:=y6 @hent (y6 @hbs (y6 @hap aD))
  repeat' ((first |refine ae.aF (by decide +kernel) rfl fun K hK =>?_|(refine .ay [0,2,3,4,9,11] hK ?_;clear hK K)|(with_reducible refine .done (hK _ ?_);clear hK K)|refine ae.of rfl ?_|(with_reducible refine az.aE (fun h =>?_) (fun h =>?_) <;>try simp only[h])) <;>try simp only[aG,R,simprocAttr])
  all_goals clear R
  refine ⟨(ay++[i],left.filter (· != i),some i),hC2,hm,?_⟩;simp only[hsn];refine bm.slots ?_ (fun n =>?_)
  ·simp[b6,bZ]
  ·simp only[cY,qS];(repeat' split) <;>simp_all
theorem Y7:(∀ A d rest l,tP A d rest (jM l)=aB rest ((A.aT d (.it (l.map enc) (List.replicate l.length (.bool true)) (List.range (l.map (enc (α:=Int))).length) none)).put d (.dq d))):=fun _ _ _ _=>rfl
def na(s:aC):List cC:=(bV s.bp).map fun n=>s.b9 (n.toNat-1)
def tN(p:bt):List cC×Int:=match cZ p with
 |none=>([],91)
 |some s=>(na s,0)
theorem Hp{s:aC}{n:Int}(h:n∈s.bp):∃ j,s.at n=some j∧n=(j:Int)+1∧j∈s.aQ:=by
 obtain ⟨j,hj,rfl⟩:=zy1.1 h;have ab:(s.at ((j:Int)+1)).isSome=true:=by
  simp only[aC.at,List.find?_isSome];exact ⟨j,hj,by simp⟩
 obtain ⟨k,hk⟩:=zz9.1 ab;obtain ⟨J,U⟩:=jj hk;exact ⟨k,hk,U,J⟩
theorem Zo{l:List Int}{n:Int} : n∈bV l↔n∈l:=by simp[bV]
theorem Zn(l:List Int):(bV l).length=l.length:=by simp[bV]
theorem xz:∀ {l:List bg} {s s':aC},ga s l=some s'→s'.aQ.length≤s.aQ.length+l.length
 | [],s,s',h=>by cases h;simp
 |x::l,s,s',h=>by
  simp only[ga] at h;cases hx:gD s x with
  |none=>rw[hx] at h;cases h
  |some s2 =>
   rw[hx] at h;have J:=xz h;have he:∀ b,(s.aQ.erase b).length≤s.aQ.length:=fun b=>List.length_erase_le;have U:s2.aQ.length≤s.aQ.length+1:=by
    simp only[gD] at hx;split at hx
    ·simp only[eQ] at hx
     (repeat' split at hx) <;>first
      |(cases hx;done)
      |(cases hx;exact zw3 (he _) (Nat.le_succ _))
      |(cases hx;exact Nat.le_succ _)
      |(cases hx;simp)
    ·cases hx
   simp only[zx7];omega
theorem CY{p:bt}{s:aC}(h:cZ p=some s):s.aQ.length≤200:=by
 obtain ⟨_,_,_,ar,_,h6⟩:=iJ h;have:=xz h6;simp only[eU,List.length_nil] at this;omega
theorem wC(s:aC){i:Nat}(h:i<(bV s.bp).length):fk (.i .i64) .nilp (.int .i64 (bV s.bp)[i]) (s.bp.map enc) (s.aQ.map fun i=>.ref (enc (s.b9 i)))=some (.ref (enc (s.b9 ((bV s.bp)[i].toNat-1))),true):=by
 have hm:(bV s.bp)[i]∈s.bp:=Zo.1 (zx8 h);obtain ⟨j,hj,e,_⟩:=Hp hm;rw[wB (s:=s) (fun i=>.ref (enc (s.b9 i))),hj];have:(bV s.bp)[i].toNat-1=j:=by omega
 simp only[this]
theorem MV{xs:List cC} : kd xs.length (some (.bU 48 4 (xs.map enc)))=some (enc xs):=o6 4 rfl rfl
def uE(p:bt)(s:aC)(t:Nat×List cC):ai :=
 av [(1,.ptr 1 []),(4,c8 s),(6,.own 905 t.2.length),(18,enc (bV s.bp)),(19,.int .i64 (bV s.bp).length),(20,.int .i64 t.1)] [(905,.bU 48 4 (t.2.map enc)),(1,.box (enc p))]
theorem Gh(p:bt):a8 Tryz.prog 46 [enc p] (.tuple [enc (tN p).1,enc (tN p).2]):=by
 refine a8.cd Tryz.func46 IB JE KV (u8 rfl) (fun hwf W0 bF E1 =>?_);simp only[zt,D5,bJ];clear hwf;have hF:=p0 p;simp only[tN];cases ho:cZ p with
 |none =>
  rw[ho] at hF;simp only[km] at hF;have R:=y6 @cj (y6 @bh (y6 @bR (y6 @bB (y6 @bw aD))))
  repeat' ((first |refine ae.aF (by decide +kernel) rfl fun K hK =>?_|refine .lead _ (hF) ?_|(refine .ay [0,1,2,3,4,5,6,8,15,18,19,20,21] hK ?_;clear hK K)|(with_reducible refine .done (hK _ ?_);clear hK K)|refine ae.of rfl ?_|(with_reducible refine az.aE (fun h =>?_) (fun h =>?_) <;>try simp only[h])) <;>try simp only[aG,R,simprocAttr])
  all_goals clear R
  rfl
 |some s =>
  have aq:=CY ho;have hN:=ux s (by omega);have hlen:(bV s.bp).length=s.aQ.length:=by simp[bV,aC.bp]
  have hrl:(na s).length=(bV s.bp).length:=by simp[na]
  have hso:∀ p,(c8 s).only p=true:=fun p=>jS p _ (mq s);rw[ho] at hF;simp only[km] at hF;have R:=y6 @Y7 (y6 @dH (y6 @cj (y6 @bh (y6 @bR (y6 @bB (y6 @bw aD))))))
  repeat' ((first |refine ae.aF (by decide +kernel) rfl fun K hK =>?_|refine .lead _ (hF) ?_|refine .lead _ (hN) ?_|(refine .ay [0,1,2,3,4,5,6,8,15,18,19,20,21] hK ?_;clear hK K)|(with_reducible refine .done (hK _ ?_);clear hK K)|refine ae.of rfl ?_|(with_reducible refine az.aE (fun h =>?_) (fun h =>?_) <;>try simp only[h])) <;>try simp only[aG,R,simprocAttr])
  all_goals clear R
  refine ae.loop (uE p s) (fun t=>t.1≤(bV s.bp).length∧t.2=(na s).take t.1) (fun t=>(bV s.bp).length-t.1) (0,[]) ⟨zy3 _,rfl⟩ ?_ ?_
  ·refine bm.nx 6 905 48 4 4 rfl rfl ?_;simp only[uE];refine bm.cI ?_ ?_ ?_ ?_ <;>simp[*,b6,cD,cm,cn,aw,bZ,cY,I.only,I.cv,ao.only,b7]
  rintro ⟨i,xs⟩ ⟨hi,hxs⟩;simp only at hi hxs;have htl:xs.length=i:=by rw[hxs,zy9];omega
  simp only[uE];by_cases hlt:i<(bV s.bp).length
  ·have hc:=fm hlt;have he:=fun A=>eb (A:=A) 1 hlt rfl;have hw:=fo (i:=i) (by omega);have hlk:=wC s hlt;obtain ⟨r,hr⟩:∃ r,r=s.b9 ((bV s.bp)[i].toNat-1):=⟨_,rfl⟩
   rw[←hr] at hlk;have hbs:e7 4 (some [enc r])=some (enc [r]):=h3 4 _ rfl;have hap:=fun (A:ai) d rest=>mA (A:=A) (d:=d) 48 4 32 905 (l:=xs.length) (es:=xs) (ys:=[r]) (rest:=rest) rfl rfl (by simp) (by simp[maxLen];omega) (by simp;omega);have htk:(na s).take (i+1)=xs++[r]:=by
    have hik:i<(na s).length:=by rw[hrl];exact hlt
    rw[Z9 hik,hxs,hr];simp[na]
   have R:=y6 @hc (y6 @he (y6 @hw (y6 @hlk (y6 @hbs (y6 @hap (y6 @dH (y6 @cj (y6 @bh (y6 @bR (y6 @bB (y6 @bw aD)))))))))))
   repeat' ((first |refine ae.aF (by decide +kernel) rfl fun K hK =>?_|(refine .ay [0,1,2,3,4,5,6,8,15,18,19,20,21] hK ?_;clear hK K)|(with_reducible refine .done (hK _ ?_);clear hK K)|refine ae.of rfl ?_|(with_reducible refine az.aE (fun h =>?_) (fun h =>?_) <;>try simp only[h])) <;>try simp only[aG,R,simprocAttr])
   all_goals clear R
   refine ⟨(i+1,xs++[r]),⟨by simp only;omega,htk.symm⟩,by simp only;omega,?_⟩;simp only;clear hxs htk htl;refine bm.cI ?_ ?_ ?_ ?_ <;>simp[*,b6,cD,cm,cn,aw,bZ,cY,I.only,I.cv,ao.only,eE,mR,b7]
  ·have hge:i=(bV s.bp).length:=by omega
   have hc:=fu hlt;have htk:xs=na s:=by rw[hxs];exact List.take_of_length_le (by omega)
   rw[←htk];have R:=y6 @hc (y6 @MV (y6 @dH (y6 @cj (y6 @bh (y6 @bR (y6 @bB (y6 @bw aD)))))))
   repeat' ((first |refine ae.aF (by decide +kernel) rfl fun K hK =>?_|(refine .ay [0,1,2,3,4,5,6,8,15,18,19,20,21] hK ?_;clear hK K)|(with_reducible refine .done (hK _ ?_);clear hK K)|refine ae.of rfl ?_|(with_reducible refine az.aE (fun h =>?_) (fun h =>?_) <;>try simp only[h])) <;>try simp only[aG,R,simprocAttr])
   all_goals clear R
def nP(s:aC)(w:ji):Int:=match s.bq.find? fun x=>decide (eN x=w) with
 |some x=>x.kind
 |none=>0
theorem WT(s:aC)(a b:Int):∃ x:bg,x.kind=nP s ⟨a,b⟩∧∃ t,fk (.bd [.i .i64,.i .i64]) (.agg [.int .i64 0,.int .i64 0,.int .i64 0,.int .i64 0]) (.agg [.int .i64 a,.int .i64 b]) (s.dV.map enc) (s.bq.map enc)=some (enc x,t):=by
 have h:=wA sH eN (fun x:bg=>enc x) (.agg [.int .i64 0,.int .i64 0,.int .i64 0,.int .i64 0]) ⟨a,b⟩ s.bq;have e:(enc (⟨a,b⟩:ji):I)=.agg [.int .i64 a,.int .i64 b]:=rfl;rw[e] at h;have e2:(fun x:bg=>decide ((⟨a,b⟩:ji)=eN x))=fun x=>decide (eN x=⟨a,b⟩):=by
  funext x;rw[Bool.eq_iff_iff];simp[eq_comm]
 rw[e2] at h;simp only[nP];cases hf:s.bq.find? fun x=>decide (eN x=⟨a,b⟩) with
 |none=>rw[hf] at h;exact ⟨gX,rfl,false,h⟩
 |some x=>rw[hf] at h;exact ⟨x,rfl,true,h⟩
theorem vQ(a b c d:Int):ke 0 0 none (some [.int .i64 a,.int .i64 b,.int .i64 c,.int .i64 d])=some (.int .i64 a):=rfl
theorem oP(a b:Int):(dQ [.int .i64 0,.int .i64 0] [(0,.int .i64 a),(1,.int .i64 b)]).map I.agg=some (.agg [.int .i64 a,.int .i64 b]):=by simp[dQ,I.bT,I.size]
instance:Enc aC where
 enc s:=c8 s
 sz:=1
 aX:=.one
 gU:=false
 done s:=by simp only[c8,I.done,AJ]
 size _:=rfl
 iO _:=rfl
 agg _:=rfl
theorem vn(s:aC):(enc s:I)=c8 s:=rfl
def fe(l:List bt)(i:Nat):bt:=l.getD i default
theorem pI{l:List bt}{i:Nat}(h:i<l.length):l[i]=fe l i:=by simp[fe,Z0,h]
def fF(l:List bt)(i:Nat):Bool:=(cZ (fe l i)).isSome&&(i==0||decide ((fe l (i-1)).au<(fe l i).au))
def kK(l:List bt):Bool:=(List.range l.length).all (fF l)
def j0(l:List bt):List aC:=l.filterMap cZ
def dm(l:List bt)(b:Int):List aC×Int:=if kK l then (if dp 1 9999 b then (j0 l,0) else ([],1)) else ([],96)
theorem CZ{p:bt}(h:(cZ p).isSome=true):0≤p.au∧p.au≤5:=by
 obtain ⟨s,ab⟩:=zz9.1 h;have h5:=(iJ ab).2.2.2.2.1;simp only[iH,dp,t8,decide_eq_true_eq] at h5;exact h5.1
theorem Wg{l:List bt}{n:Nat}(h:∀ j,j<n→fF l j=true):∀ j,j<n→(j:Int)≤(fe l j).au:=by
 intro j
 induction j with
 |zero =>
  intro hj;have aW:=h 0 hj;simp only[fF,t8] at aW;exact (CZ aW.1).1
 |succ j ih =>
  intro hj;have J:=ih (by omega);have U:=h (j+1) hj;simp only[fF,t8,Bool.or_eq_true,beq_iff_eq,decide_eq_true_eq] at U;rcases U.2 with ah | ah
  ·omega
  ·have:j+1-1=j:=rfl;rw[this] at ah;omega
theorem sS{l:List bt}{n:Nat}(h:∀ j,j<n→fF l j=true):n≤6:=by
 rcases Nat.lt_or_ge 6 n with hn | hn
 ·have J:=Wg h 6 hn;have U:=h 6 hn;simp only[fF,t8] at U;have:=(CZ U.1).2;omega
 ·exact hn
theorem ZD{l:List bt}{i:Nat}(h:i<l.length):j0 (l.take (i+1))=j0 (l.take i)++(match cZ (fe l i) with | some s=>[s] | none=>[]):=by
 rw[Z9 h,pI h];simp only[j0,List.filterMap_append,List.filterMap_cons,List.filterMap_nil];cases cZ (fe l i) <;>rfl
theorem Fq(l:List bt):(j0 l).length≤l.length:=List.length_filterMap_le _ _
theorem Be{xs:List aC} : kd xs.length (some (.bU 80 1 (xs.map enc)))=some (enc xs):=o6 1 rfl rfl
def uG(l:List bt)(b:Int)(t:Nat×List aC):ai :=
 av [(0,enc l),(1,.int .i64 b),(6,.own 905 t.2.length),(11,enc l),(12,.int .i64 l.length),(13,.int .i64 t.1)] [(905,.bU 80 1 (t.2.map enc))]
theorem yh(l:List bt)(b:Int):a8 Tryz.prog 83 [enc l,enc b] (.tuple [enc (dm l b).1,enc (dm l b).2]):=by
 refine a8.cd Tryz.func83 IX JX Lf (u8 rfl) (fun hwf W0 bF E1 =>?_);simp only[zO,Ep,bJ,Z1];have hlen:l.length≤maxLen:=((lv l).1 hwf.1).1;simp only[maxLen] at hlen;clear hwf;have R:=y6 @cj (y6 @bh (y6 @bR (y6 @bB (y6 @bw aD))))
 repeat' ((first |(with_reducible refine .guard (fun hb =>?_) (fun hb =>?_) <;>try simp only[hb])|refine ae.aF (by decide +kernel) rfl fun K hK =>?_|(refine .ay [0,1,4,5,6,7,8,9,10,11,12,13,14,39,47] hK ?_;clear hK K)|(with_reducible refine .done (hK _ ?_);clear hK K)|refine ae.of rfl ?_|(with_reducible refine az.aE (fun h =>?_) (fun h =>?_) <;>try simp only[h])) <;>try simp only[aG,R,simprocAttr])
 all_goals clear R
 refine ae.loop (uG l b) (fun t=>t.1≤l.length∧(∀ j,j<t.1→fF l j=true)∧t.2=j0 (l.take t.1)) (fun t=>l.length-t.1) (0,[]) ⟨zy3 _,by simp,rfl⟩ ?_ ?_
 ·refine bm.nx 6 905 80 1 1 rfl rfl ?_;simp only[uG];refine bm.cI ?_ ?_ ?_ ?_ <;>simp[b6,cD,cm,cn,aw,bZ,cY,I.only,I.cv,ao.only,b7]
  all_goals rfl
 rintro ⟨i,xs⟩ ⟨hi,hg,hxs⟩;simp only at hi hg hxs;have hi6:=sS hg;have hxl:xs.length≤i:=by
  rw[hxs];refine zw3 (Fq _) ?_;rw[zy9];omega
 simp only[uG];by_cases hlt:i<l.length
 ·have hc:=fm hlt;have he:=fun A=>eb (A:=A) 3 hlt rfl;rw[pI hlt] at he;have hw:=fo (i:=i) (by omega);have hF:=p0 (fe l i);have hbad:fF l i=false→dm l b=([],96):=fun h=>by
   have:kK l=false:=by
    simp only[kK,List.all_eq_false];exact ⟨i,zy6.2 hlt,by simp[h]⟩
   simp[dm,this]
  cases ho:cZ (fe l i) with
  |none =>
   rw[ho] at hF;simp only[km] at hF;rw[hbad (by simp[fF,ho])];have R:=y6 @hc (y6 @he (y6 @cj (y6 @bh (y6 @bR (y6 @bB (y6 @bw aD))))))
   repeat' ((first |(with_reducible refine .guard (fun hb =>?_) (fun hb =>?_) <;>try simp only[hb])|refine ae.aF (by decide +kernel) rfl fun K hK =>?_|refine .lead _ (hF) ?_|(refine .ay [0,1,4,5,6,7,8,9,10,11,12,13,14,39,47] hK ?_;clear hK K)|(with_reducible refine .done (hK _ ?_);clear hK K)|refine ae.of rfl ?_|(with_reducible refine az.aE (fun h =>?_) (fun h =>?_) <;>try simp only[h])) <;>try simp only[aG,R,simprocAttr])
   all_goals clear R
   rfl
  |some s =>
   rw[ho] at hF;simp only[km] at hF;have hbs:e7 1 (some [c8 s])=some (enc [s]):=h3 1 s rfl;have hap:=fun (A:ai) d rest=>mA (A:=A) (d:=d) 80 1 8 905 (l:=xs.length) (es:=xs) (ys:=[s]) (rest:=rest) rfl rfl (by simp) (by simp[maxLen];omega) (by simp;omega);have hst:j0 (l.take (i+1))=xs++[s]:=by rw[ZD hlt,ho,hxs]
   have hso:∀ p,(c8 s).only p=true:=fun p=>jS p _ (mq s);by_cases aW:i=0
   ·have hz:decide ((i:Int)>0)=false:=by simp;omega
    have hgi:fF l i=true:=by simp only[fF,ho];simp[aW]
    have R:=y6 @hc (y6 @he (y6 @hz (y6 @hw (y6 @hbs (y6 @hap (y6 @cj (y6 @dH (y6 @bh (y6 @bR (y6 @bB (y6 @bw aD)))))))))))
    repeat' ((first |(with_reducible refine .guard (fun hb =>?_) (fun hb =>?_) <;>try simp only[hb])|refine ae.aF (by decide +kernel) rfl fun K hK =>?_|refine .lead _ (hF) ?_|(refine .ay [0,1,4,5,6,7,8,9,10,11,12,13,14,39,47] hK ?_;clear hK K)|(with_reducible refine .done (hK _ ?_);clear hK K)|refine ae.of rfl ?_|(with_reducible refine az.aE (fun h =>?_) (fun h =>?_) <;>try simp only[h])) <;>try simp only[aG,R,simprocAttr])
    all_goals clear R
    refine ⟨(i+1,xs++[s]),⟨by simp only;omega,fun j hj =>?_,hst.symm⟩,by simp only;omega,?_⟩
    ·by_cases e:j=i
     ·rw[e];exact hgi
     ·exact hg j (by simp only at hj;omega)
    ·simp only;clear hxs hst;refine bm.cI ?_ ?_ ?_ ?_ <;>simp[*,b6,cD,cm,cn,aw,bZ,cY,I.only,I.cv,ao.only,eE,mR,b7]
   ·have hz:decide ((i:Int)>0)=true:=by simp;omega
    have hw1:IntKind.i64.wrap ((i:Int)-1)=((i-1:Nat):Int):=by rw[ly _ (by omega) (by omega)];omega
    have he1:∀ A,js A 3 ((i-1:Nat):Int) (enc l)=some (.ref (enc (fe l (i-1)))):=fun A=>by
     have hlt1:i-1<l.length:=by omega
     have:=eb (A:=A) 3 hlt1 rfl;rw[pI hlt1] at this;exact this
    rcases q:decide ((fe l (i-1)).au≥(fe l i).au)
    ·have hgi:fF l i=true:=by
      have:(fe l (i-1)).au<(fe l i).au:=by have:=of_decide_eq_false q;omega
      simp[fF,ho,this]
     have R:=y6 @hc (y6 @he (y6 @hz (y6 @hw1 (y6 @he1 (y6 @q (y6 @hw (y6 @hbs (y6 @hap (y6 @cj (y6 @dH (y6 @bh (y6 @bR (y6 @bB (y6 @bw aD))))))))))))))
     repeat' ((first |(with_reducible refine .guard (fun hb =>?_) (fun hb =>?_) <;>try simp only[hb])|refine ae.aF (by decide +kernel) rfl fun K hK =>?_|refine .lead _ (hF) ?_|(refine .ay [0,1,4,5,6,7,8,9,10,11,12,13,14,39,47] hK ?_;clear hK K)|(with_reducible refine .done (hK _ ?_);clear hK K)|refine ae.of rfl ?_|(with_reducible refine az.aE (fun h =>?_) (fun h =>?_) <;>try simp only[h])) <;>try simp only[aG,R,simprocAttr])
     all_goals clear R
     refine ⟨(i+1,xs++[s]),⟨by simp only;omega,fun j hj =>?_,hst.symm⟩,by simp only;omega,?_⟩
     ·by_cases e:j=i
      ·rw[e];exact hgi
      ·exact hg j (by simp only at hj;omega)
     ·simp only;clear hxs hst;refine bm.cI ?_ ?_ ?_ ?_ <;>simp[*,b6,cD,cm,cn,aw,bZ,cY,I.only,I.cv,ao.only,eE,mR,b7]
    ·have hgi:fF l i=false:=by
      have:¬ (fe l (i-1)).au<(fe l i).au:=by have:=of_decide_eq_true q;omega
      simp[fF,this,aW]
     rw[hbad hgi];have R:=y6 @hc (y6 @he (y6 @hz (y6 @hw1 (y6 @he1 (y6 @q (y6 @hw (y6 @hbs (y6 @hap (y6 @cj (y6 @dH (y6 @bh (y6 @bR (y6 @bB (y6 @bw aD))))))))))))))
     repeat' ((first |(with_reducible refine .guard (fun hb =>?_) (fun hb =>?_) <;>try simp only[hb])|refine ae.aF (by decide +kernel) rfl fun K hK =>?_|refine .lead _ (hF) ?_|(refine .ay [0,1,4,5,6,7,8,9,10,11,12,13,14,39,47] hK ?_;clear hK K)|(with_reducible refine .done (hK _ ?_);clear hK K)|refine ae.of rfl ?_|(with_reducible refine az.aE (fun h =>?_) (fun h =>?_) <;>try simp only[h])) <;>try simp only[aG,R,simprocAttr])
     all_goals clear R
     rfl
 ·have hge:i=l.length:=by omega
  have hc:=fu hlt;have hx2:xs=j0 l:=by rw[hxs,hge,zx3]
  have hgood:kK l=true:=zz6.2 fun j hj=>hg j (by have:=zy6.1 hj;omega);have hB:=p5 b;simp only[dm,hgood,if_true,←hx2];rw[hge];rw[hge] at hc;rcases q:dp 1 9999 b
  ·rw[q] at hB;have R:=y6 @hc (y6 @Be (y6 @cj (y6 @bh (y6 @bR (y6 @bB (y6 @bw aD))))))
   repeat' ((first |(with_reducible refine .guard (fun hb =>?_) (fun hb =>?_) <;>try simp only[hb])|refine ae.aF (by decide +kernel) rfl fun K hK =>?_|refine .flat _ (hB) rfl ?_|(refine .ay [0,1,4,5,6,7,8,9,10,11,12,13,14,39,47] hK ?_;clear hK K)|(with_reducible refine .done (hK _ ?_);clear hK K)|refine ae.of rfl ?_|(with_reducible refine az.aE (fun h =>?_) (fun h =>?_) <;>try simp only[h])) <;>try simp only[aG,R,simprocAttr])
   all_goals clear R
   rfl
  ·rw[q] at hB;have R:=y6 @hc (y6 @Be (y6 @cj (y6 @bh (y6 @bR (y6 @bB (y6 @bw aD))))))
   repeat' ((first |(with_reducible refine .guard (fun hb =>?_) (fun hb =>?_) <;>try simp only[hb])|refine ae.aF (by decide +kernel) rfl fun K hK =>?_|refine .flat _ (hB) rfl ?_|(refine .ay [0,1,4,5,6,7,8,9,10,11,12,13,14,39,47] hK ?_;clear hK K)|(with_reducible refine .done (hK _ ?_);clear hK K)|refine ae.of rfl ?_|(with_reducible refine az.aE (fun h =>?_) (fun h =>?_) <;>try simp only[h])) <;>try simp only[aG,R,simprocAttr])
   all_goals clear R
def mr(l:List bt)(b:Int):List Int×Int:=(((dm l b).1.filter fun s=>decide (b∈s.here)).map (·.au),(dm l b).2)
theorem ZC{l:List bt}{b:Int}{s:aC}(h:s∈(dm l b).1):∃ p∈l,cZ p=some s:=by
 simp only[dm] at h;split at h
 ·split at h
  ·simp only[j0,List.mem_filterMap] at h;exact h
  ·cases h
 ·cases h
theorem yz(l:List bt)(b:Int):(dm l b).1.length≤6:=by
 simp only[dm];split
 ·rename_i hg;split
  ·have J:=sS (l:=l) (n:=l.length) fun j hj=>zz6.1 hg j (zy6.2 hj);exact zw3 (Fq l) J
  ·simp
 ·simp
def pV(all:List aC)(b:Int):List Int:=(all.filter fun s=>decide (b∈s.here)).map (·.au)
theorem ZS(all:List aC)(b:Int){i:Nat}(h:i<all.length):pV (all.take (i+1)) b=pV (all.take i) b++if b∈all[i].here then [all[i].au] else []:=by
 rw[Z9 h];simp only[pV,List.filter_append,zz3,zw4,List.filter_nil,decide_eq_true_eq]
 congr 1
 split <;>rfl
def uC(all:List aC)(e b:Int)(t:Nat×List Int):ai :=
 av [(1,.int .i64 b),(7,.int .i64 e),(8,.own 905 t.2.length),(17,enc all),(18,.int .i64 all.length),(19,.int .i64 t.1)] [(905,.bU 3 1 (t.2.map enc))]
theorem vJ{xs:List Int} : kd xs.length (some (.bU 3 1 (xs.map enc)))=some (enc xs):=o6 1 rfl rfl
theorem x8(l:List bt)(b:Int):a8 Tryz.prog 37 [enc l,enc b] (.tuple [enc (mr l b).1,enc (mr l b).2]):=by
 refine a8.cd Tryz.func37 Iu Jy KP (u8 rfl) (fun hwf W0 bF E1 =>?_);simp only[zm,DV,bJ,Z1];clear hwf;have hF:=yh l b;have hal:=yz l b;simp only[mr];generalize (dm l b).1=all at *;generalize (dm l b).2=e at *;have R:=y6 @cj (y6 @bh (y6 @bR (y6 @bB (y6 @bw aD))))
 repeat' ((first |refine ae.aF (by decide +kernel) rfl fun K hK =>?_|refine .lead _ (hF) ?_|(refine .ay [0,1,4,5,6,7,8,10,17,18,19,20,28] hK ?_;clear hK K)|(with_reducible refine .done (hK _ ?_);clear hK K)|refine ae.of rfl ?_|(with_reducible refine az.aE (fun h =>?_) (fun h =>?_) <;>try simp only[h])) <;>try simp only[aG,R,simprocAttr])
 all_goals clear R
 refine ae.loop (uC all e b) (fun t=>t.1≤all.length∧t.2=pV (all.take t.1) b) (fun t=>all.length-t.1) (0,[]) ⟨zy3 _,rfl⟩ ?_ ?_
 ·refine bm.nx 8 905 3 1 1 rfl rfl ?_;simp only[uC];refine bm.cI ?_ ?_ ?_ ?_ <;>simp[b6,cD,cm,cn,aw,bZ,cY,I.only,I.cv,ao.only,b7]
  all_goals rfl
 rintro ⟨i,xs⟩ ⟨hi,hxs⟩;simp only at hi hxs;have hxl:xs.length≤i:=by
  rw[hxs,pV,Z8];refine zw3 (List.length_filter_le _ _) ?_;rw[zy9];omega
 simp only[uC];by_cases hlt:i<all.length
 ·have hc:=fm hlt;have he:=fun A=>eb (A:=A) 1 hlt rfl;have hw:=fo (i:=i) (by omega);have hsn:=ZS all b hlt;rw[←hxs] at hsn;obtain ⟨s,ab⟩:∃ s,s=all[i]:=⟨_,rfl⟩
  rw[←ab] at he hsn;simp only[vn] at he;have hlk:=gn eS b s.here;rw[eC] at hlk;have hbs:e7 1 (some [.int .i64 s.au])=some (enc [s.au]):=h3 1 s.au rfl;have hap:=fun (A:ai) d rest=>mA (A:=A) (d:=d) 3 1 8 905 (l:=xs.length) (es:=xs) (ys:=[s.au]) (rest:=rest) rfl rfl (by simp) (by simp[maxLen];omega) (by simp;omega);rcases q:decide (b∈s.here)
  ·have bH:b∉s.here:=of_decide_eq_false q;rw[if_neg bH,zx4] at hsn;have R:=y6 @hc (y6 @he (y6 @hw (y6 @hlk (y6 @q (y6 @dH (y6 @cj (y6 @bh (y6 @bR (y6 @bB (y6 @bw aD))))))))))
   repeat' ((first |refine ae.aF (by decide +kernel) rfl fun K hK =>?_|(refine .ay [0,1,4,5,6,7,8,10,17,18,19,20,28] hK ?_;clear hK K)|(with_reducible refine .done (hK _ ?_);clear hK K)|refine ae.of rfl ?_|(with_reducible refine az.aE (fun h =>?_) (fun h =>?_) <;>try simp only[h])) <;>try simp only[aG,R,simprocAttr])
   all_goals clear R
   refine ⟨(i+1,xs),⟨by simp only;omega,hsn.symm⟩,by simp only;omega,?_⟩;simp only;clear hxs hsn;refine bm.cI ?_ ?_ ?_ ?_ <;>simp[b6,cD,cm,cn,aw,bZ,cY,I.only,ao.only,eE,b7]
  ·have bH:b∈s.here:=of_decide_eq_true q;rw[if_pos bH] at hsn;have R:=y6 @hc (y6 @he (y6 @hw (y6 @hlk (y6 @q (y6 @hbs (y6 @hap (y6 @dH (y6 @cj (y6 @bh (y6 @bR (y6 @bB (y6 @bw aD))))))))))))
   repeat' ((first |refine ae.aF (by decide +kernel) rfl fun K hK =>?_|(refine .ay [0,1,4,5,6,7,8,10,17,18,19,20,28] hK ?_;clear hK K)|(with_reducible refine .done (hK _ ?_);clear hK K)|refine ae.of rfl ?_|(with_reducible refine az.aE (fun h =>?_) (fun h =>?_) <;>try simp only[h])) <;>try simp only[aG,R,simprocAttr])
   all_goals clear R
   refine ⟨(i+1,xs++[s.au]),⟨by simp only;omega,hsn.symm⟩,by simp only;omega,?_⟩;simp only;clear hxs hsn;refine bm.cI ?_ ?_ ?_ ?_ <;>simp[b6,cD,cm,cn,aw,bZ,cY,I.only,I.cv,ao.only,eE,mR,b7,eC]
 ·have hge:i=all.length:=by omega
  have hc:=fu hlt;have hx2:xs=pV all b:=by rw[hxs,hge,zx3]
  rw[show ((all.filter fun s=>decide (b∈s.here)).map (·.au))=xs from hx2.symm];have R:=y6 @hc (y6 @vJ (y6 @cj (y6 @bh (y6 @bR (y6 @bB (y6 @bw aD))))))
  repeat' ((first |refine ae.aF (by decide +kernel) rfl fun K hK =>?_|(refine .ay [0,1,4,5,6,7,8,10,17,18,19,20,28] hK ?_;clear hK K)|(with_reducible refine .done (hK _ ?_);clear hK K)|refine ae.of rfl ?_|(with_reducible refine az.aE (fun h =>?_) (fun h =>?_) <;>try simp only[h])) <;>try simp only[aG,R,simprocAttr])
  all_goals clear R
structure gu where
 kind:Int
 cP:Int
 no:Int
 aK:Int
 deriving DecidableEq,Inhabited
instance:Enc gu where
 enc g:=.agg [.int .i64 g.kind,.int .i64 g.cP,.int .i64 g.no,.int .i64 g.aK]
 sz:=4
 aX:=.eI [.one,.one,.one,.one]
 gU:=true
 done g:=by simp only[I.done,I.gw,Bool.and_self]
 size g:=by simp only[I.size,I.sizes]
 iO g:=by simp only[I.aX,I.c7]
 agg _:=rfl
structure ct where
 au:Int
 here:List Int
 dF:Int
 br:List cC
 bq:List gu
 deriving Inhabited
def gC(a:Int)(h:I)(s:Int)(r e:I):I:=.agg [.int .i64 a,h,.int .i64 s,r,e]
instance:Enc ct where
 enc g:=gC g.au (enc g.here) g.dF (enc g.br) (enc g.bq)
 sz:=5
 aX:=.eI [.one,.one,.one,.one,.one]
 gU:=true
 done g:=by simp only[gC,I.done,I.gw,Enc.done,Bool.and_self]
 size g:=by simp only[gC,I.size,I.sizes,jK,jq]
 iO g:=by simp only[gC,I.aX,I.c7,eH,nE]
 agg _:=rfl
theorem cF:(∀ g:ct,(enc g).dP=some [.int .i64 g.au,enc g.here,.int .i64 g.dF,enc g.br,enc g.bq])∧(∀ a h s r e,(gC a h s r e).dP=some [.int .i64 a,h,.int .i64 s,r,e])∧(∀ g:gu,(enc g).dP=some [.int .i64 g.kind,.int .i64 g.cP,.int .i64 g.no,.int .i64 g.aK]) ∧
  (∀ g:ct,cg (some 5) (enc g)=true)∧(∀ g:gu,cg (some 4) (enc g)=true)∧(∀ g:List Int,cg none (enc g)=true)∧(∀ g:List cC,cg none (enc g)=true)∧(∀ g:List gu,cg none (enc g)=true) ∧
  (∀ (a b:Int) (h:List Int) (r:List cC) (e:List gu) v,du [.int .i64 a,enc h,.int .i64 b,enc r,enc e] 0 0 v=some v)∧(∀ (a b:Int) (h:List Int) (r:List cC) (e:List gu) v,du [.int .i64 a,enc h,.int .i64 b,enc r,enc e] 1 1 v=some v)∧(∀ (a b:Int) (h:List Int) (r:List cC) (e:List gu) v,du [.int .i64 a,enc h,.int .i64 b,enc r,enc e] 2 2 v=some v) ∧
  (∀ (a b:Int) (h:List Int) (r:List cC) (e:List gu) v,du [.int .i64 a,enc h,.int .i64 b,enc r,enc e] 3 3 v=some v)∧(∀ (a b:Int) (h:List Int) (r:List cC) (e:List gu) v,du [.int .i64 a,enc h,.int .i64 b,enc r,enc e] 4 4 v=some v) ∧
  (∀ A n b rest (q:ct) x y,de A (some 5) n [] b (enc q) rest (some (.agg [.int .i64 x,.nils 1,.int .i64 y,.nils 4,.nils 4]))=aB rest (A.aT n (.box (enc q))))∧(∀ A n b rest (q r:ct),de A (some 5) n [] b (enc q) rest (some (enc r))=aB rest (A.aT n (.box (enc q)))) ∧
  (∀ A n b rest (q:cC) x y z w,de A (some 4) n [] b (enc q) rest (some (.agg [.int .i64 x,.int .i64 y,.int .i64 z,.bool w]))=aB rest (A.aT n (.box (enc q))))∧(∀ A n b rest (q:gu) x y z w,de A (some 4) n [] b (enc q) rest (some (.agg [.int .i64 x,.int .i64 y,.int .i64 z,.int .i64 w]))=aB rest (A.aT n (.box (enc q)))) ∧
  (∀ (A:ai) n (q:ct) (l k:List Int) rest,de A none n [1] (enc q) (enc l) rest (some (enc k))=aB rest (A.aT n (.box (enc ({ q with here:=l } : ct)))))∧(∀ (A:ai) n (q:ct) (v u:Int) rest,de A none n [2] (enc q) (.int .i64 v) rest (some (.int .i64 u))=aB rest (A.aT n (.box (enc ({ q with dF:=v } : ct))))) :=
 ⟨fun _=>rfl,fun _ _ _ _ _=>rfl,fun _=>rfl,fun _=>by rw[fb];rfl,fun _=>by rw[fb];rfl,fun _=>by simp[kc,kb],fun _=>by simp[kc,kb],fun _=>by simp[kc,kb],
  fun _ _ _ _ _ _=>iG (by simp) rfl,fun _ _ _ _ _ _=>iG (by simp) rfl,fun _ _ _ _ _ _=>iG (by simp) (by simp[I.sizes,I.size,jK,jq]),fun _ _ _ _ _ _=>iG (by simp) (by simp[I.sizes,I.size,jK,jq]),fun _ _ _ _ _ _=>iG (by simp) (by simp[I.sizes,I.size,jK,jq]),
  fun A n b rest q x y=>dG (ef _) (by rw[fb];rfl) (eH _),fun A n b rest q r=>dG (ef _) (by rw[fb];rfl) ((eH _).trans (eH _).symm),fun A n b rest q x y z w=>dG (ef _) (by rw[fb];rfl) (eH _),fun A n b rest q x y z w=>dG (ef _) (by rw[fb];rfl) (eH _),
  fun A n q l k rest=>dG (ef _) (by simp[kc,kb]) rfl,fun A n q v u rest=>dG rfl rfl rfl⟩
theorem yg(l:List Int)(n:Int):a8 Tryz.prog 78 [enc l,enc n] (enc (decide (n∈l))):=by
 refine a8.cd Tryz.func78 IT JU Lb (u8 rfl) (fun hwf W0 bF E1 =>?_);simp only[zL,Em,bJ,Z1];have hlen:l.length≤maxLen:=((lv l).1 hwf.1).1;simp only[maxLen] at hlen;clear hwf;have R:=y6 @bh aD
 repeat' ((first |refine ae.aF (by decide +kernel) rfl fun K hK =>?_|(refine .ay [0,1,4,6,7,8,9,10,15] hK ?_;clear hK K)|(with_reducible refine .done (hK _ ?_);clear hK K)|refine ae.of rfl ?_|(with_reducible refine az.aE (fun h =>?_) (fun h =>?_) <;>try simp only[h])) <;>try simp only[aG,R,simprocAttr])
 all_goals clear R
 refine ae.loop (fun i:Nat=>av [(1,.int .i64 n),(7,enc l),(8,.int .i64 l.length),(9,.int .i64 i)] []) (fun i=>i≤l.length∧n∉l.take i) (fun i=>l.length-i) 0 ⟨zy3 _,by simp⟩ ?_ (fun i hi =>?_)
 ·refine bm.cI ?_ ?_ ?_ ?_ <;>simp[b6,cD,cm,cn,bZ,I.only,b7]
 obtain ⟨hi1,hi2⟩:=hi;by_cases hlt:i<l.length
 ·have hc:=fm hlt;have he:=fun A=>eb (A:=A) 1 hlt rfl;have hw:=fo (i:=i) (by omega);rcases hp:(l[i]==n)
  ·have R:=y6 @hc (y6 @he (y6 @hp (y6 @hw aD)))
   repeat' ((first |refine ae.aF (by decide +kernel) rfl fun K hK =>?_|(refine .ay [0,1,4,6,7,8,9,10,15] hK ?_;clear hK K)|(with_reducible refine .done (hK _ ?_);clear hK K)|refine ae.of rfl ?_|(with_reducible refine az.aE (fun h =>?_) (fun h =>?_) <;>try simp only[h])) <;>try simp only[aG,R,simprocAttr])
   all_goals clear R
   refine ⟨i+1,⟨by omega,?_⟩,by omega,?_⟩
   ·rw[Z9 hlt];have:¬ l[i]=n:=by simpa using hp
    simp only[zy7,zy4];exact fun h=>h.elim hi2 fun e=>this e.symm
   ·refine bm.cI ?_ ?_ ?_ ?_ <;>simp[b6,cD,cm,cn,bZ,I.only,b7]
  ·have hm:n∈l:=by
    have:l[i]=n:=by simpa using hp
    rw[←this];exact zx8 hlt
   have R:=y6 @hc (y6 @he (y6 @hp aD))
   repeat' ((first |refine ae.aF (by decide +kernel) rfl fun K hK =>?_|(refine .ay [0,1,4,6,7,8,9,10,15] hK ?_;clear hK K)|(with_reducible refine .done (hK _ ?_);clear hK K)|refine ae.of rfl ?_|(with_reducible refine az.aE (fun h =>?_) (fun h =>?_) <;>try simp only[h])) <;>try simp only[aG,R,simprocAttr])
   all_goals clear R
   simp[hm]
 ·have hc:=fu hlt;have hge:i=l.length:=by omega
  have R:=y6 @hc aD
  repeat' ((first |refine ae.aF (by decide +kernel) rfl fun K hK =>?_|(refine .ay [0,1,4,6,7,8,9,10,15] hK ?_;clear hK K)|(with_reducible refine .done (hK _ ?_);clear hK K)|refine ae.of rfl ?_|(with_reducible refine az.aE (fun h =>?_) (fun h =>?_) <;>try simp only[h])) <;>try simp only[aG,R,simprocAttr])
  all_goals clear R
  rw[hge,zx3] at hi2;simp[hi2]
def ir(s:ct)(b:Int):Bool:=s.br.any fun r=>decide (r.aK=b)
theorem uq(s:ct)(b:Int)(hlen:s.br.length≤1000):a8 Tryz.prog 108 [enc s,enc b] (enc (ir s b)):=by
 refine a8.cd Tryz.func108 H9 Jf Km (u8 rfl) (fun hwf W0 bF E1 =>?_);simp only[yX,Dr,bJ,Z1];clear hwf;have R:=y6 @cF (y6 @bh aD)
 repeat' ((first |refine ae.aF (by decide +kernel) rfl fun K hK =>?_|(refine .ay [0,1,2,4,6,8,9,10,11,17] hK ?_;clear hK K)|(with_reducible refine .done (hK _ ?_);clear hK K)|refine ae.of rfl ?_|(with_reducible refine az.aE (fun h =>?_) (fun h =>?_) <;>try simp only[h])) <;>try simp only[aG,R,simprocAttr])
 all_goals clear R
 refine ae.loop (fun i:Nat=>av [(1,.int .i64 b),(2,.ptr 2 []),(8,enc s.br),(9,.int .i64 s.br.length),(10,.int .i64 i)] [(2,.box (enc s))]) (fun i=>i≤s.br.length∧((s.br.take i).any fun r=>decide (r.aK=b))=false) (fun i=>s.br.length-i) 0 ⟨zy3 _,by simp⟩ ?_ (fun i hi =>?_)
 ·refine bm.cI ?_ ?_ ?_ ?_ <;>simp[b6,cD,cm,cn,aw,bZ,cY,I.only,ao.only,b7]
 obtain ⟨hi1,hi2⟩:=hi;by_cases hlt:i<s.br.length
 ·have hc:=fm hlt;have he:=fun A=>eb (A:=A) 4 hlt rfl;have hw:=fo (i:=i) (by omega);rcases hp:((s.br[i]).aK==b)
  ·have R:=y6 @hc (y6 @he (y6 @hp (y6 @hw (y6 @cF aD))))
   repeat' ((first |refine ae.aF (by decide +kernel) rfl fun K hK =>?_|(refine .ay [0,1,2,4,6,8,9,10,11,17] hK ?_;clear hK K)|(with_reducible refine .done (hK _ ?_);clear hK K)|refine ae.of rfl ?_|(with_reducible refine az.aE (fun h =>?_) (fun h =>?_) <;>try simp only[h])) <;>try simp only[aG,R,simprocAttr])
   all_goals clear R
   refine ⟨i+1,⟨by omega,?_⟩,by omega,?_⟩
   ·rw[Z9 hlt,List.any_append,hi2];have:¬ (s.br[i]).aK=b:=by simpa using hp
    simp[this]
   ·refine bm.cI ?_ ?_ ?_ ?_ <;>simp[b6,cD,cm,cn,aw,bZ,cY,I.only,ao.only,b7]
  ·have hm:ir s b=true:=by
    have:(s.br[i]).aK=b:=by simpa using hp
    simp only[ir,List.any_eq_true];exact ⟨s.br[i],zx8 hlt,by simp[this]⟩
   rw[hm];have R:=y6 @hc (y6 @he (y6 @hp (y6 @cF aD)))
   repeat' ((first |refine ae.aF (by decide +kernel) rfl fun K hK =>?_|(refine .ay [0,1,2,4,6,8,9,10,11,17] hK ?_;clear hK K)|(with_reducible refine .done (hK _ ?_);clear hK K)|refine ae.of rfl ?_|(with_reducible refine az.aE (fun h =>?_) (fun h =>?_) <;>try simp only[h])) <;>try simp only[aG,R,simprocAttr])
   all_goals clear R
 ·have hc:=fu hlt;have hge:i=s.br.length:=by omega
  rw[hge,zx3] at hi2;rw[show ir s b=false from hi2];have R:=y6 @hc (y6 @cF aD)
  repeat' ((first |refine ae.aF (by decide +kernel) rfl fun K hK =>?_|(refine .ay [0,1,2,4,6,8,9,10,11,17] hK ?_;clear hK K)|(with_reducible refine .done (hK _ ?_);clear hK K)|refine ae.of rfl ?_|(with_reducible refine az.aE (fun h =>?_) (fun h =>?_) <;>try simp only[h])) <;>try simp only[aG,R,simprocAttr])
  all_goals clear R
def jx(s:ct)(no:Int):Option Nat:=s.br.findIdx? fun r=>decide (r.no=no)
def ku(s:ct)(no:Int):Int:=match jx s no with
 |some i=>(i:Int)
 |none=>-1
theorem GD(s:ct)(no:Int)(hlen:s.br.length≤1000):a8 Tryz.prog 79 [enc s,enc no] (enc (ku s no)):=by
 refine a8.cd Tryz.func79 IU JV Lc (u8 rfl) (fun hwf W0 bF E1 =>?_);simp only[zM,En,bJ,Z1];clear hwf;have R:=y6 @cF (y6 @bh aD)
 repeat' ((first |refine ae.aF (by decide +kernel) rfl fun K hK =>?_|(refine .ay [0,1,2,4,5,6,8,9,10,11,18] hK ?_;clear hK K)|(with_reducible refine .done (hK _ ?_);clear hK K)|refine ae.of rfl ?_|(with_reducible refine az.aE (fun h =>?_) (fun h =>?_) <;>try simp only[h])) <;>try simp only[aG,R,simprocAttr])
 all_goals clear R
 refine ae.loop (fun i:Nat=>av [(1,.int .i64 no),(2,.ptr 2 []),(8,enc s.br),(9,.int .i64 s.br.length),(10,.int .i64 i)] [(2,.box (enc s))]) (fun i=>i≤s.br.length∧∀ k,k<i→∀ h:k<s.br.length,(s.br[k]).no≠no) (fun i=>s.br.length-i) 0 ⟨zy3 _,fun k h=>by omega⟩ ?_ (fun i hi =>?_)
 ·refine bm.cI ?_ ?_ ?_ ?_ <;>simp[b6,cD,cm,cn,aw,bZ,cY,I.only,ao.only,b7]
 obtain ⟨hi1,hi2⟩:=hi;by_cases hlt:i<s.br.length
 ·have hc:=fm hlt;have he:=fun A=>eb (A:=A) 4 hlt rfl;have hw:=fo (i:=i) (by omega);rcases hp:((s.br[i]).no==no)
  ·have R:=y6 @hc (y6 @he (y6 @hp (y6 @hw (y6 @cF aD))))
   repeat' ((first |refine ae.aF (by decide +kernel) rfl fun K hK =>?_|(refine .ay [0,1,2,4,5,6,8,9,10,11,18] hK ?_;clear hK K)|(with_reducible refine .done (hK _ ?_);clear hK K)|refine ae.of rfl ?_|(with_reducible refine az.aE (fun h =>?_) (fun h =>?_) <;>try simp only[h])) <;>try simp only[aG,R,simprocAttr])
   all_goals clear R
   refine ⟨i+1,⟨by omega,fun k hk h =>?_⟩,by omega,?_⟩
   ·by_cases e:k=i
    ·subst e;simpa using hp
    ·exact hi2 k (by omega) h
   ·refine bm.cI ?_ ?_ ?_ ?_ <;>simp[b6,cD,cm,cn,aw,bZ,cY,I.only,ao.only,b7]
  ·have hm:jx s no=some i:=by
    refine List.findIdx?_eq_some_iff_getElem.2 ⟨hlt,by simpa using hp,fun j hj =>?_⟩;simpa using hi2 j hj (by omega)
   rw[show ku s no=(i:Int) by simp[ku,hm]];have R:=y6 @hc (y6 @he (y6 @hp (y6 @cF aD)))
   repeat' ((first |refine ae.aF (by decide +kernel) rfl fun K hK =>?_|(refine .ay [0,1,2,4,5,6,8,9,10,11,18] hK ?_;clear hK K)|(with_reducible refine .done (hK _ ?_);clear hK K)|refine ae.of rfl ?_|(with_reducible refine az.aE (fun h =>?_) (fun h =>?_) <;>try simp only[h])) <;>try simp only[aG,R,simprocAttr])
   all_goals clear R
 ·have hc:=fu hlt;have hm:jx s no=none:=by
   refine List.findIdx?_eq_none_iff.2 fun x hx =>?_;obtain ⟨k,hk,rfl⟩:=List.mem_iff_getElem.1 hx;simpa using hi2 k (by omega) hk
  rw[show ku s no=-1 by simp[ku,hm]];have R:=y6 @hc (y6 @cF aD)
  repeat' ((first |refine ae.aF (by decide +kernel) rfl fun K hK =>?_|(refine .ay [0,1,2,4,5,6,8,9,10,11,18] hK ?_;clear hK K)|(with_reducible refine .done (hK _ ?_);clear hK K)|refine ae.of rfl ?_|(with_reducible refine az.aE (fun h =>?_) (fun h =>?_) <;>try simp only[h])) <;>try simp only[aG,R,simprocAttr])
  all_goals clear R
def gZ(s:ct)(cP no:Int):Int:=match s.bq.find? fun x=>decide (x.cP=cP∧x.no=no) with
 |some x=>x.kind
 |none=>0
theorem uy(s:ct)(cP no:Int)(hlen:s.bq.length≤1000):a8 Tryz.prog 88 [enc s,enc cP,enc no] (enc (gZ s cP no)):=by
 refine a8.cd Tryz.func88 I2 J2 Lk (u8 rfl) (fun hwf W0 bF E1 =>?_);simp only[zT,Ev,bJ,Z1,Nat.reduceAdd];clear hwf;have R:=y6 @cF (y6 @bh aD)
 repeat' ((first |(with_reducible refine .guard (fun hb =>?_) (fun hb =>?_) <;>try simp only[hb])|refine ae.aF (by decide +kernel) rfl fun K hK =>?_|(refine .ay [0,1,2,3,6,8,10,11,12,13,25] hK ?_;clear hK K)|(with_reducible refine .done (hK _ ?_);clear hK K)|refine ae.of rfl ?_|(with_reducible refine az.aE (fun h =>?_) (fun h =>?_) <;>try simp only[h])) <;>try simp only[aG,R,simprocAttr])
 all_goals clear R
 refine ae.loop (fun i:Nat=>av [(1,.int .i64 cP),(2,.int .i64 no),(3,.ptr 3 []),(10,enc s.bq),(11,.int .i64 s.bq.length),(12,.int .i64 i)] [(3,.box (enc s))]) (fun i=>i≤s.bq.length∧((s.bq.take i).find? fun x=>decide (x.cP=cP∧x.no=no))=none) (fun i=>s.bq.length-i) 0 ⟨zy3 _,by simp⟩ ?_ (fun i hi =>?_)
 ·refine bm.cI ?_ ?_ ?_ ?_ <;>simp[b6,cD,cm,cn,aw,bZ,cY,I.only,ao.only,b7]
 obtain ⟨hi1,hi2⟩:=hi;by_cases hlt:i<s.bq.length
 ·have hc:=fm hlt;have he:=fun A=>eb (A:=A) 4 hlt rfl;have hw:=fo (i:=i) (by omega);have hst:(s.bq.take (i+1)).find? (fun x=>decide (x.cP=cP∧x.no=no))=if (s.bq[i]).cP=cP∧(s.bq[i]).no=no then some s.bq[i] else none:=by
   rw[Z9 hlt,List.find?_append,hi2];simp only[Option.none_or,List.find?_cons,List.find?_nil];by_cases h:(s.bq[i]).cP=cP∧(s.bq[i]).no=no
   ·simp[h]
   ·rw[decide_eq_false h,if_neg h]
  rcases hp:((s.bq[i]).cP==cP)
  ·have J:¬ (s.bq[i]).cP=cP:=by simpa using hp
   rw[if_neg (fun h=>J h.1)] at hst;have R:=y6 @hc (y6 @he (y6 @hp (y6 @hw (y6 @cF aD))))
   repeat' ((first |(with_reducible refine .guard (fun hb =>?_) (fun hb =>?_) <;>try simp only[hb])|refine ae.aF (by decide +kernel) rfl fun K hK =>?_|(refine .ay [0,1,2,3,6,8,10,11,12,13,25] hK ?_;clear hK K)|(with_reducible refine .done (hK _ ?_);clear hK K)|refine ae.of rfl ?_|(with_reducible refine az.aE (fun h =>?_) (fun h =>?_) <;>try simp only[h])) <;>try simp only[aG,R,simprocAttr])
   all_goals clear R
   refine ⟨i+1,⟨by omega,hst⟩,by omega,?_⟩;refine bm.cI ?_ ?_ ?_ ?_ <;>simp[b6,cD,cm,cn,aw,bZ,cY,I.only,ao.only,b7]
  ·have J:(s.bq[i]).cP=cP:=by simpa using hp
   rcases hp2:((s.bq[i]).no==no)
   ·have U:¬ (s.bq[i]).no=no:=by simpa using hp2
    rw[if_neg (fun h=>U h.2)] at hst;have R:=y6 @hc (y6 @he (y6 @hp (y6 @hp2 (y6 @hw (y6 @cF aD)))))
    repeat' ((first |(with_reducible refine .guard (fun hb =>?_) (fun hb =>?_) <;>try simp only[hb])|refine ae.aF (by decide +kernel) rfl fun K hK =>?_|(refine .ay [0,1,2,3,6,8,10,11,12,13,25] hK ?_;clear hK K)|(with_reducible refine .done (hK _ ?_);clear hK K)|refine ae.of rfl ?_|(with_reducible refine az.aE (fun h =>?_) (fun h =>?_) <;>try simp only[h])) <;>try simp only[aG,R,simprocAttr])
    all_goals clear R
    refine ⟨i+1,⟨by omega,hst⟩,by omega,?_⟩;refine bm.cI ?_ ?_ ?_ ?_ <;>simp[b6,cD,cm,cn,aw,bZ,cY,I.only,ao.only,b7]
   ·have U:(s.bq[i]).no=no:=by simpa using hp2
    rw[if_pos ⟨J,U⟩] at hst;have hk:gZ s cP no=(s.bq[i]).kind:=by
     have:s.bq.find? (fun x=>decide (x.cP=cP∧x.no=no))=some s.bq[i]:=by
      have e:=congrArg (List.find? fun x=>decide (x.cP=cP∧x.no=no)) (List.take_append_drop (i+1) s.bq);rw[List.find?_append,hst,Option.some_or] at e;exact e.symm
     simp only[gZ,this]
    rw[hk];have R:=y6 @hc (y6 @he (y6 @hp (y6 @hp2 (y6 @cF aD))))
    repeat' ((first |(with_reducible refine .guard (fun hb =>?_) (fun hb =>?_) <;>try simp only[hb])|refine ae.aF (by decide +kernel) rfl fun K hK =>?_|(refine .ay [0,1,2,3,6,8,10,11,12,13,25] hK ?_;clear hK K)|(with_reducible refine .done (hK _ ?_);clear hK K)|refine ae.of rfl ?_|(with_reducible refine az.aE (fun h =>?_) (fun h =>?_) <;>try simp only[h])) <;>try simp only[aG,R,simprocAttr])
    all_goals clear R
 ·have hc:=fu hlt;have hge:i=s.bq.length:=by omega
  rw[hge,zx3] at hi2;rw[show gZ s cP no=0 by simp only[gZ,hi2]];have R:=y6 @hc (y6 @cF aD)
  repeat' ((first |(with_reducible refine .guard (fun hb =>?_) (fun hb =>?_) <;>try simp only[hb])|refine ae.aF (by decide +kernel) rfl fun K hK =>?_|(refine .ay [0,1,2,3,6,8,10,11,12,13,25] hK ?_;clear hK K)|(with_reducible refine .done (hK _ ?_);clear hK K)|refine ae.of rfl ?_|(with_reducible refine az.aE (fun h =>?_) (fun h =>?_) <;>try simp only[h])) <;>try simp only[aG,R,simprocAttr])
  all_goals clear R
def hd(l:List Int)(n:Int):List Int:=l.filter fun x=>x != n
def uB(l:List Int)(n:Int)(t:Nat×List Int):ai:=av [(1,.int .i64 n),(5,.own 905 t.2.length),(8,enc l),(9,.int .i64 l.length),(10,.int .i64 t.1)] [(905,.bU 3 1 (t.2.map enc))]
theorem xZ(l:List Int)(n:Int)(hlen:l.length≤1000):a8 Tryz.prog 110 [enc l,enc n] (enc (hd l n)):=by
 refine a8.cd Tryz.func110 Ib Jh Ko (u8 rfl) (fun hwf W0 bF E1 =>?_);simp only[yZ,Dt,bJ,Z1];clear hwf;have R:=y6 @bh aD
 repeat' ((first |refine ae.aF (by decide +kernel) rfl fun K hK =>?_|(refine .ay [0,1,4,5,7,8,9,10,11,16] hK ?_;clear hK K)|(with_reducible refine .done (hK _ ?_);clear hK K)|refine ae.of rfl ?_|(with_reducible refine az.aE (fun h =>?_) (fun h =>?_) <;>try simp only[h])) <;>try simp only[aG,R,simprocAttr])
 all_goals clear R
 refine ae.loop (uB l n) (fun t=>t.1≤l.length∧t.2=hd (l.take t.1) n) (fun t=>l.length-t.1) (0,[]) ⟨zy3 _,rfl⟩ ?_ ?_
 ·refine bm.nx 5 905 3 1 1 rfl rfl ?_;simp only[uB];refine bm.cI ?_ ?_ ?_ ?_ <;>simp[b6,cD,cm,cn,aw,bZ,cY,I.only,I.cv,ao.only,b7]
 rintro ⟨i,xs⟩ ⟨hi,hxs⟩;simp only at hi hxs;have hxl:xs.length≤i:=by
  rw[hxs,hd];refine zw3 (List.length_filter_le _ _) ?_;rw[zy9];omega
 simp only[uB];by_cases hlt:i<l.length
 ·have hc:=fm hlt;have he:=fun A=>eb (A:=A) 1 hlt rfl;have hw:=fo (i:=i) (by omega);have hsn:hd (l.take (i+1)) n=xs++if l[i] != n then [l[i]] else []:=by
   rw[Z9 hlt,hd,List.filter_append,hxs];simp only[hd,zw4,List.filter_nil]
  obtain ⟨y,hy⟩:∃ y,y=l[i]:=⟨_,rfl⟩
  rw[←hy] at he hsn;have hbs:e7 1 (some [.int .i64 y])=some (enc [y]):=h3 1 y rfl;have hap:=fun (A:ai) d rest=>mA (A:=A) (d:=d) 3 1 8 905 (l:=xs.length) (es:=xs) (ys:=[y]) (rest:=rest) rfl rfl (by simp) (by simp[maxLen];omega) (by simp;omega);rcases q:(y != n)
  ·rw[q,if_neg (by decide),zx4] at hsn;have R:=y6 @hc (y6 @he (y6 @hw (y6 @q (y6 @bh aD))))
   repeat' ((first |refine ae.aF (by decide +kernel) rfl fun K hK =>?_|(refine .ay [0,1,4,5,7,8,9,10,11,16] hK ?_;clear hK K)|(with_reducible refine .done (hK _ ?_);clear hK K)|refine ae.of rfl ?_|(with_reducible refine az.aE (fun h =>?_) (fun h =>?_) <;>try simp only[h])) <;>try simp only[aG,R,simprocAttr])
   all_goals clear R
   refine ⟨(i+1,xs),⟨by simp only;omega,hsn.symm⟩,by simp only;omega,?_⟩;simp only;clear hxs hsn;refine bm.cI ?_ ?_ ?_ ?_ <;>simp[b6,cD,cm,cn,aw,bZ,cY,I.only,ao.only,eE,b7]
  ·rw[q,if_pos rfl] at hsn;have R:=y6 @hc (y6 @he (y6 @hw (y6 @q (y6 @hbs (y6 @hap (y6 @bh aD))))))
   repeat' ((first |refine ae.aF (by decide +kernel) rfl fun K hK =>?_|(refine .ay [0,1,4,5,7,8,9,10,11,16] hK ?_;clear hK K)|(with_reducible refine .done (hK _ ?_);clear hK K)|refine ae.of rfl ?_|(with_reducible refine az.aE (fun h =>?_) (fun h =>?_) <;>try simp only[h])) <;>try simp only[aG,R,simprocAttr])
   all_goals clear R
   refine ⟨(i+1,xs++[y]),⟨by simp only;omega,hsn.symm⟩,by simp only;omega,?_⟩;simp only;clear hxs hsn;refine bm.cI ?_ ?_ ?_ ?_ <;>simp[b6,cD,cm,cn,aw,bZ,cY,I.only,I.cv,ao.only,eE,mR,b7,eC]
 ·have hge:i=l.length:=by omega
  have hc:=fu hlt;have hx2:xs=hd l n:=by rw[hxs,hge,zx3]
  rw[←hx2];have R:=y6 @hc (y6 @vJ (y6 @bh aD))
  repeat' ((first |refine ae.aF (by decide +kernel) rfl fun K hK =>?_|(refine .ay [0,1,4,5,7,8,9,10,11,16] hK ?_;clear hK K)|(with_reducible refine .done (hK _ ?_);clear hK K)|refine ae.of rfl ?_|(with_reducible refine az.aE (fun h =>?_) (fun h =>?_) <;>try simp only[h])) <;>try simp only[aG,R,simprocAttr])
  all_goals clear R
section
variable {α:Type} [Enc α] {P:Program} {ab:List FuncId} {Y:Value→List I→List (Nat×ao)→cK→Prop} {K:ai→Prop} {rest:List aH} {d e esz bytes:Nat}
def kF(esz:Nat)(v:I)(os:List (Nat×ao))(l:List α)(S:List Nat):Prop:=(l=[]∧v=.c0 esz)∨∃ n q,n∈S∧v=.view n [] esz 0 l.length∧aj os n=some (.box (.agg ((l++q).map enc)))
theorem Hi{A:ai}{q:Nat}(z:I){l:List α}(hsz:Enc.sz α=esz)(aq:l≠[])(hf:A.o d=none)(hb:l.length*bytes≤140737488355328)(hml:l.length≤maxLen) :
  ∃ p:Nat→Prop,fN A (some d) e esz bytes z (enc l) rest (.c0 q)=.any p fun m=>aB rest ((A.aT d (.box (.agg (l.map enc++List.replicate m z)))).aS (some d) (.view d [] esz 0 l.length)):=by
 have hne:l.map (enc (α:=α))≠[]:=by simpa using aq
 have J:eJ A esz (.c0 q)=some []:=rfl;refine ⟨fun m=>l.length+m≤maxLen,?_⟩;simp only[fN,J,nk A esz l hsz,e6,if_neg hne,fW,hf,List.length_nil,Z1,Z8,if_pos (y6 hb hml),zy8]
theorem Hh{A:ai}(z:I)(hsz:Enc.sz α=esz){n l:Nat}{xs ys:List α}(hy:ys≠[])(ho:A.o n=some (.box (.agg (xs.map enc))))(aq:l≤xs.length)(hr:xs.length<l+ys.length)(hf:A.o d=none)(hb:(l+ys.length)*bytes≤140737488355328)(hml:l+ys.length≤maxLen) :
  ∃ p:Nat→Prop,fN A (some d) e esz bytes z (enc ys) rest (.view n [] esz 0 l)=.any p fun m=>aB rest ((A.aT d (.box (.agg ((xs.take l).map enc++(ys.map enc++List.replicate m z))))).aS (some d) (.view d [] esz 0 (l+ys.length))):=by
 have J:=tT (A:=A) (esz:=esz) (lo:=0) (k:=l) ho (by omega);have U:(I.agg (xs.map (enc (α:=α)))).at []=some (.agg (xs.map enc)):=rfl;have ar:(xs.take l).length=l:=by rw[zy9];omega
 refine ⟨fun m=>l+ys.length+m≤maxLen,?_⟩;simp only[fN,J,List.drop_zero,nk A esz ys hsz,e6];rw[if_neg (by simpa using hy)];simp only[ho,U,Z8,Z1];rw[if_neg (by omega)];simp only[fW,hf,Z8,ar];rw[if_pos ⟨hb,hml⟩]
theorem BU(z:α){ts:List (Nat×I)}{os:List (Nat×ao)}{v:I}{l ys:List α}{S:List Nat}(hsz:Enc.sz α=esz)(hg:kF esz v os l S)(hf:aj os d=none)(hb:(l.length+ys.length)*bytes≤140737488355328)(hml:l.length+ys.length≤maxLen) :
  (∃ v' os',fN (av ts os) (some d) e esz bytes (enc z) (enc ys) rest v=aB rest (av ((d,v')::ts) os')∧kF esz v' os' (l++ys) (d::S)∧∀ m,m∉d::S→aj os' m=aj os m) ∨
  (∃ p,∃ v':Nat→I,∃ os':Nat→List (Nat×ao),fN (av ts os) (some d) e esz bytes (enc z) (enc ys) rest v=.any p (fun m=>aB rest (av ((d,v' m)::ts) (os' m)))∧∀ k,kF esz (v' k) (os' k) (l++ys) (d::S)∧∀ m,m∉d::S→aj (os' k) m=aj os m):=by
 by_cases hy:ys=[]
 ·subst hy;rw[zx4];rcases hg with ⟨rfl,rfl⟩ | ⟨n,q,hn,rfl,ho⟩
  ·exact .inl ⟨.c0 esz,os,Hj _ hsz,.inl ⟨rfl,rfl⟩,fun _ _=>rfl⟩
  ·refine .inl ⟨_,os,?_,.inr ⟨n,q,List.mem_cons_of_mem _ hn,rfl,ho⟩,fun _ _=>rfl⟩;have J:=tT (A:=av ts os) (esz:=esz) (lo:=0) (k:=l.length) ho (by simp);simp only[fN,J,nk _ esz ([]:List α) hsz,e6,zx0,if_true];rfl
 ·rcases hg with ⟨rfl,rfl⟩ | ⟨n,q,hn,rfl,ho⟩
  ·obtain ⟨p,J⟩:=Hi (A:=av ts os) (rest:=rest) (e:=e) (q:=esz) (enc z) hsz hy hf (by simpa using hb) (by simpa using hml);refine .inr ⟨p,fun m=>.view d [] esz 0 ys.length,fun m=>(d,.box (.agg (ys.map enc++List.replicate m (enc z))))::os,J,fun k=>⟨.inr ⟨d,List.replicate k z,List.mem_cons_self,by simp,?_⟩,fun m hm =>?_⟩⟩
   ·simp[aj]
   ·rw[cY,if_neg (fun h=>by rw[h] at hm;exact hm List.mem_cons_self)]
  ·by_cases hr:l.length+ys.length≤(l++q).length
   ·have J:=yD (A:=av ts os) (rest:=rest) (d:=some d) (e:=e) (bytes:=bytes) (esz:=esz) (enc z) hsz hy ho hr;have e1:(l++q).take l.length++(ys++(l++q).drop (l.length+ys.length))=(l++ys)++q.drop ys.length:=by simp[List.drop_append]
    rw[e1] at J;refine .inl ⟨_,(n,.box (.agg (((l++ys)++q.drop ys.length).map enc)))::os,J,.inr ⟨n,q.drop ys.length,List.mem_cons_of_mem _ hn,by simp,by simp[aj]⟩,fun m hm =>?_⟩;rw[cY,if_neg (fun h=>by rw[h] at hm;exact hm (List.mem_cons_of_mem _ hn))]
   ·obtain ⟨p,J⟩:=Hh (A:=av ts os) (rest:=rest) (d:=d) (e:=e) (bytes:=bytes) (esz:=esz) (enc z) hsz hy ho (by simp) (by omega) hf hb hml;refine .inr ⟨p,fun m=>.view d [] esz 0 (l.length+ys.length),fun m=>(d,.box (.agg (((l++q).take l.length).map enc++(ys.map enc++List.replicate m (enc z)))))::os,J,fun k=>⟨.inr ⟨d,List.replicate k z,List.mem_cons_self,by simp,?_⟩,fun m hm =>?_⟩⟩
    ·simp[aj]
    ·rw[cY,if_neg (fun h=>by rw[h] at hm;exact hm List.mem_cons_self)]
theorem bO.jc(z:α){ts:List (Nat×I)}{os:List (Nat×ao)}{v:I}{l ys:List α}{S:List Nat}(hsz:Enc.sz α=esz)(hg:kF esz v os l S)(hf:aj os d=none)(hb:(l.length+ys.length)*bytes≤140737488355328)(hml:l.length+ys.length≤maxLen)
  (h:∀ v' os',kF esz v' os' (l++ys) (d::S)→(∀ m,m∉d::S→aj os' m=aj os m)→bO P Y ab K (aB rest (av ((d,v')::ts) os'))):bO P Y ab K (fN (av ts os) (some d) e esz bytes (enc z) (enc ys) rest v):=by
 rcases BU (rest:=rest) (e:=e) z hsz hg hf hb hml (ts:=ts) with ⟨v',os',J,U,ah⟩ | ⟨p,v',os',J,U⟩
 ·rw[J];exact h v' os' U ah
 ·rw[J];exact .any fun m _=>h _ _ (U m).1 (U m).2
theorem aR.jc(z:α){ts:List (Nat×I)}{os:List (Nat×ao)}{v:I}{l ys:List α}{S:List Nat}(hsz:Enc.sz α=esz)(hg:kF esz v os l S)(hf:aj os d=none)(hb:(l.length+ys.length)*bytes≤140737488355328)(hml:l.length+ys.length≤maxLen)
  (h:∀ v' os',kF esz v' os' (l++ys) (d::S)→(∀ m,m∉d::S→aj os' m=aj os m)→aR P Y false K (aB rest (av ((d,v')::ts) os'))):aR P Y false K (fN (av ts os) (some d) e esz bytes (enc z) (enc ys) rest v):=by
 rcases BU (rest:=rest) (e:=e) z hsz hg hf hb hml (ts:=ts) with ⟨v',os',J,U,ah⟩ | ⟨p,v',os',J,U⟩
 ·rw[J];exact h v' os' U ah
 ·rw[J];exact .any rfl fun m _=>h _ _ (U m).1 (U m).2
theorem pd(os:List (Nat×ao))(S:List Nat):kF esz (.c0 esz) os ([]:List α) S:=.inl ⟨rfl,rfl⟩
theorem o9{v:I}{os:List (Nat×ao)}{l:List α}{S:List Nat}{A:ai}(hsz:Enc.sz α=esz)(h:kF esz v os l S)(hA:∀ m∈S,A.o m=aj os m):bj true A v=some (enc l):=by
 rcases h with ⟨rfl,rfl⟩ | ⟨n,q,hn,rfl,ho⟩
 ·simp only[bj,hE,zx0,hsz]
 ·have J:bj true A (.view n [] esz 0 l.length)=lK esz 0 l.length (some ((l++q).map enc)):=by
   rw[vM,hA n hn,ho];rfl
  rw[J,vK hsz,List.take_left]
end
def ej:List Int→Int→List Int
 | [],n=>[n]
 |x::l,n=>if x<n then x::ej l n else if x=n then x::l else n::x::l
theorem Dj:∀ (l:List Int) (n:Int) (i:Nat) (h:i<l.length),(∀ k,k<i→∀ hk:k<l.length,l[k]<n)→l[i]=n→ej l n=l
 | [],_,_,h,_,_=>by simp at h
 |x::l,n,0,_,_,U=>by simp at U;simp[ej,U]
 |x::l,n,i+1,h,J,U=>by
  have hx:=J 0 (by omega) (by simp);simp only[List.getElem_cons_zero] at hx;rw[ej,if_pos hx,Dj l n i (by simpa using h) (fun k hk aq=>J (k+1) (by omega) (by simpa using aq)) (by simpa using U)]
theorem xf:∀ (l:List Int) (n:Int) (i:Nat),i≤l.length→(∀ k,k<i→∀ hk:k<l.length,l[k]<n)→(∀ h:i<l.length,n<l[i])→ej l n=l.take i++n::l.drop i
 | [],n,i,h,_,_=>by simp[ej]
 |x::l,n,0,_,_,U=>by
  have:=U (by simp);simp only[List.getElem_cons_zero] at this;simp[ej,show ¬ x<n by omega,show ¬ x=n by omega]
 |x::l,n,i+1,h,J,U=>by
  have hx:=J 0 (by omega) (by simp);simp only[List.getElem_cons_zero] at hx;rw[ej,if_pos hx,xf l n i (by simpa using h) (fun k hk aq=>J (k+1) (by omega) (by simpa using aq)) (fun aq=>U (by simpa using aq))];rfl
theorem xN{α:Type}[Enc α]{A:ai}(esz:Nat){l:List α}{i:Nat}(h:i≤l.length)(ab:Enc.sz α=esz):jZ A esz (some (.int .i64 i)) none none (enc l)=some (enc (l.drop i)):=by
 simp only[jZ,hE,ab,if_true,iP,jk,Z8];rw[if_pos ⟨by omega,by omega,by omega,by omega⟩];simp[List.take_of_length_le]
theorem r5(l:List Int)(n:Int)(aq:l.length≤1000):a8 Tryz.prog 109 [enc l,enc n] (enc (ej l n)):=by
 refine a8.cd Tryz.func109 Ia Jg Kn (u8 rfl) (fun hwf W0 bF E1 =>?_);simp only[yY,Ds,bJ,Z1];clear hwf;have R:=y6 @bh aD
 repeat' ((first |(with_reducible refine .guard (fun hb =>?_) (fun hb =>?_) <;>try simp only[hb])|refine ae.aF (by decide +kernel) rfl fun K hK =>?_|(refine .ay [0,1,4,5,17,31] hK ?_;clear hK K)|(with_reducible refine .done (hK _ ?_);clear hK K)|refine ae.of rfl ?_|(with_reducible refine az.aE (fun h =>?_) (fun h =>?_) <;>try simp only[h])) <;>try simp only[aG,R,simprocAttr])
 all_goals clear R
 refine ae.loop (fun i:Nat=>av [(0,enc l),(1,.int .i64 n),(5,.int .i64 i)] []) (fun i=>i≤l.length∧∀ k,k<i→∀ h:k<l.length,l[k]<n) (fun i=>l.length-i) 0 ⟨zy3 _,fun k h=>by omega⟩ ?_ (fun i hi =>?_)
 ·refine bm.cI ?_ ?_ ?_ ?_ <;>simp[b6,cD,cm,cn,bZ,I.only,b7]
 obtain ⟨hi1,hi2⟩:=hi;by_cases hlt:i<l.length
 ·have hc:=fm hlt;have he:=fun A=>eb (A:=A) 1 hlt rfl;have hw:=fo (i:=i) (by omega);rcases hp:decide (l[i]<n)
  ·have hp0:=of_decide_eq_false hp;rcases hq:(l[i]==n)
   ·have hq0:¬ l[i]=n:=by simpa using hq
    have hm:ej l n=l.take i++n::l.drop i:=xf l n i hi1 hi2 (fun h=>by omega);have R:=y6 @hc (y6 @he (y6 @hp (y6 @hq aD)))
    repeat' ((first |(with_reducible refine .guard (fun hb =>?_) (fun hb =>?_) <;>try simp only[hb])|refine ae.aF (by decide +kernel) rfl fun K hK =>?_|(refine .ay [0,1,4,5,17,31] hK ?_;clear hK K)|(with_reducible refine .done (hK _ ?_);clear hK K)|refine ae.of rfl ?_|(with_reducible refine az.aE (fun h =>?_) (fun h =>?_) <;>try simp only[h])) <;>try simp only[aG,R,simprocAttr])
    all_goals clear R
    refine ae.rB (gs:=qw) [] [(33,[]),(0,[]),(41,[])] [0,1,2,3,5,6,8,9,10,4,7,11,12] (by decide +kernel) (cX.of (by simp[fw,bZ,qU,I.only,b7])) fun K hK =>?_;have hbs:e7 1 (some [.int .i64 n])=some (enc [n]):=h3 1 n rfl
    try simp only[ff,qw,zz7,zz8,xO 1 hi1 rfl,xN 1 hi1 rfl,Option.map_none,zz0,hbs,kB,bG,simprocAttr]
    refine bO.jc (0:Int) rfl (pd _ []) rfl (by simp;omega) (by simp[maxLen];omega) fun v1 o1 g1 f1 =>?_
    try simp only[bG,simprocAttr]
    refine bO.jc (0:Int) rfl g1 (f1 40 (by decide)) (by simp;omega) (by simp[maxLen];omega) fun v2 o2 g2 f2 =>?_
    try simp only[bG,simprocAttr]
    refine bO.jc (0:Int) rfl g2 ((f2 44 (by decide)).trans (f1 44 (by decide))) (by simp;omega) (by simp[maxLen];omega) fun v3 o3 g3 f3 =>?_;have hf:=fun ts=>o9 (A:=av ts o3) rfl g3 fun _ _=>rfl;rw[show ([]++List.take i l++[n]++List.drop i l)=ej l n by rw[hm];simp] at hf
    try simp only[bG,simprocAttr]
    refine .done (hK _ ?_);clear hK K;have R:=y6 @hf aD
    repeat' ((first |(with_reducible refine .guard (fun hb =>?_) (fun hb =>?_) <;>try simp only[hb])|refine ae.aF (by decide +kernel) rfl fun K hK =>?_|(refine .ay [0,1,4,5,17,31] hK ?_;clear hK K)|(with_reducible refine .done (hK _ ?_);clear hK K)|refine ae.of rfl ?_|(with_reducible refine az.aE (fun h =>?_) (fun h =>?_) <;>try simp only[h])) <;>try simp only[aG,R,simprocAttr])
    all_goals clear R
   ·have hm:ej l n=l:=Dj l n i hlt hi2 (by simpa using hq);rw[hm];have R:=y6 @hc (y6 @he (y6 @hp (y6 @hq aD)))
    repeat' ((first |(with_reducible refine .guard (fun hb =>?_) (fun hb =>?_) <;>try simp only[hb])|refine ae.aF (by decide +kernel) rfl fun K hK =>?_|(refine .ay [0,1,4,5,17,31] hK ?_;clear hK K)|(with_reducible refine .done (hK _ ?_);clear hK K)|refine ae.of rfl ?_|(with_reducible refine az.aE (fun h =>?_) (fun h =>?_) <;>try simp only[h])) <;>try simp only[aG,R,simprocAttr])
    all_goals clear R
  ·have R:=y6 @hc (y6 @he (y6 @hp (y6 @hw aD)))
   repeat' ((first |(with_reducible refine .guard (fun hb =>?_) (fun hb =>?_) <;>try simp only[hb])|refine ae.aF (by decide +kernel) rfl fun K hK =>?_|(refine .ay [0,1,4,5,17,31] hK ?_;clear hK K)|(with_reducible refine .done (hK _ ?_);clear hK K)|refine ae.of rfl ?_|(with_reducible refine az.aE (fun h =>?_) (fun h =>?_) <;>try simp only[h])) <;>try simp only[aG,R,simprocAttr])
   all_goals clear R
   refine ⟨i+1,⟨by omega,fun k hk h =>?_⟩,by omega,?_⟩
   ·by_cases e:k=i
    ·subst e;exact of_decide_eq_true hp
    ·exact hi2 k (by omega) h
   ·refine bm.cI ?_ ?_ ?_ ?_ <;>simp[b6,cD,cm,cn,bZ,I.only,b7]
 ·have hc:=fu hlt;have hge:i=l.length:=by omega
  have hm:ej l n=l.take i++n::l.drop i:=xf l n i hi1 hi2 (fun h=>absurd h hlt);have R:=y6 @hc aD
  repeat' ((first |(with_reducible refine .guard (fun hb =>?_) (fun hb =>?_) <;>try simp only[hb])|refine ae.aF (by decide +kernel) rfl fun K hK =>?_|(refine .ay [0,1,4,5,17,31] hK ?_;clear hK K)|(with_reducible refine .done (hK _ ?_);clear hK K)|refine ae.of rfl ?_|(with_reducible refine az.aE (fun h =>?_) (fun h =>?_) <;>try simp only[h])) <;>try simp only[aG,R,simprocAttr])
  all_goals clear R
  refine ae.rB (gs:=qw) [] [(33,[]),(0,[]),(41,[])] [0,1,2,3,5,6,8,9,10,4,7,11,12] (by decide +kernel) (cX.of (by simp[fw,bZ,qU,I.only,b7])) fun K hK =>?_;have hbs:e7 1 (some [.int .i64 n])=some (enc [n]):=h3 1 n rfl
  try simp only[ff,qw,zz7,zz8,xO 1 hi1 rfl,xN 1 hi1 rfl,Option.map_none,zz0,hbs,kB,bG,simprocAttr]
  refine bO.jc (0:Int) rfl (pd _ []) rfl (by simp;omega) (by simp[maxLen];omega) fun v1 o1 g1 f1 =>?_
  try simp only[bG,simprocAttr]
  refine bO.jc (0:Int) rfl g1 (f1 40 (by decide)) (by simp;omega) (by simp[maxLen];omega) fun v2 o2 g2 f2 =>?_
  try simp only[bG,simprocAttr]
  refine bO.jc (0:Int) rfl g2 ((f2 44 (by decide)).trans (f1 44 (by decide))) (by simp;omega) (by simp[maxLen];omega) fun v3 o3 g3 f3 =>?_;have hf:=fun ts=>o9 (A:=av ts o3) rfl g3 fun _ _=>rfl;rw[show ([]++List.take i l++[n]++List.drop i l)=ej l n by rw[hm];simp] at hf
  try simp only[bG,simprocAttr]
  refine .done (hK _ ?_);clear hK K;have R:=y6 @hf aD
  repeat' ((first |(with_reducible refine .guard (fun hb =>?_) (fun hb =>?_) <;>try simp only[hb])|refine ae.aF (by decide +kernel) rfl fun K hK =>?_|(refine .ay [0,1,4,5,17,31] hK ?_;clear hK K)|(with_reducible refine .done (hK _ ?_);clear hK K)|refine ae.of rfl ?_|(with_reducible refine az.aE (fun h =>?_) (fun h =>?_) <;>try simp only[h])) <;>try simp only[aG,R,simprocAttr])
  all_goals clear R
def pN:cC:=⟨0,0,0,false⟩
theorem vm:I.agg [.int .i64 0,.int .i64 0,.int .i64 0,.bool false]=enc pN:=rfl
def xH:gu:=⟨0,0,0,0⟩
theorem Mt:I.agg [.int .i64 0,.int .i64 0,.int .i64 0,.int .i64 0]=enc xH:=rfl
def iZ(s:ct)(i:Nat):ct := { s with br:=s.br.take i++s.br.drop (i+1) }
def jG(v:I):Prop:=v.bT=true∧cg none v=true∧v.aX=.one∧v.size=1
theorem X5(l:List cC):jG (enc l):=⟨ef _,by simp[kc,kb],(eH l).trans nE,by rw[jK,jq]⟩
theorem w4(l:List gu):jG (enc l):=⟨ef _,by simp[kc,kb],(eH l).trans nE,by rw[jK,jq]⟩
theorem pc{α:Type}[Enc α]{esz:Nat}{v:I}{os:List (Nat×ao)}{l:List α}{S:List Nat}(h:kF esz v os l S):jG v:=by
 rcases h with ⟨_,rfl⟩ | ⟨n,q,_,rfl,_⟩ <;>exact ⟨rfl,rfl,rfl,rfl⟩
theorem Zy{a s:Int}{h:List Int}{r e:I}(hr:jG r)(he:jG e):(gC a (enc h) s r e).aX=.eI [.one,.one,.one,.one,.one]:=by
 simp only[gC,I.aX,I.c7,eH,nE,hr.2.2.1,he.2.2.1]
theorem Fp{a s:Int}{h:List Int}{r e:I}(hr:jG r)(he:jG e):cg (some 5) (gC a (enc h) s r e)=true:=by
 simp[cg,gC,I.isAgg,I.size,I.sizes,jK,jq,hr.2.2.2,he.2.2.2]
theorem tY{a s:Int}{h:List Int}{r e:I}(hr:jG r)(he:jG e):cg (some 5) (gC a (enc h) s r e)=true∧(∀ A n rest x y,de A (some 5) n [] (.agg [.int .i64 x,.nils 1,.int .i64 y,.nils 4,.nils 4]) (gC a (enc h) s r e) rest (some (.agg [.int .i64 x,.nils 1,.int .i64 y,.nils 4,.nils 4]))=aB rest (A.aT n (.box (gC a (enc h) s r e)))) :=
 ⟨Fp hr he,fun A n rest x y=>dG rfl (Fp hr he) (Zy hr he)⟩
theorem xR{q:ct}{v:I}(hv:jG v):∀ A n rest,de A none n [3] (enc q) v rest (some (enc q.br))=aB rest (A.aT n (.box (gC q.au (enc q.here) q.dF v (enc q.bq)))) :=
 fun A n rest=>(dG hv.1 hv.2.1 (hv.2.2.1.trans ((eH _).trans nE).symm)).trans rfl
theorem Zx{q:ct}{v:I}(hv:jG v):∀ A n rest,de A none n [4] (enc q) v rest (some (enc q.bq))=aB rest (A.aT n (.box (gC q.au (enc q.here) q.dF (enc q.br) v))) :=
 fun A n rest=>(dG hv.1 hv.2.1 (hv.2.2.1.trans ((eH _).trans nE).symm)).trans rfl
theorem tZ{A:ai}{a s:Int}{h:List Int}{r e:I}{rs:List cC}{es:List gu}(hr:bj true A r=some (enc rs))(he:bj true A e=some (enc es)):bj true A (gC a (enc h) s r e)=some (enc (⟨a,h,s,rs,es⟩:ct)):=by
 have U:∀ k n,bj true A (.int k n)=some (.int k n):=fun k n=>by simp only[bj]
 have ah:bj true A (enc h)=some (enc h):=by simp only[lH]
 simp only[gC,vL,vN,vO,hr,he,U,ah,j8,zz0];rfl
theorem x1(s:ct)(i:Nat)(hi:i<s.br.length)(aq:s.br.length≤1000):a8 Tryz.prog 111 [enc s,enc (i:Int)] (enc (iZ s i)):=by
 refine a8.cd Tryz.func111 Ic Ji Kp (u8 rfl) (fun hwf W0 bF E1 =>?_);simp only[y5,Du,bJ,Z1];clear hwf;have hc:=fm hi;have hw:=fo (i:=i) (by omega);have hle:i≤s.br.length:=by omega
 have af:(s.br.take i).length+(s.br.drop (i+1)).length≤1000:=by rw[zy9,List.length_drop];omega
 have hd0:(s.br.take i).length≤1000:=by omega
 have R:=y6 @hc (y6 @hw (y6 @cF aD))
 repeat' ((first |refine ae.aF (by decide +kernel) rfl fun K hK =>?_|(refine .ay [0,1,2,4] hK ?_;clear hK K)|(with_reducible refine .done (hK _ ?_);clear hK K)|refine ae.of rfl ?_|(with_reducible refine az.aE (fun h =>?_) (fun h =>?_) <;>try simp only[h])) <;>try simp only[aG,R,simprocAttr])
 all_goals clear R
 refine ae.rB (gs:=vS) [] [(5,[])] [0,1,2,3,4,6,7,8,9,10,5,11,12,13] (by decide +kernel) (cX.of (by simp[fw,bZ,qU,I.only])) fun K hK =>?_
 try simp only[ff,vS,zz7,zz8,xO 4 hle rfl,xN 4 (show i+1≤s.br.length by omega) rfl,Option.map_none,zz0,hw,vm,kB,cF,aD,bG,simprocAttr]
 refine bO.jc pN rfl (pd _ []) rfl (by simp;omega) (by simp[maxLen];omega) fun v1 o1 g1 f1 =>?_
 try simp only[bG,simprocAttr]
 refine bO.jc pN rfl g1 (f1 16 (by decide)) (by simp;omega) (by simp[maxLen];omega) fun v2 o2 g2 f2 =>?_;have ho2:aj o2 2=some (.box (enc s)):=(f2 2 (by decide)).trans (f1 2 (by decide));have ho4:aj o2 4=some (.box (.agg [.int .i64 0,.nils 1,.int .i64 0,.nils 4,.nils 4])):=(f2 4 (by decide)).trans (f1 4 (by decide));have ab:=xR (q:=s) (pc g2);have ht:=tY (a:=s.au) (h:=s.here) (s:=s.dF) (pc g2) (w4 s.bq);have hf:∀ ts os,aj os 10=aj o2 10→aj os 16=aj o2 16→bj true (av ts os) (gC s.au (enc s.here) s.dF v2 (enc s.bq))=some (enc (iZ s i)):=fun ts os J U =>
  (tZ (o9 rfl g2 (by intro m hm;simp only[zw5,List.not_mem_nil,or_false] at hm;rcases hm with rfl | rfl;exact U;exact J)) (by simp only[lH])).trans rfl
 try simp only[ho2,ab,cF,aD,bG,simprocAttr]
 refine .done (hK _ ?_);clear hK K;have R:=y6 @ho4 (y6 @ht (y6 @hf (y6 @cF aD)))
 repeat' ((first |refine ae.aF (by decide +kernel) rfl fun K hK =>?_|(refine .ay [0,1,2,4] hK ?_;clear hK K)|(with_reducible refine .done (hK _ ?_);clear hK K)|refine ae.of rfl ?_|(with_reducible refine az.aE (fun h =>?_) (fun h =>?_) <;>try simp only[h])) <;>try simp only[aG,R,simprocAttr])
 all_goals clear R
theorem HU(a b c d:Int):(dQ [.int .i64 0,.int .i64 0,.int .i64 0,.int .i64 0] [(0,.int .i64 a),(1,.int .i64 b),(2,.int .i64 c),(3,.int .i64 d)]).map I.agg=some (enc (⟨a,b,c,d⟩:gu)):=by simp[dQ,I.bT,I.size];rfl
def gb(s:ct)(x:bg):ct := { s with bq:=s.bq++[⟨x.kind,x.other,x.no,x.aK⟩] }
theorem x2(s:ct)(x:bg)(aq:s.bq.length≤1000):a8 Tryz.prog 112 [enc s,enc x] (enc (gb s x)):=by
 refine a8.cd Tryz.func112 Ie Jj Kq (u8 rfl) (fun hwf W0 bF E1 =>?_);simp only[y7,Dv,bJ,Z1];clear hwf;have hbs:∀ y:gu,e7 4 (some [enc y])=some (enc [y]):=fun y=>h3 4 y rfl;have R:=y6 @cF aD
 repeat' ((first |refine ae.aF (by decide +kernel) rfl fun K hK =>?_|(refine .ay [0,1,2,3,4] hK ?_;clear hK K)|(with_reducible refine .done (hK _ ?_);clear hK K)|refine ae.of rfl ?_|(with_reducible refine az.aE (fun h =>?_) (fun h =>?_) <;>try simp only[h])) <;>try simp only[aG,R,simprocAttr])
 all_goals clear R
 refine ae.rB (gs:=vT) [] [(5,[])] [0,1,2,4,5,6,7,8,9,10,11,12,13,3,14,15,16] (by decide +kernel) (cX.of (by simp[fw,bZ,qU,I.only])) fun K hK =>?_
 try simp only[ff,vT,zz7,zz8,zy8,Mt,HU,kB,hbs,cF,aD,bG,simprocAttr]
 refine bO.jc xH rfl (pd _ []) rfl (by simp;omega) (by simp[maxLen];omega) fun v1 o1 g1 f1 =>?_
 try simp only[bG,simprocAttr]
 refine bO.jc xH rfl g1 (f1 19 (by decide)) (by simp;omega) (by simp[maxLen];omega) fun v2 o2 g2 f2 =>?_;have ho2:aj o2 2=some (.box (enc s)):=(f2 2 (by decide)).trans (f1 2 (by decide));have ho4:aj o2 4=some (.box (.agg [.int .i64 0,.nils 1,.int .i64 0,.nils 4,.nils 4])):=(f2 4 (by decide)).trans (f1 4 (by decide));have ab:=Zx (q:=s) (pc g2);have ht:=tY (a:=s.au) (h:=s.here) (s:=s.dF) (X5 s.br) (pc g2);have hf:∀ ts os,aj os 8=aj o2 8→aj os 19=aj o2 19→bj true (av ts os) (gC s.au (enc s.here) s.dF (enc s.br) v2)=some (enc (gb s x)):=fun ts os J U =>
  (tZ (by simp only[lH]) (o9 rfl g2 (by intro m hm;simp only[zw5,List.not_mem_nil,or_false] at hm;rcases hm with rfl | rfl;exact U;exact J))).trans rfl
 try simp only[ho2,ab,cF,aD,bG,simprocAttr]
 refine .done (hK _ ?_);clear hK K;have R:=y6 @ho4 (y6 @ht (y6 @hf (y6 @cF aD)))
 repeat' ((first |refine ae.aF (by decide +kernel) rfl fun K hK =>?_|(refine .ay [0,1,2,3,4] hK ?_;clear hK K)|(with_reducible refine .done (hK _ ?_);clear hK K)|refine ae.of rfl ?_|(with_reducible refine az.aE (fun h =>?_) (fun h =>?_) <;>try simp only[h])) <;>try simp only[aG,R,simprocAttr])
 all_goals clear R
def hh(s:ct)(x:bg):Bool:=match jx s x.no with
 |some i=>match s.br[i]? with
  |some r=>r.to==x.other&&r.aK==x.aK
  |none=>false
 |none=>false
def oR(s:ct)(x:bg):Bool:=match jx s x.no with
 |some i=>match s.br[i]? with
  |some r=>r.dD
  |none=>false
 |none=>false
def atR(s:ct)(x:bg):Nat:=(jx s x.no).getD 0
def cN(s:ct)(x:bg):ct×Bool :=
 if x.kind=1 then if decide (x.aK∈s.here)||ir s x.aK then (s,false) else ({ s with here:=ej s.here x.aK },true)
 else if x.kind=2 then ({ s with here:=hd s.here x.aK },decide (x.aK∈s.here))
 else if x.kind=3 then if x.aK∉s.here∨x.other=s.au∨x.no≠s.dF+1 then (s,false) else ({ s with here:=hd s.here x.aK,dF:=x.no,br:=s.br++[⟨x.no,x.other,x.aK,false⟩] },true)
 else if x.kind=4 then if hh s x && !oR s x then ({ s with br:=s.br.modify (atR s x) fun r => { r with dD:=true } },true) else (s,false)
 else if x.kind=5 then if hh s x then (iZ s (atR s x),true) else (s,false)
 else if x.kind=6 then if hh s x&&oR s x then ({ iZ s (atR s x) with here:=ej s.here x.aK },true) else (s,false)
 else if x.other=s.au∨gZ s x.other x.no≠0 then (s,false)
 else if x.kind=7 then if decide (x.aK∈s.here)||ir s x.aK then (s,false) else (gb { s with here:=ej s.here x.aK } x,true)
 else (gb s x,true)
theorem EW(s:ct)(no:Int):(jx s no=none∧ku s no=-1)∨∃ i,∃ h:i<s.br.length,jx s no=some i∧ku s no=(i:Int)∧(s.br[i]).no=no:=by
 cases h:jx s no with
 |none=>exact .inl ⟨rfl,by simp[ku,h]⟩
 |some i =>
  obtain ⟨J,U,_⟩:=List.findIdx?_eq_some_iff_getElem.1 h;exact .inr ⟨i,J,rfl,by simp[ku,h],of_decide_eq_true U⟩
def kH(s:ct)(x:bg):ai:=av [(2,.ptr 2 []),(3,.ptr 3 []),(4,.ptr 4 []),(5,.bool false),(6,.bool (decide (x.aK∈s.here))),(7,.int .i64 (ku s x.no)),(8,.bool (hh s x))] [(4,.box (.agg [.int .i64 0,.nils 1,.int .i64 0,.nils 4,.nils 4])),(3,.box (enc x)),(2,.box (enc s))]
theorem mW{W0:World}{bF:aP}{n:Nat}{own dk:_}(y:bu)(Q:Exit→ai→Prop)(s:ct)(x:bg)(aq:s.br.length≤1000)
  (h:ae { P:=Tryz.prog,fV:=W0,bF:=bF,n:=n,own:=own,dk:=dk,Y:=dx,lf:=none } y Q (kH s x)) :
  ae { P:=Tryz.prog,fV:=W0,bF:=bF,n:=n,own:=own,dk:=dk,Y:=dx,lf:=none } (.seq (.cu none By) (.seq (.cu none Bz) (.seq (.cu none BA) (.seq (.cu AO BB) y)))) Q (av [(0,enc s),(1,enc x)] []):=by
 have hF1:=yg s.here x.aK;have hF2:=GD s x.no aq;have hg:decide ((-1:Int)≥0)=false:=rfl;unfold kH at h;rcases EW s x.no with ⟨J,U⟩ | ⟨i,hi,J,U,-⟩
 ·have hm:hh s x=false:=by simp only[hh,J]
  rw[U] at hF2 h;rw[hm] at h;have R:=y6 @hg (y6 @cF (y6 @bh aD))
  repeat' ((first |(with_reducible refine .guard (fun hb =>?_) (fun hb =>?_) <;>try simp only[hb])|refine ae.aF (by decide +kernel) rfl fun K hK =>?_|refine .flat _ (hF1) rfl ?_|refine .flat _ (hF2) rfl ?_|(refine .ay [0,1,2,3,4,5,6,7,8,45,46,54,63,73,91,117,128,141,144,149,161,186,190,197] hK ?_;clear hK K)|(with_reducible refine .done (hK _ ?_);clear hK K)|refine ae.of rfl ?_|(with_reducible refine az.aE (fun h =>?_) (fun h =>?_) <;>try simp only[h])) <;>try simp only[aG,R,decide_false,simprocAttr])
  all_goals clear R
  refine ae.sub ?_ h;refine bm.cI ?_ ?_ ?_ ?_ <;>simp[b6,cD,cm,cn,aw,bZ,cY,I.only,I.cv,ao.only,b7]
 ·have hm:hh s x=((s.br[i]).to==x.other&&(s.br[i]).aK==x.aK):=by simp only[hh,J,zz4 hi]
  have hx:(if 0>(i:Int) then 0 else (i:Int))=(i:Int):=if_neg (by omega);have hg2:decide ((i:Int)≥0)=true:=by simp
  have he:=fun A=>eb (A:=A) 4 hi rfl;rw[U] at hF2 h;rw[hm] at h;rcases q1:((s.br[i]).to==x.other)
  ·rw[q1,Bool.false_and] at h;have R:=y6 @hg2 (y6 @hx (y6 @he (y6 @q1 (y6 @cF (y6 @bh aD)))))
   repeat' ((first |(with_reducible refine .guard (fun hb =>?_) (fun hb =>?_) <;>try simp only[hb])|refine ae.aF (by decide +kernel) rfl fun K hK =>?_|refine .flat _ (hF1) rfl ?_|refine .flat _ (hF2) rfl ?_|(refine .ay [0,1,2,3,4,5,6,7,8,45,46,54,63,73,91,117,128,141,144,149,161,186,190,197] hK ?_;clear hK K)|(with_reducible refine .done (hK _ ?_);clear hK K)|refine ae.of rfl ?_|(with_reducible refine az.aE (fun h =>?_) (fun h =>?_) <;>try simp only[h])) <;>try simp only[aG,R,decide_true,simprocAttr])
   all_goals clear R
   refine ae.sub ?_ h;refine bm.cI ?_ ?_ ?_ ?_ <;>simp[b6,cD,cm,cn,aw,bZ,cY,I.only,I.cv,ao.only,b7]
  ·rw[q1,Bool.true_and] at h;have R:=y6 @hg2 (y6 @hx (y6 @he (y6 @q1 (y6 @cF (y6 @bh aD)))))
   repeat' ((first |(with_reducible refine .guard (fun hb =>?_) (fun hb =>?_) <;>try simp only[hb])|refine ae.aF (by decide +kernel) rfl fun K hK =>?_|refine .flat _ (hF1) rfl ?_|refine .flat _ (hF2) rfl ?_|(refine .ay [0,1,2,3,4,5,6,7,8,45,46,54,63,73,91,117,128,141,144,149,161,186,190,197] hK ?_;clear hK K)|(with_reducible refine .done (hK _ ?_);clear hK K)|refine ae.of rfl ?_|(with_reducible refine az.aE (fun h =>?_) (fun h =>?_) <;>try simp only[h])) <;>try simp only[aG,R,decide_true,simprocAttr])
   all_goals clear R
   refine ae.sub ?_ h;refine bm.cI ?_ ?_ ?_ ?_ <;>simp[b6,cD,cm,cn,aw,bZ,cY,I.only,I.cv,ao.only,b7]
structure jH (s:ct):Prop where
 aq:s.br.length≤1000
 bH:s.here.length≤1000
 ab:s.bq.length≤1000
 aW:0≤s.dF
 J:s.dF≤1000
theorem fY(b:Bool):b=false∨b=true:=by cases b <;>simp
theorem Gv(s:ct)(x:bg)(ab:jH s)(hk:x.kind=1):a8 Tryz.prog 76 [enc s,enc x] (.tuple [enc (cN s x).1,enc (cN s x).2]):=by
 refine a8.cd Tryz.func76 mC mD mE (u8 rfl) (fun hwf W0 bF E1 =>?_);simp only[lE,lZ,bJ,Z1];clear hwf;refine mW _ _ s x ab.aq ?_;unfold kH;have hk1:(x.kind==1)=true:=by rw[hk];rfl
 have hF1:=uq s x.aK ab.aq;have hF2:=r5 s.here x.aK ab.bH;rcases fY (decide (x.aK∈s.here)) with q | q
 ·rcases fY (ir s x.aK) with q2 | q2
  ·rw[show cN s x=({ s with here:=ej s.here x.aK },true) by simp only[cN,hk,q,q2];rfl];have R:=y6 @hk1 (y6 @q (y6 @q2 (y6 @cF (y6 @bh aD))))
   repeat' ((first |(with_reducible refine .guard (fun hb =>?_) (fun hb =>?_) <;>try simp only[hb])|refine ae.aF (by decide +kernel) rfl fun K hK =>?_|refine .flat _ (hF1) rfl ?_|refine .lead _ (hF2) ?_|(refine .ay [0,1,2,3,4,5,6,7,8,45,46,54,63,73,91,117,128,141,144,149,161,186,190,197] hK ?_;clear hK K)|(with_reducible refine .done (hK _ ?_);clear hK K)|refine ae.of rfl ?_|(with_reducible refine az.aE (fun h =>?_) (fun h =>?_) <;>try simp only[h])) <;>try simp only[aG,R,simprocAttr])
   all_goals clear R
  ·rw[show cN s x=(s,false) by simp only[cN,hk,q,q2];rfl];have R:=y6 @hk1 (y6 @q (y6 @q2 (y6 @cF (y6 @bh aD))))
   repeat' ((first |(with_reducible refine .guard (fun hb =>?_) (fun hb =>?_) <;>try simp only[hb])|refine ae.aF (by decide +kernel) rfl fun K hK =>?_|refine .flat _ (hF1) rfl ?_|refine .lead _ (hF2) ?_|(refine .ay [0,1,2,3,4,5,6,7,8,45,46,54,63,73,91,117,128,141,144,149,161,186,190,197] hK ?_;clear hK K)|(with_reducible refine .done (hK _ ?_);clear hK K)|refine ae.of rfl ?_|(with_reducible refine az.aE (fun h =>?_) (fun h =>?_) <;>try simp only[h])) <;>try simp only[aG,R,simprocAttr])
   all_goals clear R
 ·rw[show cN s x=(s,false) by simp only[cN,hk,q];rfl];have R:=y6 @hk1 (y6 @q (y6 @cF (y6 @bh aD)))
  repeat' ((first |(with_reducible refine .guard (fun hb =>?_) (fun hb =>?_) <;>try simp only[hb])|refine ae.aF (by decide +kernel) rfl fun K hK =>?_|refine .flat _ (hF1) rfl ?_|refine .lead _ (hF2) ?_|(refine .ay [0,1,2,3,4,5,6,7,8,45,46,54,63,73,91,117,128,141,144,149,161,186,190,197] hK ?_;clear hK K)|(with_reducible refine .done (hK _ ?_);clear hK K)|refine ae.of rfl ?_|(with_reducible refine az.aE (fun h =>?_) (fun h =>?_) <;>try simp only[h])) <;>try simp only[aG,R,simprocAttr])
  all_goals clear R
theorem Gw(s:ct)(x:bg)(ab:jH s)(hk:x.kind=2):a8 Tryz.prog 76 [enc s,enc x] (.tuple [enc (cN s x).1,enc (cN s x).2]):=by
 refine a8.cd Tryz.func76 mC mD mE (u8 rfl) (fun hwf W0 bF E1 =>?_);simp only[lE,lZ,bJ,Z1];clear hwf;refine mW _ _ s x ab.aq ?_;unfold kH;have hk1:(x.kind==1)=false:=by rw[hk];rfl
 have hk2:(x.kind==2)=true:=by rw[hk];rfl
 have hF2:=xZ s.here x.aK ab.bH;rw[show cN s x=({ s with here:=hd s.here x.aK },decide (x.aK∈s.here)) by simp only[cN,hk];rfl];have R:=y6 @hk1 (y6 @hk2 (y6 @cF (y6 @bh aD)))
 repeat' ((first |(with_reducible refine .guard (fun hb =>?_) (fun hb =>?_) <;>try simp only[hb])|refine ae.aF (by decide +kernel) rfl fun K hK =>?_|refine .lead _ (hF2) ?_|(refine .ay [0,1,2,3,4,5,6,7,8,45,46,54,63,73,91,117,128,141,144,149,161,186,190,197] hK ?_;clear hK K)|(with_reducible refine .done (hK _ ?_);clear hK K)|refine ae.of rfl ?_|(with_reducible refine az.aE (fun h =>?_) (fun h =>?_) <;>try simp only[h])) <;>try simp only[aG,R,simprocAttr])
 all_goals clear R
theorem Gx(s:ct)(x:bg)(ab:jH s)(hk:x.kind=3):a8 Tryz.prog 76 [enc s,enc x] (.tuple [enc (cN s x).1,enc (cN s x).2]):=by
 refine a8.cd Tryz.func76 mC mD mE (u8 rfl) (fun hwf W0 bF E1 =>?_);simp only[lE,lZ,bJ,Z1];clear hwf;refine mW _ _ s x ab.aq ?_;unfold kH;have hk1:(x.kind==1)=false:=by rw[hk];rfl
 have hk2:(x.kind==2)=false:=by rw[hk];rfl
 have hk3:(x.kind==3)=true:=by rw[hk];rfl
 have hw:IntKind.i64.wrap (s.dF+1)=s.dF+1:=by have:=ab.aW;have:=ab.J;exact ly _ (by omega) (by omega)
 have hF2:=xZ s.here x.aK ab.bH;have e3:cN s x=if x.aK∉s.here∨x.other=s.au∨x.no≠s.dF+1 then (s,false) else ({ s with here:=hd s.here x.aK,dF:=x.no,br:=s.br++[⟨x.no,x.other,x.aK,false⟩] },true):=by simp only[cN,hk];rfl
 rcases fY (decide (x.aK∈s.here)) with q | q
 ·rw[e3,if_pos (.inl (of_decide_eq_false q))];have R:=y6 @hk1 (y6 @hk2 (y6 @hk3 (y6 @q (y6 @cF (y6 @bh aD)))))
  repeat' ((first |(with_reducible refine .guard (fun hb =>?_) (fun hb =>?_) <;>try simp only[hb])|refine ae.aF (by decide +kernel) rfl fun K hK =>?_|refine .lead _ (hF2) ?_|(refine .ay [0,1,2,3,4,5,6,7,8,45,46,54,63,73,91,117,128,141,144,149,161,186,190,197] hK ?_;clear hK K)|(with_reducible refine .done (hK _ ?_);clear hK K)|refine ae.of rfl ?_|(with_reducible refine az.aE (fun h =>?_) (fun h =>?_) <;>try simp only[h])) <;>try simp only[aG,R,simprocAttr])
  all_goals clear R
 rcases fY (x.other==s.au) with q2 | q2
 rotate_left
 ·rw[e3,if_pos (.inr (.inl (by simpa using q2)))];have R:=y6 @hk1 (y6 @hk2 (y6 @hk3 (y6 @q (y6 @q2 (y6 @cF (y6 @bh aD))))))
  repeat' ((first |(with_reducible refine .guard (fun hb =>?_) (fun hb =>?_) <;>try simp only[hb])|refine ae.aF (by decide +kernel) rfl fun K hK =>?_|refine .lead _ (hF2) ?_|(refine .ay [0,1,2,3,4,5,6,7,8,45,46,54,63,73,91,117,128,141,144,149,161,186,190,197] hK ?_;clear hK K)|(with_reducible refine .done (hK _ ?_);clear hK K)|refine ae.of rfl ?_|(with_reducible refine az.aE (fun h =>?_) (fun h =>?_) <;>try simp only[h])) <;>try simp only[aG,R,simprocAttr])
  all_goals clear R
 rcases fY (x.no != s.dF+1) with q3 | q3
 rotate_left
 ·rw[e3,if_pos (.inr (.inr (by simpa using q3)))];have R:=y6 @hk1 (y6 @hk2 (y6 @hk3 (y6 @q (y6 @q2 (y6 @q3 (y6 @hw (y6 @cF (y6 @bh aD))))))))
  repeat' ((first |(with_reducible refine .guard (fun hb =>?_) (fun hb =>?_) <;>try simp only[hb])|refine ae.aF (by decide +kernel) rfl fun K hK =>?_|refine .lead _ (hF2) ?_|(refine .ay [0,1,2,3,4,5,6,7,8,45,46,54,63,73,91,117,128,141,144,149,161,186,190,197] hK ?_;clear hK K)|(with_reducible refine .done (hK _ ?_);clear hK K)|refine ae.of rfl ?_|(with_reducible refine az.aE (fun h =>?_) (fun h =>?_) <;>try simp only[h])) <;>try simp only[aG,R,simprocAttr])
  all_goals clear R
 have J:x.aK∈s.here:=of_decide_eq_true q;have U:¬ x.other=s.au:=by simpa using q2
 have ah:x.no=s.dF+1:=by simpa using q3
 rw[e3,if_neg (fun h=>h.elim (fun h=>h J) fun h=>h.elim U fun h=>h ah)];have aq:=ab.aq;obtain ⟨q0,hq0⟩:∃ q0:ct,q0 = { s with here:=hd s.here x.aK,dF:=x.no } :=⟨_,rfl⟩
 have hr0:q0.br=s.br:=by rw[hq0]
 have R:=y6 @hk1 (y6 @hk2 (y6 @hk3 (y6 @q (y6 @q2 (y6 @q3 (y6 @hw (y6 @cF (y6 @bh aD))))))))
 repeat' ((first |(with_reducible refine .guard (fun hb =>?_) (fun hb =>?_) <;>try simp only[hb])|refine ae.aF (by decide +kernel) rfl fun K hK =>?_|refine .lead _ (hF2) ?_|(refine .ay [0,1,2,3,4,5,6,7,8,45,46,54,63,73,91,117,128,141,144,149,161,186,190,197] hK ?_;clear hK K)|(with_reducible refine .done (hK _ ?_);clear hK K)|refine ae.of rfl ?_|(with_reducible refine az.aE (fun h =>?_) (fun h =>?_) <;>try simp only[h])) <;>try simp only[aG,R,simprocAttr])
 all_goals clear R
 rw[←hq0];refine ae.rB (gs:=v7) [] [(102,[])] [0,1,2,4,5,6,7,8,9,10,11,3,12,13,14] (by decide +kernel) (cX.of (by simp[fw,bZ,qU,I.only])) fun K hK =>?_;have hbs:∀ y:cC,e7 4 (some [enc y])=some (enc [y]):=fun y=>h3 4 y rfl
 try simp only[ff,v7,zz7,zz8,zy8,vm,sw,kB,hbs,cF,aD,bG,simprocAttr]
 refine bO.jc pN rfl (pd _ []) rfl (by simp[hr0];omega) (by simp[maxLen,hr0];omega) fun v1 o1 g1 f1 =>?_
 try simp only[bG,simprocAttr]
 refine bO.jc pN rfl g1 (f1 114 (by decide)) (by simp[hr0];omega) (by simp[maxLen,hr0];omega) fun v2 o2 g2 f2 =>?_;have ho2:aj o2 2=some (.box (enc q0)):=(f2 2 (by decide)).trans (f1 2 (by decide));have ho4:aj o2 4=some (.box (.agg [.int .i64 0,.nils 1,.int .i64 0,.nils 4,.nils 4])):=(f2 4 (by decide)).trans (f1 4 (by decide));have ab:=xR (q:=q0) (pc g2);have ht:=tY (a:=q0.au) (h:=q0.here) (s:=q0.dF) (pc g2) (w4 q0.bq);have hf:∀ ts os,aj os 105=aj o2 105→aj os 114=aj o2 114→bj true (av ts os) (gC q0.au (enc q0.here) q0.dF v2 (enc q0.bq))=some (enc ({ s with here:=hd s.here x.aK,dF:=x.no,br:=s.br++[⟨x.no,x.other,x.aK,false⟩] } : ct)):=fun ts os J U =>
  (tZ (es:=q0.bq) (o9 rfl g2 (by intro m hm;simp only[zw5,List.not_mem_nil,or_false] at hm;rcases hm with rfl | rfl;exact U;exact J)) (by simp only[lH])).trans (by rw[hq0];rfl)
 try simp only[ho2,ab,cF,aD,bG,simprocAttr]
 refine .done (hK _ ?_);clear hK K;have R:=y6 @ho4 (y6 @ht (y6 @hf (y6 @cF aD)))
 repeat' ((first |(with_reducible refine .guard (fun hb =>?_) (fun hb =>?_) <;>try simp only[hb])|refine ae.aF (by decide +kernel) rfl fun K hK =>?_|(refine .ay [0,1,2,3,4,5,6,7,8,45,46,54,63,73,91,117,128,141,144,149,161,186,190,197] hK ?_;clear hK K)|(with_reducible refine .done (hK _ ?_);clear hK K)|refine ae.of rfl ?_|(with_reducible refine az.aE (fun h =>?_) (fun h =>?_) <;>try simp only[h])) <;>try simp only[aG,R,simprocAttr])
 all_goals clear R
theorem wK{s:ct}{x:bg}(h:hh s x=true):∃ i,∃ h:i<s.br.length,jx s x.no=some i∧ku s x.no=(i:Int)∧atR s x=i∧oR s x=(s.br[i]).dD:=by
 rcases EW s x.no with ⟨J,U⟩ | ⟨i,hi,J,U,-⟩
 ·simp only[hh,J] at h;cases h
 ·exact ⟨i,hi,J,U,by simp only[atR,J];rfl,by simp only[oR,J,zz4 hi]⟩
theorem Cx{α β:Type}(e:α→β)(f:α→α):∀ (l:List α) (i:Nat) (h:i<l.length),(l.map e).set i (e (f l[i]))=(l.modify i f).map e
 |x::l,0,_=>rfl
 |x::l,i+1,h=>by
  have:=Cx e f l i (by simpa using h);simp only[Z3,List.set_cons_succ,List.modify_succ_cons,List.getElem_cons_succ,this]
theorem Zs{A:ai}{n i:Nat}{xs:List cC}{c v:Bool}{rest:List aH}(hi:i<xs.length):de A none n [i,3] (.agg (xs.map enc)) (.bool v) rest (some (.bool c))=aB rest (A.aT n (.box (.agg ((xs.modify i fun r => { r with dD:=v }).map enc)))):=by
 rw[dG (s:=none) (v:=.bool v) (old:=.bool c) rfl rfl rfl];have U:(xs.map (enc (α:=cC)))[i]?=some (enc xs[i]):=by simp[hi]
 have ah:(enc xs[i]:I).ev [3] (.bool v)=enc ({ xs[i] with dD:=v } : cC):=rfl;have ar:(xs.map (enc (α:=cC))).set i (enc ({ xs[i] with dD:=v } : cC))=(xs.modify i fun r => { r with dD:=v }).map enc:=Cx enc (fun r:cC => { r with dD:=v }) xs i hi;simp only[I.ev,U,ah,ar]
theorem Hn{i:Nat}{xs:List cC}(hi:i<xs.length):mB i [3] (some (xs.map enc))=some (.bool (xs[i]).dD):=by
 simp only[mB,zy0,zz4 hi,zz0,oM];rfl
theorem CH{α:Type}(f:α→α):∀ (l r:List α) (i:Nat),i<l.length→(l++r).modify i f=l.modify i f++r
 | [],_,_,h=>by simp at h
 |x::l,r,0,_=>rfl
 |x::l,r,i+1,h=>by
  have:=CH f l r i (by simpa using h);simp only[Z5,List.modify_succ_cons,this]
theorem Gy(s:ct)(x:bg)(ab:jH s)(hk:x.kind=4):a8 Tryz.prog 76 [enc s,enc x] (.tuple [enc (cN s x).1,enc (cN s x).2]):=by
 refine a8.cd Tryz.func76 mC mD mE (u8 rfl) (fun hwf W0 bF E1 =>?_);simp only[lE,lZ,bJ,Z1];clear hwf;refine mW _ _ s x ab.aq ?_;unfold kH;have hk1:(x.kind==1)=false:=by rw[hk];rfl
 have hk2:(x.kind==2)=false:=by rw[hk];rfl
 have hk3:(x.kind==3)=false:=by rw[hk];rfl
 have hk4:(x.kind==4)=true:=by rw[hk];rfl
 rcases fY (hh s x) with q | q
 ·rw[show cN s x=(s,false) by simp only[cN,hk,q];rfl];have R:=y6 @hk1 (y6 @hk2 (y6 @hk3 (y6 @hk4 (y6 @q (y6 @cF (y6 @bh aD))))))
  repeat' ((first |(with_reducible refine .guard (fun hb =>?_) (fun hb =>?_) <;>try simp only[hb])|refine ae.aF (by decide +kernel) rfl fun K hK =>?_|(refine .ay [0,1,2,3,4,5,6,7,8,45,46,54,63,73,91,117,128,141,144,149,161,186,190,197] hK ?_;clear hK K)|(with_reducible refine .done (hK _ ?_);clear hK K)|refine ae.of rfl ?_|(with_reducible refine az.aE (fun h =>?_) (fun h =>?_) <;>try simp only[h])) <;>try simp only[aG,R,simprocAttr])
  all_goals clear R
 ·obtain ⟨i,hi,J,U,ah,ar⟩:=wK q;have he:=fun A=>eb (A:=A) 4 hi rfl;rcases fY (s.br[i]).dD with q2 | q2
  rotate_left
  ·rw[show cN s x=(s,false) by simp only[cN,hk,q,ar,q2];rfl];have R:=y6 @hk1 (y6 @hk2 (y6 @hk3 (y6 @hk4 (y6 @q (y6 @U (y6 @he (y6 @q2 (y6 @cF (y6 @bh aD)))))))))
   repeat' ((first |(with_reducible refine .guard (fun hb =>?_) (fun hb =>?_) <;>try simp only[hb])|refine ae.aF (by decide +kernel) rfl fun K hK =>?_|(refine .ay [0,1,2,3,4,5,6,7,8,45,46,54,63,73,91,117,128,141,144,149,161,186,190,197] hK ?_;clear hK K)|(with_reducible refine .done (hK _ ?_);clear hK K)|refine ae.of rfl ?_|(with_reducible refine az.aE (fun h =>?_) (fun h =>?_) <;>try simp only[h])) <;>try simp only[aG,R,simprocAttr])
   all_goals clear R
  ·rw[show cN s x=({ s with br:=s.br.modify i fun r => { r with dD:=true } },true) by simp only[cN,hk,q,ah,ar,q2];rfl];have R:=y6 @hk1 (y6 @hk2 (y6 @hk3 (y6 @hk4 (y6 @q (y6 @U (y6 @he (y6 @q2 (y6 @vm (y6 @kB (y6 @cF (y6 @bh aD)))))))))))
   repeat' ((first |(with_reducible refine .guard (fun hb =>?_) (fun hb =>?_) <;>try simp only[hb])|refine ae.aF (by decide +kernel) rfl fun K hK =>?_|(refine .ay [0,1,2,3,4,5,6,7,8,45,46,54,63,73,91,117,128,141,144,149,161,186,190,197] hK ?_;clear hK K)|(with_reducible refine .done (hK _ ?_);clear hK K)|refine ae.of rfl ?_|(with_reducible refine az.aE (fun h =>?_) (fun h =>?_) <;>try simp only[h])) <;>try simp only[aG,R,simprocAttr])
   all_goals clear R
   have aq:=ab.aq;refine aR.jc pN rfl (pd _ []) rfl (by simp;omega) (by simp[maxLen];omega) fun v2 o2 g2 f2 =>?_;have hne:s.br≠[]:=fun h=>by rw[h] at hi;simp at hi
   rw[zy8] at g2;rcases g2 with ⟨hz,_⟩ | ⟨n,qq,hn,rfl,hrow⟩
   ·exact absurd hz hne
   rw[zy4] at hn;subst hn;have ho2:aj o2 2=some (.box (enc s)):=f2 2 (by decide);have ho4:aj o2 4=some (.box (.agg [.int .i64 0,.nils 1,.int .i64 0,.nils 4,.nils 4])):=f2 4 (by decide);have hone:jG (.view 133 [] 4 0 s.br.length):=⟨rfl,rfl,rfl,rfl⟩
   have hs3:=xR (q:=s) hone
   try simp only[ho2,hs3,cF,aD,bG,simprocAttr]
   have hof:∀ w,du [.int .i64 s.au,enc s.here,.int .i64 s.dF,.view 133 [] 4 0 s.br.length,enc s.bq] 3 3 w=some w:=fun w=>iG (by simp) (by simp[I.sizes,I.size,jK,jq]);have hok:cg none (.view 133 [] 4 0 s.br.length)=true:=rfl;have hi':i<(s.br++qq).length:=by rw[Z7];omega
   have hv:∀ fs,mK 133 [] 4 0 s.br.length 4 (i:Int) (some fs)=some (.ptr 133 [i]):=fun fs=>by
    have:=Wu (m:=133) (sz:=4) (lo:=0) (l:=s.br.length) (i:=i) (fs:=fs) hi
    rwa [Z1] at this
   have hat:mB i [] (some ((s.br++qq).map enc))=some (enc s.br[i]):=by
    simp only[mB,zy0,zz5 hi,zz4 hi,zz0,oM,yG]
   have hat2:=Hn hi';have hst:=fun A rest c v=>Zs (A:=A) (n:=133) (rest:=rest) (c:=c) (v:=v) hi';simp only[CH _ _ _ _ hi] at hst;have ht:=tY (a:=s.au) (h:=s.here) (s:=s.dF) hone (w4 s.bq);have hf:∀ ts os,aj os 133=some (.box (.agg (((s.br.modify i fun r => { r with dD:=true })++qq).map enc)))→bj true (av ts os) (gC s.au (enc s.here) s.dF (.view 133 [] 4 0 s.br.length) (enc s.bq))=some (enc ({ s with br:=s.br.modify i fun r => { r with dD:=true } } : ct)):=fun ts os J =>
    tZ (rs:=s.br.modify i fun r => { r with dD:=true }) (o9 (esz:=4) (S:=[133]) (os:=os) rfl (.inr ⟨133,qq,zy4.2 rfl,by rw[List.length_modify],J⟩) fun _ _=>rfl) (by simp only[lH])
   have R:=y6 @hrow (y6 @hof (y6 @hv (y6 @hat (y6 @hat2 (y6 @hst (y6 @ho4 (y6 @ht (y6 @hf (y6 @hok (y6 @kB (y6 @cF (y6 @bh aD))))))))))))
   repeat' ((first |(with_reducible refine .guard (fun hb =>?_) (fun hb =>?_) <;>try simp only[hb])|refine ae.aF (by decide +kernel) rfl fun K hK =>?_|(refine .ay [0,1,2,3,4,5,6,7,8,45,46,54,63,73,91,117,128,141,144,149,161,186,190,197] hK ?_;clear hK K)|(with_reducible refine .done (hK _ ?_);clear hK K)|refine ae.of rfl ?_|(with_reducible refine az.aE (fun h =>?_) (fun h =>?_) <;>try simp only[h])) <;>try simp only[aG,R,Z5,simprocAttr])
   all_goals clear R
theorem Gz(s:ct)(x:bg)(ab:jH s)(hk:x.kind=5):a8 Tryz.prog 76 [enc s,enc x] (.tuple [enc (cN s x).1,enc (cN s x).2]):=by
 refine a8.cd Tryz.func76 mC mD mE (u8 rfl) (fun hwf W0 bF E1 =>?_);simp only[lE,lZ,bJ,Z1];clear hwf;refine mW _ _ s x ab.aq ?_;unfold kH;have hk1:(x.kind==1)=false:=by rw[hk];rfl
 have hk2:(x.kind==2)=false:=by rw[hk];rfl
 have hk3:(x.kind==3)=false:=by rw[hk];rfl
 have hk4:(x.kind==4)=false:=by rw[hk];rfl
 have hk5:(x.kind==5)=true:=by rw[hk];rfl
 rcases fY (hh s x) with q | q
 ·rw[show cN s x=(s,false) by simp only[cN,hk,q];rfl];have R:=y6 @hk1 (y6 @hk2 (y6 @hk3 (y6 @hk4 (y6 @hk5 (y6 @q (y6 @cF (y6 @bh aD)))))))
  repeat' ((first |(with_reducible refine .guard (fun hb =>?_) (fun hb =>?_) <;>try simp only[hb])|refine ae.aF (by decide +kernel) rfl fun K hK =>?_|(refine .ay [0,1,2,3,4,5,6,7,8,45,46,54,63,73,91,117,128,141,144,149,161,186,190,197] hK ?_;clear hK K)|(with_reducible refine .done (hK _ ?_);clear hK K)|refine ae.of rfl ?_|(with_reducible refine az.aE (fun h =>?_) (fun h =>?_) <;>try simp only[h])) <;>try simp only[aG,R,simprocAttr])
  all_goals clear R
 ·obtain ⟨i,hi,J,U,ah,ar⟩:=wK q;rw[show cN s x=(iZ s i,true) by simp only[cN,hk,q,ah];rfl];have hF:=x1 s i hi ab.aq;have R:=y6 @hk1 (y6 @hk2 (y6 @hk3 (y6 @hk4 (y6 @hk5 (y6 @q (y6 @U (y6 @cF (y6 @bh aD))))))))
  repeat' ((first |(with_reducible refine .guard (fun hb =>?_) (fun hb =>?_) <;>try simp only[hb])|refine ae.aF (by decide +kernel) rfl fun K hK =>?_|refine .lead _ (hF) ?_|(refine .ay [0,1,2,3,4,5,6,7,8,45,46,54,63,73,91,117,128,141,144,149,161,186,190,197] hK ?_;clear hK K)|(with_reducible refine .done (hK _ ?_);clear hK K)|refine ae.of rfl ?_|(with_reducible refine az.aE (fun h =>?_) (fun h =>?_) <;>try simp only[h])) <;>try simp only[aG,R,simprocAttr])
  all_goals clear R
theorem GA(s:ct)(x:bg)(ab:jH s)(hk:x.kind=6):a8 Tryz.prog 76 [enc s,enc x] (.tuple [enc (cN s x).1,enc (cN s x).2]):=by
 refine a8.cd Tryz.func76 mC mD mE (u8 rfl) (fun hwf W0 bF E1 =>?_);simp only[lE,lZ,bJ,Z1];clear hwf;refine mW _ _ s x ab.aq ?_;unfold kH;have hk1:(x.kind==1)=false:=by rw[hk];rfl
 have hk2:(x.kind==2)=false:=by rw[hk];rfl
 have hk3:(x.kind==3)=false:=by rw[hk];rfl
 have hk4:(x.kind==4)=false:=by rw[hk];rfl
 have hk5:(x.kind==5)=false:=by rw[hk];rfl
 have hk6:(x.kind==6)=true:=by rw[hk];rfl
 rcases fY (hh s x) with q | q
 ·rw[show cN s x=(s,false) by simp only[cN,hk,q];rfl];have R:=y6 @hk1 (y6 @hk2 (y6 @hk3 (y6 @hk4 (y6 @hk5 (y6 @hk6 (y6 @q (y6 @cF (y6 @bh aD))))))))
  repeat' ((first |(with_reducible refine .guard (fun hb =>?_) (fun hb =>?_) <;>try simp only[hb])|refine ae.aF (by decide +kernel) rfl fun K hK =>?_|(refine .ay [0,1,2,3,4,5,6,7,8,45,46,54,63,73,91,117,128,141,144,149,161,186,190,197] hK ?_;clear hK K)|(with_reducible refine .done (hK _ ?_);clear hK K)|refine ae.of rfl ?_|(with_reducible refine az.aE (fun h =>?_) (fun h =>?_) <;>try simp only[h])) <;>try simp only[aG,R,simprocAttr])
  all_goals clear R
 ·obtain ⟨i,hi,J,U,ah,ar⟩:=wK q;have he:=fun A=>eb (A:=A) 4 hi rfl;rcases fY (s.br[i]).dD with q2 | q2
  ·rw[show cN s x=(s,false) by simp only[cN,hk,q,ar,q2];rfl];have R:=y6 @hk1 (y6 @hk2 (y6 @hk3 (y6 @hk4 (y6 @hk5 (y6 @hk6 (y6 @q (y6 @U (y6 @he (y6 @q2 (y6 @cF (y6 @bh aD)))))))))))
   repeat' ((first |(with_reducible refine .guard (fun hb =>?_) (fun hb =>?_) <;>try simp only[hb])|refine ae.aF (by decide +kernel) rfl fun K hK =>?_|(refine .ay [0,1,2,3,4,5,6,7,8,45,46,54,63,73,91,117,128,141,144,149,161,186,190,197] hK ?_;clear hK K)|(with_reducible refine .done (hK _ ?_);clear hK K)|refine ae.of rfl ?_|(with_reducible refine az.aE (fun h =>?_) (fun h =>?_) <;>try simp only[h])) <;>try simp only[aG,R,simprocAttr])
   all_goals clear R
  ·rw[show cN s x=({ iZ s i with here:=ej s.here x.aK },true) by simp only[cN,hk,q,ah,ar,q2];rfl];have hF:=x1 s i hi ab.aq;have hF2:=r5 s.here x.aK ab.bH;have R:=y6 @hk1 (y6 @hk2 (y6 @hk3 (y6 @hk4 (y6 @hk5 (y6 @hk6 (y6 @q (y6 @U (y6 @he (y6 @q2 (y6 @cF (y6 @bh aD)))))))))))
   repeat' ((first |(with_reducible refine .guard (fun hb =>?_) (fun hb =>?_) <;>try simp only[hb])|refine ae.aF (by decide +kernel) rfl fun K hK =>?_|refine .lead _ (hF) ?_|refine .lead _ (hF2) ?_|(refine .ay [0,1,2,3,4,5,6,7,8,45,46,54,63,73,91,117,128,141,144,149,161,186,190,197] hK ?_;clear hK K)|(with_reducible refine .done (hK _ ?_);clear hK K)|refine ae.of rfl ?_|(with_reducible refine az.aE (fun h =>?_) (fun h =>?_) <;>try simp only[h])) <;>try simp only[aG,R,simprocAttr])
   all_goals clear R
theorem GB(s:ct)(x:bg)(ab:jH s)(hk:x.kind=7):a8 Tryz.prog 76 [enc s,enc x] (.tuple [enc (cN s x).1,enc (cN s x).2]):=by
 refine a8.cd Tryz.func76 mC mD mE (u8 rfl) (fun hwf W0 bF E1 =>?_);simp only[lE,lZ,bJ,Z1];clear hwf;refine mW _ _ s x ab.aq ?_;unfold kH;have hk1:(x.kind==1)=false:=by simp;omega
 have hk2:(x.kind==2)=false:=by simp;omega
 have hk3:(x.kind==3)=false:=by simp;omega
 have hk4:(x.kind==4)=false:=by simp;omega
 have hk5:(x.kind==5)=false:=by simp;omega
 have hk6:(x.kind==6)=false:=by simp;omega
 have e1:cN s x=if x.other=s.au∨gZ s x.other x.no≠0 then (s,false)
   else if x.kind=7 then if decide (x.aK∈s.here)||ir s x.aK then (s,false) else (gb { s with here:=ej s.here x.aK } x,true)
   else (gb s x,true):=by
  unfold cN;rw[if_neg (by omega),if_neg (by omega),if_neg (by omega),if_neg (by omega),if_neg (by omega),if_neg (by omega)]
 have hF1:=uy s x.other x.no ab.ab;have hF2:=uq s x.aK ab.aq;have hF3:=r5 s.here x.aK ab.bH;rcases fY (x.other==s.au) with q | q
 rotate_left
 ·rw[e1,if_pos (.inl (by simpa using q))];have R:=y6 @hk1 (y6 @hk2 (y6 @hk3 (y6 @hk4 (y6 @hk5 (y6 @hk6 (y6 @q (y6 @cF (y6 @bh aD))))))))
  repeat' ((first |(with_reducible refine .guard (fun hb =>?_) (fun hb =>?_) <;>try simp only[hb])|refine ae.aF (by decide +kernel) rfl fun K hK =>?_|(refine .ay [0,1,2,3,4,5,6,7,8,45,46,54,63,73,91,117,128,141,144,149,161,186,190,197] hK ?_;clear hK K)|(with_reducible refine .done (hK _ ?_);clear hK K)|refine ae.of rfl ?_|(with_reducible refine az.aE (fun h =>?_) (fun h =>?_) <;>try simp only[h])) <;>try simp only[aG,R,simprocAttr])
  all_goals clear R
 rcases fY (gZ s x.other x.no != 0) with q2 | q2
 rotate_left
 ·rw[e1,if_pos (.inr (by simpa using q2))];have R:=y6 @hk1 (y6 @hk2 (y6 @hk3 (y6 @hk4 (y6 @hk5 (y6 @hk6 (y6 @q (y6 @q2 (y6 @cF (y6 @bh aD)))))))))
  repeat' ((first |(with_reducible refine .guard (fun hb =>?_) (fun hb =>?_) <;>try simp only[hb])|refine ae.aF (by decide +kernel) rfl fun K hK =>?_|refine .flat _ (hF1) rfl ?_|(refine .ay [0,1,2,3,4,5,6,7,8,45,46,54,63,73,91,117,128,141,144,149,161,186,190,197] hK ?_;clear hK K)|(with_reducible refine .done (hK _ ?_);clear hK K)|refine ae.of rfl ?_|(with_reducible refine az.aE (fun h =>?_) (fun h =>?_) <;>try simp only[h])) <;>try simp only[aG,R,simprocAttr])
  all_goals clear R
 rw[e1,if_neg (fun h=>h.elim (by simpa using q) (by simpa using q2))];rw[if_pos hk];have hk7:(x.kind==7)=true:=by rw[hk];rfl
 rcases fY (decide (x.aK∈s.here)) with q3 | q3
 ·rcases fY (ir s x.aK) with q4 | q4
  ·rw[show (if (decide (x.aK∈s.here)||ir s x.aK)=true then ((s,false):ct×Bool) else (gb { s with here:=ej s.here x.aK } x,true))=(gb { s with here:=ej s.here x.aK } x,true) by rw[q3,q4];rfl];have hF4:=x2 { s with here:=ej s.here x.aK } x ab.ab;have R:=y6 @hk1 (y6 @hk2 (y6 @hk3 (y6 @hk4 (y6 @hk5 (y6 @hk6 (y6 @hk7 (y6 @q (y6 @q2 (y6 @q3 (y6 @q4 (y6 @cF (y6 @bh aD))))))))))))
   repeat' ((first |(with_reducible refine .guard (fun hb =>?_) (fun hb =>?_) <;>try simp only[hb])|refine ae.aF (by decide +kernel) rfl fun K hK =>?_|refine .flat _ (hF1) rfl ?_|refine .flat _ (hF2) rfl ?_|refine .lead _ (hF3) ?_|refine .lead _ (hF4) ?_|(refine .ay [0,1,2,3,4,5,6,7,8,45,46,54,63,73,91,117,128,141,144,149,161,186,190,197] hK ?_;clear hK K)|(with_reducible refine .done (hK _ ?_);clear hK K)|refine ae.of rfl ?_|(with_reducible refine az.aE (fun h =>?_) (fun h =>?_) <;>try simp only[h])) <;>try simp only[aG,R,simprocAttr])
   all_goals clear R
  ·rw[show (if (decide (x.aK∈s.here)||ir s x.aK)=true then ((s,false):ct×Bool) else (gb { s with here:=ej s.here x.aK } x,true))=(s,false) by rw[q3,q4];rfl];have R:=y6 @hk1 (y6 @hk2 (y6 @hk3 (y6 @hk4 (y6 @hk5 (y6 @hk6 (y6 @hk7 (y6 @q (y6 @q2 (y6 @q3 (y6 @q4 (y6 @cF (y6 @bh aD))))))))))))
   repeat' ((first |(with_reducible refine .guard (fun hb =>?_) (fun hb =>?_) <;>try simp only[hb])|refine ae.aF (by decide +kernel) rfl fun K hK =>?_|refine .flat _ (hF1) rfl ?_|refine .flat _ (hF2) rfl ?_|(refine .ay [0,1,2,3,4,5,6,7,8,45,46,54,63,73,91,117,128,141,144,149,161,186,190,197] hK ?_;clear hK K)|(with_reducible refine .done (hK _ ?_);clear hK K)|refine ae.of rfl ?_|(with_reducible refine az.aE (fun h =>?_) (fun h =>?_) <;>try simp only[h])) <;>try simp only[aG,R,simprocAttr])
   all_goals clear R
 ·rw[show (if (decide (x.aK∈s.here)||ir s x.aK)=true then ((s,false):ct×Bool) else (gb { s with here:=ej s.here x.aK } x,true))=(s,false) by rw[q3];rfl];have R:=y6 @hk1 (y6 @hk2 (y6 @hk3 (y6 @hk4 (y6 @hk5 (y6 @hk6 (y6 @hk7 (y6 @q (y6 @q2 (y6 @q3 (y6 @cF (y6 @bh aD)))))))))))
  repeat' ((first |(with_reducible refine .guard (fun hb =>?_) (fun hb =>?_) <;>try simp only[hb])|refine ae.aF (by decide +kernel) rfl fun K hK =>?_|refine .flat _ (hF1) rfl ?_|refine .flat _ (hF2) rfl ?_|(refine .ay [0,1,2,3,4,5,6,7,8,45,46,54,63,73,91,117,128,141,144,149,161,186,190,197] hK ?_;clear hK K)|(with_reducible refine .done (hK _ ?_);clear hK K)|refine ae.of rfl ?_|(with_reducible refine az.aE (fun h =>?_) (fun h =>?_) <;>try simp only[h])) <;>try simp only[aG,R,simprocAttr])
  all_goals clear R
theorem GC(s:ct)(x:bg)(ab:jH s)(hk:8≤x.kind∨x.kind<1):a8 Tryz.prog 76 [enc s,enc x] (.tuple [enc (cN s x).1,enc (cN s x).2]):=by
 refine a8.cd Tryz.func76 mC mD mE (u8 rfl) (fun hwf W0 bF E1 =>?_);simp only[lE,lZ,bJ,Z1];clear hwf;refine mW _ _ s x ab.aq ?_;unfold kH;have hk1:(x.kind==1)=false:=by simp;omega
 have hk2:(x.kind==2)=false:=by simp;omega
 have hk3:(x.kind==3)=false:=by simp;omega
 have hk4:(x.kind==4)=false:=by simp;omega
 have hk5:(x.kind==5)=false:=by simp;omega
 have hk6:(x.kind==6)=false:=by simp;omega
 have e1:cN s x=if x.other=s.au∨gZ s x.other x.no≠0 then (s,false)
   else if x.kind=7 then if decide (x.aK∈s.here)||ir s x.aK then (s,false) else (gb { s with here:=ej s.here x.aK } x,true)
   else (gb s x,true):=by
  unfold cN;rw[if_neg (by omega),if_neg (by omega),if_neg (by omega),if_neg (by omega),if_neg (by omega),if_neg (by omega)]
 have hF1:=uy s x.other x.no ab.ab;have hF2:=uq s x.aK ab.aq;have hF3:=r5 s.here x.aK ab.bH;rcases fY (x.other==s.au) with q | q
 rotate_left
 ·rw[e1,if_pos (.inl (by simpa using q))];have R:=y6 @hk1 (y6 @hk2 (y6 @hk3 (y6 @hk4 (y6 @hk5 (y6 @hk6 (y6 @q (y6 @cF (y6 @bh aD))))))))
  repeat' ((first |(with_reducible refine .guard (fun hb =>?_) (fun hb =>?_) <;>try simp only[hb])|refine ae.aF (by decide +kernel) rfl fun K hK =>?_|(refine .ay [0,1,2,3,4,5,6,7,8,45,46,54,63,73,91,117,128,141,144,149,161,186,190,197] hK ?_;clear hK K)|(with_reducible refine .done (hK _ ?_);clear hK K)|refine ae.of rfl ?_|(with_reducible refine az.aE (fun h =>?_) (fun h =>?_) <;>try simp only[h])) <;>try simp only[aG,R,simprocAttr])
  all_goals clear R
 rcases fY (gZ s x.other x.no != 0) with q2 | q2
 rotate_left
 ·rw[e1,if_pos (.inr (by simpa using q2))];have R:=y6 @hk1 (y6 @hk2 (y6 @hk3 (y6 @hk4 (y6 @hk5 (y6 @hk6 (y6 @q (y6 @q2 (y6 @cF (y6 @bh aD)))))))))
  repeat' ((first |(with_reducible refine .guard (fun hb =>?_) (fun hb =>?_) <;>try simp only[hb])|refine ae.aF (by decide +kernel) rfl fun K hK =>?_|refine .flat _ (hF1) rfl ?_|(refine .ay [0,1,2,3,4,5,6,7,8,45,46,54,63,73,91,117,128,141,144,149,161,186,190,197] hK ?_;clear hK K)|(with_reducible refine .done (hK _ ?_);clear hK K)|refine ae.of rfl ?_|(with_reducible refine az.aE (fun h =>?_) (fun h =>?_) <;>try simp only[h])) <;>try simp only[aG,R,simprocAttr])
  all_goals clear R
 rw[e1,if_neg (fun h=>h.elim (by simpa using q) (by simpa using q2))];rw[if_neg (by omega)];have hk7:(x.kind==7)=false:=by simp;omega
 have hF4:=x2 s x ab.ab;have R:=y6 @hk1 (y6 @hk2 (y6 @hk3 (y6 @hk4 (y6 @hk5 (y6 @hk6 (y6 @hk7 (y6 @q (y6 @q2 (y6 @cF (y6 @bh aD))))))))))
 repeat' ((first |(with_reducible refine .guard (fun hb =>?_) (fun hb =>?_) <;>try simp only[hb])|refine ae.aF (by decide +kernel) rfl fun K hK =>?_|refine .flat _ (hF1) rfl ?_|refine .lead _ (hF4) ?_|(refine .ay [0,1,2,3,4,5,6,7,8,45,46,54,63,73,91,117,128,141,144,149,161,186,190,197] hK ?_;clear hK K)|(with_reducible refine .done (hK _ ?_);clear hK K)|refine ae.of rfl ?_|(with_reducible refine az.aE (fun h =>?_) (fun h =>?_) <;>try simp only[h])) <;>try simp only[aG,R,simprocAttr])
 all_goals clear R
theorem Gu(s:ct)(x:bg)(ab:jH s):a8 Tryz.prog 76 [enc s,enc x] (.tuple [enc (cN s x).1,enc (cN s x).2]):=by
 by_cases J:x.kind=1;· exact Gv s x ab J
 by_cases U:x.kind=2;· exact Gw s x ab U
 by_cases ah:x.kind=3;· exact Gx s x ab ah
 by_cases ar:x.kind=4;· exact Gy s x ab ar
 by_cases h5:x.kind=5;· exact Gz s x ab h5
 by_cases h6:x.kind=6;· exact GA s x ab h6
 by_cases h7:x.kind=7;· exact GB s x ab h7
 exact GC s x ab (by omega)
theorem Dk:∀ (l:List Int) (n:Int),(ej l n).length≤l.length+1
 | [],n=>by simp[ej]
 |x::l,n=>by
  have:=Dk l n;simp only[ej];split
  ·simp only[zx7];omega
  ·split <;>simp
theorem WQ(l:List Int)(n:Int):(hd l n).length≤l.length:=List.length_filter_le _ _
theorem Mu(s:ct)(i:Nat):(iZ s i).br.length≤s.br.length:=by
 simp only[iZ,Z7,zy9,List.length_drop];omega
structure kI (s:ct) (i:Nat):Prop where
 aq:s.br.length≤i
 bH:s.here.length≤i
 ab:s.bq.length≤i
 aW:0≤s.dF
 J:s.dF≤i
theorem kI.small{s:ct}{i:Nat}(h:kI s i)(hi:i≤1000):jH s:=by
 obtain ⟨J,U,ah,ar,h5⟩:=h;exact ⟨by omega,by omega,by omega,ar,by omega⟩
theorem kI.next{s:ct}{i:Nat}(h:kI s i)(x:bg)(ht:(cN s x).2=true):kI (cN s x).1 (i+1):=by
 obtain ⟨J,U,ah,ar,h5⟩:=h;have hp:=Dk s.here x.aK;have hq:=WQ s.here x.aK;have he:=Mu s (atR s x);have hm:(s.br.modify (atR s x) fun r => { r with dD:=true }).length=s.br.length:=List.length_modify ..;have e1:(iZ s (atR s x)).here=s.here:=rfl;have e2:(iZ s (atR s x)).bq=s.bq:=rfl;have e3:(iZ s (atR s x)).dF=s.dF:=rfl;unfold cN at ht ⊢;split at ht
 ·rename_i hk;rw[if_pos hk];split at ht
  ·cases ht
  ·rename_i h;rw[if_neg h];exact ⟨by simp only;omega,by simp only;omega,by simp only;omega,ar,by simp only;omega⟩
 rename_i hk;rw[if_neg hk];clear hk;split at ht
 ·rename_i hk;rw[if_pos hk];exact ⟨by simp only;omega,by simp only;omega,by simp only;omega,ar,by simp only;omega⟩
 rename_i hk;rw[if_neg hk];clear hk;split at ht
 ·rename_i hk;rw[if_pos hk];split at ht
  ·cases ht
  ·rename_i h;rw[if_neg h];have:x.no=s.dF+1:=Classical.byContradiction fun hn=>h (.inr (.inr hn));exact ⟨by simp only[Z7,zw1];omega,by simp only;omega,by simp only;omega,by simp only;omega,by simp only;omega⟩
 rename_i hk;rw[if_neg hk];clear hk;split at ht
 ·rename_i hk;rw[if_pos hk];split at ht
  ·rename_i h;rw[if_pos h];exact ⟨by simp only[List.length_modify];omega,by simp only;omega,by simp only;omega,ar,by simp only;omega⟩
  ·cases ht
 rename_i hk;rw[if_neg hk];clear hk;split at ht
 ·rename_i hk;rw[if_pos hk];split at ht
  ·rename_i h;rw[if_pos h];exact ⟨by simp only;omega,by simp only[e1];omega,by simp only[e2];omega,by simp only[e3];omega,by simp only[e3];omega⟩
  ·cases ht
 rename_i hk;rw[if_neg hk];clear hk;split at ht
 ·rename_i hk;rw[if_pos hk];split at ht
  ·rename_i h;rw[if_pos h];exact ⟨by simp only;omega,by simp only;omega,by simp only[e2];omega,by simp only[e3];omega,by simp only[e3];omega⟩
  ·cases ht
 rename_i hk;rw[if_neg hk];clear hk;split at ht
 ·cases ht
 rename_i hk;rw[if_neg hk];clear hk;split at ht
 ·rename_i hk;rw[if_pos hk];split at ht
  ·cases ht
  ·rename_i h;rw[if_neg h];exact ⟨by simp only[gb];omega,by simp only[gb];omega,by simp only[gb,Z7,zw1];omega,ar,by simp only[gb];omega⟩
 ·rename_i hk;rw[if_neg hk];exact ⟨by simp only[gb];omega,by simp only[gb];omega,by simp only[gb,Z7,zw1];omega,ar,by simp only[gb];omega⟩
def fM(s:ct):List bg→ct×Bool
 | []=>(s,true)
 |x::l=>if hl x then (if (cN s x).2 then fM (cN s x).1 l else (s,false)) else (s,false)
def iS(au:Int):ct:=⟨au,[],0,[],[]⟩
def rP(au:Int):I:=.agg [.int .i64 au,.nils 1,.int .i64 0,.nils 4,.nils 4]
theorem HV(au:Int):(dQ [.int .i64 0,.nils 1,.int .i64 0,.nils 4,.nils 4] [(0,.int .i64 au)]).map I.agg=some (rP au):=by simp[dQ,I.bT,I.size];rfl
def r3(b:I)(s:ct):Prop:=(b=rP s.au∧s=iS s.au)∨b=enc s
theorem r3.A9{b:I}{s:ct}(h:r3 b s):cg (some 5) b=true∧(∀ aL A,bj aL A b=some (enc s))∧(∀ A n rest (q:ct),de A (some 5) n [] b (enc q) rest (some b)=aB rest (A.aT n (.box (enc q))))∧(∀ A n rest x y,de A (some 5) n [] (.agg [.int .i64 x,.nils 1,.int .i64 y,.nils 4,.nils 4]) b rest (some (.agg [.int .i64 x,.nils 1,.int .i64 y,.nils 4,.nils 4]))=aB rest (A.aT n (.box b)))∧b.bT=true∧(∀ p,b.only p=true):=by
 rcases h with ⟨rfl,U⟩ | rfl
 ·refine ⟨rfl,fun aL A =>?_,fun A n rest q =>?_,fun A n rest x y=>dG rfl rfl rfl,rfl,fun _=>rfl⟩
  ·rw[U];simp only[rP,bj,b8];rfl
  ·rw[dG (ef _) (by rw[fb];rfl) ((eH _).trans rfl),ot]
 ·refine ⟨by rw[fb];rfl,fun aL A=>by simp only[lH],fun A n rest q =>?_,fun A n rest x y =>?_,ef _,fun _=>b7 _ _⟩
  ·rw[dG (ef _) (by rw[fb];rfl) ((eH _).trans (eH _).symm),ot]
  ·rw[dG (ef _) (by rw[fb];rfl) (eH _),ot]
def uF(p:bt)(n:Nat)(t:Nat×I×ct):ai:=av [(0,enc p),(1,.int .i64 n),(2,.ptr 2 []),(4,.ptr 4 []),(5,.bool false),(6,.ptr 6 []),(7,.int .i64 t.1)] [(6,.box t.2.1),(4,.box (.agg [.int .i64 0,.nils 1,.int .i64 0,.nils 4,.nils 4])),(2,.box (enc p))]
theorem yd(p:bt)(n:Nat)(hn:n≤p.j.length)(aq:n≤200):a8 Tryz.prog 65 [enc p,enc (n:Int)] (.tuple [enc (fM (iS p.au) (p.j.take n)).1,enc (fM (iS p.au) (p.j.take n)).2]):=by
 refine a8.cd Tryz.func65 II JL K2 (u8 rfl) (fun hwf W0 bF E1 =>?_);simp only[zC,Ec,bJ,Z1];clear hwf;generalize hL:p.j.take n=L;have hLl:L.length=n:=by rw[←hL,zy9];omega
 obtain ⟨z1,z2,z3,z4,z5,z6⟩:=r3.A9 (b:=rP p.au) (s:=iS p.au) (.inl ⟨rfl,rfl⟩);have R:=y6 @HV (y6 @z4 (y6 @cF (y6 @eG (y6 @bh aD))))
 repeat' ((first |refine ae.aF (by decide +kernel) rfl fun K hK =>?_|(refine .ay [0,1,2,4,5,6,7,8,9,15,24,37] hK ?_;clear hK K)|(with_reducible refine .done (hK _ ?_);clear hK K)|refine ae.of rfl ?_|(with_reducible refine az.aE (fun h =>?_) (fun h =>?_) <;>try simp only[h])) <;>try simp only[aG,R,simprocAttr])
 all_goals clear R
 refine ae.loop (uF p n) (fun t=>t.1≤n∧fM (iS p.au) L=fM t.2.2 (L.drop t.1)∧kI t.2.2 t.1∧r3 t.2.1 t.2.2) (fun t=>n-t.1) (0,rP p.au,iS p.au) ⟨zy3 _,rfl,⟨zy3 _,zy3 _,zy3 _,Int.le_refl _,Int.le_refl _⟩,.inl ⟨rfl,rfl⟩⟩ ?_ ?_
 ·simp only[uF];clear z1 z2 z3 z4 z5 hL;refine bm.cI ?_ ?_ ?_ ?_ <;>simp[*,b6,cD,cm,cn,aw,bZ,cY,I.only,I.cv,ao.only,b7]
 clear z1 z2 z3 z4 z5 z6;rintro ⟨i,b,s⟩ ⟨hi,hr,hu,hb0⟩;simp only at hi hr hu hb0;obtain ⟨z1,z2,z3,z4,z5,z6⟩:=hb0.A9;simp only[uF];by_cases hlt:i<n
 ·have hc:=fm hlt;have hij:i<p.j.length:=by omega
  have he:=fun A=>eb (A:=A) 4 hij rfl;have hw:=fo (i:=i) (by omega);have hx:L.drop i=p.j[i]::L.drop (i+1):=by
   have U:i<L.length:=by omega
   rw[List.drop_eq_getElem_cons U]
   congr 1
   subst hL;rw[List.getElem_take]
  rw[hx] at hr;obtain ⟨x,hxe⟩:∃ x,x=p.j[i]:=⟨_,rfl⟩
  rw[←hxe] at he hr;have hF1:=F9 x;have hF2:=Gu s x (hu.small (by omega));rcases fY (hl x) with q | q
  ·rw[hr,show fM s (x::L.drop (i+1))=(s,false) by simp only[fM,q];rfl];rw[q] at hF1;have R:=y6 @hc (y6 @he (y6 @z1 (y6 @z2 (y6 @z4 (y6 @cF (y6 @eG (y6 @bh aD)))))))
   repeat' ((first |refine ae.aF (by decide +kernel) rfl fun K hK =>?_|refine .flat _ (hF1) rfl ?_|(refine .ay [0,1,2,4,5,6,7,8,9,15,24,37] hK ?_;clear hK K)|(with_reducible refine .done (hK _ ?_);clear hK K)|refine ae.of rfl ?_|(with_reducible refine az.aE (fun h =>?_) (fun h =>?_) <;>try simp only[h])) <;>try simp only[aG,R,simprocAttr])
   all_goals clear R
  ·rw[q] at hF1;rcases fY (cN s x).2 with q2 | q2
   ·rw[hr,show fM s (x::L.drop (i+1))=(s,false) by simp only[fM,q,q2];rfl];rw[q2] at hF2;have R:=y6 @hc (y6 @he (y6 @z1 (y6 @z2 (y6 @z4 (y6 @cF (y6 @eG (y6 @bh aD)))))))
    repeat' ((first |refine ae.aF (by decide +kernel) rfl fun K hK =>?_|refine .flat _ (hF1) rfl ?_|refine .lead _ (hF2) ?_|(refine .ay [0,1,2,4,5,6,7,8,9,15,24,37] hK ?_;clear hK K)|(with_reducible refine .done (hK _ ?_);clear hK K)|refine ae.of rfl ?_|(with_reducible refine az.aE (fun h =>?_) (fun h =>?_) <;>try simp only[h])) <;>try simp only[aG,R,simprocAttr])
    all_goals clear R
   ·have hu':=hu.next x q2
    have hr':fM (iS p.au) L=fM (cN s x).1 (L.drop (i+1)):=by rw[hr];simp only[fM,q,q2,if_true]
    rw[q2] at hF2;have R:=y6 @hc (y6 @he (y6 @hw (y6 @z1 (y6 @z2 (y6 @z3 (y6 @cF (y6 @eG (y6 @bh aD))))))))
    repeat' ((first |refine ae.aF (by decide +kernel) rfl fun K hK =>?_|refine .flat _ (hF1) rfl ?_|refine .lead _ (hF2) ?_|(refine .ay [0,1,2,4,5,6,7,8,9,15,24,37] hK ?_;clear hK K)|(with_reducible refine .done (hK _ ?_);clear hK K)|refine ae.of rfl ?_|(with_reducible refine az.aE (fun h =>?_) (fun h =>?_) <;>try simp only[h])) <;>try simp only[aG,R,simprocAttr])
    all_goals clear R
    refine ⟨(i+1,enc (cN s x).1,(cN s x).1),⟨by simp only;omega,hr',hu',.inr rfl⟩,by simp only;omega,?_⟩;simp only;clear hr hr' z1 z2 z3 z4 z5 z6;refine bm.cI ?_ ?_ ?_ ?_ <;>simp[b6,cD,cm,cn,aw,bZ,cY,I.only,I.cv,ao.only,b7]
 ·have hc:=fu hlt;have af:L.drop i=[]:=List.drop_eq_nil_of_le (by omega);rw[hr,af,show fM s []=(s,true) from rfl];have R:=y6 @hc (y6 @z1 (y6 @z2 (y6 @z4 (y6 @cF (y6 @eG (y6 @bh aD))))))
  repeat' ((first |refine ae.aF (by decide +kernel) rfl fun K hK =>?_|(refine .ay [0,1,2,4,5,6,7,8,9,15,24,37] hK ?_;clear hK K)|(with_reducible refine .done (hK _ ?_);clear hK K)|refine ae.of rfl ?_|(with_reducible refine az.aE (fun h =>?_) (fun h =>?_) <;>try simp only[h])) <;>try simp only[aG,R,simprocAttr])
  all_goals clear R
def eh(p:bt):ct:=(fM (iS p.au) p.j).1
theorem uw(p:bt)(aq:p.j.length≤200):a8 Tryz.prog 75 [enc p] (enc (eh p)):=by
 refine a8.cd Tryz.func75 IS JT La (u8 rfl) (fun hwf W0 bF E1 =>?_);simp only[zK,El,bJ];clear hwf;have hF:=yd p p.j.length (Z4 _) aq;rw[zx3] at hF;simp only[eh];have R:=y6 @cF (y6 @eG aD)
 repeat' ((first |refine ae.aF (by decide +kernel) rfl fun K hK =>?_|refine .lead _ (hF) ?_|(refine .ay [0,1,2,3] hK ?_;clear hK K)|(with_reducible refine .done (hK _ ?_);clear hK K)|refine ae.of rfl ?_|(with_reducible refine az.aE (fun h =>?_) (fun h =>?_) <;>try simp only[h])) <;>try simp only[aG,R,simprocAttr])
 all_goals clear R
def gv(p:bt):Int:=if dp 0 5 p.au=true∧p.j.length≤200∧dp 0 p.j.length p.eL=true∧(fM (iS p.au) p.j).2=true then 0 else 91
theorem Ga(p:bt):a8 Tryz.prog 24 [enc p] (enc (gv p)):=by
 refine a8.cd Tryz.func24 Iq Ju KL (u8 rfl) (fun hwf W0 bF E1 =>?_);simp only[zi,DR,bJ];clear hwf;have hF1:=yc p.au;have hF2:=r7 p.eL 0 p.j.length;rcases fY (dp 0 5 p.au) with q | q
 ·rw[show gv p=91 from if_neg fun h=>by rw[q] at h;cases h.1];rw[q] at hF1;have R:=y6 @cF (y6 @eG aD)
  repeat' ((first |(with_reducible refine .guard (fun hb =>?_) (fun hb =>?_) <;>try simp only[hb])|refine ae.aF (by decide +kernel) rfl fun K hK =>?_|refine .flat _ (hF1) rfl ?_|(refine .ay [0,1,2,4,23,33] hK ?_;clear hK K)|(with_reducible refine .done (hK _ ?_);clear hK K)|refine ae.of rfl ?_|(with_reducible refine az.aE (fun h =>?_) (fun h =>?_) <;>try simp only[h])) <;>try simp only[aG,R,simprocAttr])
  all_goals clear R
 rw[q] at hF1;rcases fY (decide ((p.j.length:Int)>200)) with q2 | q2
 rotate_left
 ·rw[show gv p=91 from if_neg fun h=>by have:=h.2.1;have:=of_decide_eq_true q2;omega];have R:=y6 @q2 (y6 @cF (y6 @eG aD))
  repeat' ((first |(with_reducible refine .guard (fun hb =>?_) (fun hb =>?_) <;>try simp only[hb])|refine ae.aF (by decide +kernel) rfl fun K hK =>?_|refine .flat _ (hF1) rfl ?_|(refine .ay [0,1,2,4,23,33] hK ?_;clear hK K)|(with_reducible refine .done (hK _ ?_);clear hK K)|refine ae.of rfl ?_|(with_reducible refine az.aE (fun h =>?_) (fun h =>?_) <;>try simp only[h])) <;>try simp only[aG,R,simprocAttr])
  all_goals clear R
 have U:p.j.length≤200:=by have:=of_decide_eq_false q2;omega
 rcases fY (dp 0 p.j.length p.eL) with q3 | q3
 ·rw[show gv p=91 from if_neg fun h=>by rw[q3] at h;cases h.2.2.1];rw[q3] at hF2;have R:=y6 @q2 (y6 @cF (y6 @eG aD))
  repeat' ((first |(with_reducible refine .guard (fun hb =>?_) (fun hb =>?_) <;>try simp only[hb])|refine ae.aF (by decide +kernel) rfl fun K hK =>?_|refine .flat _ (hF1) rfl ?_|refine .flat _ (hF2) rfl ?_|(refine .ay [0,1,2,4,23,33] hK ?_;clear hK K)|(with_reducible refine .done (hK _ ?_);clear hK K)|refine ae.of rfl ?_|(with_reducible refine az.aE (fun h =>?_) (fun h =>?_) <;>try simp only[h])) <;>try simp only[aG,R,simprocAttr])
  all_goals clear R
 rw[q3] at hF2;have hF:=yd p p.j.length (Z4 _) U;rw[zx3] at hF;rcases fY (fM (iS p.au) p.j).2 with q4 | q4
 ·rw[show gv p=91 from if_neg fun h=>by rw[q4] at h;cases h.2.2.2];rw[q4] at hF;have R:=y6 @q2 (y6 @cF (y6 @eG aD))
  repeat' ((first |(with_reducible refine .guard (fun hb =>?_) (fun hb =>?_) <;>try simp only[hb])|refine ae.aF (by decide +kernel) rfl fun K hK =>?_|refine .flat _ (hF1) rfl ?_|refine .flat _ (hF2) rfl ?_|refine .lead _ (hF) ?_|(refine .ay [0,1,2,4,23,33] hK ?_;clear hK K)|(with_reducible refine .done (hK _ ?_);clear hK K)|refine ae.of rfl ?_|(with_reducible refine az.aE (fun h =>?_) (fun h =>?_) <;>try simp only[h])) <;>try simp only[aG,R,simprocAttr])
  all_goals clear R
 ·rw[show gv p=0 from if_pos ⟨q,U,q3,q4⟩];rw[q4] at hF;have R:=y6 @q2 (y6 @cF (y6 @eG aD))
  repeat' ((first |(with_reducible refine .guard (fun hb =>?_) (fun hb =>?_) <;>try simp only[hb])|refine ae.aF (by decide +kernel) rfl fun K hK =>?_|refine .flat _ (hF1) rfl ?_|refine .flat _ (hF2) rfl ?_|refine .lead _ (hF) ?_|(refine .ay [0,1,2,4,23,33] hK ?_;clear hK K)|(with_reducible refine .done (hK _ ?_);clear hK K)|refine ae.of rfl ?_|(with_reducible refine az.aE (fun h =>?_) (fun h =>?_) <;>try simp only[h])) <;>try simp only[aG,R,simprocAttr])
  all_goals clear R
end Go.Proofs.YthbdbocionnfgaaGreatDoor
namespace Go.Proofs.YthbdbocionnfgaaGreatDoor
open Go Go.Abs
theorem CC(l:List Int)(n b:Int):b∈ej l n↔b=n∨b∈l:=by
 induction l with
 |nil=>simp[ej]
 |cons x l ih =>
  simp only[ej];split
  ·simp only[zw5,ih];constructor
   ·rintro (h | h | h) <;>simp[h]
   ·rintro (h | h | h) <;>simp[h]
  ·split
   ·rename_i h;subst h;simp
   ·simp
theorem YA{l:List Int}(h:l.Pairwise (· < ·))(n:Int):(ej l n).Pairwise (· < ·):=by
 induction l with
 |nil=>simp[ej]
 |cons x l ih =>
  obtain ⟨J,U⟩:=List.pairwise_cons.1 h;simp only[ej];split
  ·refine List.pairwise_cons.2 ⟨fun a ha =>?_,ih U⟩;rcases (CC l n a).1 ha with rfl | ha
   ·assumption
   ·exact J a ha
  ·split
   ·exact h
   ·refine List.pairwise_cons.2 ⟨fun a ha =>?_,h⟩;rcases zw5.1 ha with rfl | ha
    ·omega
    ·have:=J a ha;omega
theorem W7(l:List Int)(n b:Int):b∈hd l n↔b∈l∧b≠n:=by simp[hd]
theorem WR{l:List Int}(h:l.Pairwise (· < ·))(n:Int):(hd l n).Pairwise (· < ·):=h.filter _
def mi(x:bg):gu:=⟨x.kind,x.other,x.no,x.aK⟩
structure dC (s:aC) (t:ct):Prop where
 au:t.au=s.au
 here:∀ b,b∈t.here↔b∈s.here
 pS:t.here.Pairwise (· < ·)
 dF:t.dF=s.all.length
 br:t.br=s.br
 bq:t.bq=s.bq.map mi
 nO:∀ x∈s.bq,x.kind≠0
 no:∀ i,i<s.all.length→(s.b9 i).no=(i:Int)+1
 cE:s.aQ.Pairwise (· < ·)
 ok:cG s
theorem dC.zero(au:Int):dC (eU au) (iS au):=⟨rfl,fun b=>by simp[eU,iS],by simp[iS],rfl,rfl,rfl,fun x hx=>by simp[eU] at hx,fun i hi=>by simp[eU] at hi,by simp[eU],kV au⟩
theorem dC.AP{s:aC}{t:ct}(h:dC s t)(b:Int):decide (b∈t.here)=decide (b∈s.here):=by simp only[h.here]
theorem dC.Hq{s:aC}{t:ct}(h:dC s t)(b:Int):ir t b=s.fh b:=by simp only[ir,aC.fh,h.br]
theorem dC.WB{s:aC}{t:ct}(h:dC s t)(x:bg):(gZ t x.other x.no≠0)↔eN x∈s.dV:=by
 have hk:=h.nO;simp only[gZ,h.bq,aC.dV];revert hk;generalize s.bq=l;intro hk
 induction l with
 |nil=>simp
 |cons y l ih =>
  have ih':=ih fun z hz=>hk z (List.mem_cons_of_mem _ hz);simp only[Z3,List.find?_cons,zw5];by_cases e:(mi y).cP=x.other∧(mi y).no=x.no
  ·rw[decide_eq_true e];simp only;have e2:eN x=eN y:=by
    simp only[mi] at e;simp only[eN,e.1,e.2]
   exact ⟨fun _=>.inl e2,fun _=>hk y List.mem_cons_self⟩
  ·rw[decide_eq_false e];refine Iff.trans ih' ?_;constructor
   ·exact .inr
   ·rintro (h | h)
    ·exfalso;apply e
     simp only[eN,ji.mk.injEq] at h;simp only[mi,h.1,h.2,and_self]
    ·exact h
theorem dC.ZM{s:aC}{t:ct}(h:dC s t)(x:bg):(s.unknown x=true)↔¬ (x.other=t.au∨gZ t x.other x.no≠0):=by
 rw[h.WB,h.au];simp only[aC.unknown,t8,bne_iff_ne,ne_eq,Bool.not_eq_true',decide_eq_false_iff_not,not_or]
theorem dC.bJ{s:aC}{t:ct}(h:dC s t)(no:Int):(s.at no=none∧jx t no=none)∨∃ k,∃ hk:k<s.aQ.length,s.at no=some s.aQ[k]∧jx t no=some k:=by
 have hno:∀ i∈s.aQ,(s.b9 i).no=(i:Int)+1:=fun i hi=>h.no i (h.ok.cE i hi);simp only[aC.at,jx,h.br,aC.br];revert hno;generalize s.aQ=l;intro hno
 induction l with
 |nil=>exact .inl ⟨rfl,rfl⟩
 |cons i l ih =>
  have hi:=hno i List.mem_cons_self;simp only[List.find?_cons,Z3,List.findIdx?_cons,hi];by_cases e:no=(i:Int)+1
  ·exact .inr ⟨0,by simp,by simp[e],by simp[e]⟩
  ·have e':¬ (i:Int)+1=no:=fun h=>e h.symm;rw[decide_eq_false e,decide_eq_false e'];rcases ih fun j hj=>hno j (List.mem_cons_of_mem _ hj) with ⟨J,U⟩ | ⟨k,hk,J,U⟩
   ·exact .inl ⟨J,by simp[U]⟩
   ·exact .inr ⟨k+1,by simpa using hk,by simpa using J,by simp[U]⟩
theorem dC.ib{s:aC}{t:ct}(h:dC s t)(x:bg):(s.on x=none∧hh t x=false)∨∃ k,∃ hk:k<s.aQ.length,s.on x=some s.aQ[k]∧hh t x=true∧atR t x=k∧oR t x=(s.b9 s.aQ[k]).dD:=by
 rcases h.bJ x.no with ⟨J,U⟩ | ⟨k,hk,J,U⟩
 ·exact .inl ⟨by simp only[aC.on,J],by simp only[hh,U]⟩
 ·have hr:t.br[k]?=some (s.b9 s.aQ[k]):=by rw[h.br,aC.br,zy0,zz4 hk];rfl
  by_cases e:(s.b9 s.aQ[k]).to=x.other∧(s.b9 s.aQ[k]).aK=x.aK
  ·exact .inr ⟨k,hk,by simp only[aC.on,J,if_pos e],by simp[hh,U,hr,e.1,e.2],by simp[atR,U],by simp[oR,U,hr]⟩
  ·refine .inl ⟨by simp only[aC.on,J,if_neg e],?_⟩;simp only[hh,U,hr,Bool.and_eq_false_iff,beq_eq_false_iff_ne,ne_eq];by_cases e1:(s.b9 s.aQ[k]).to=x.other
   ·exact .inr fun e2=>e ⟨e1,e2⟩
   ·exact .inl e1
theorem My{l:List Nat}(h:l.Nodup)(k:Nat)(hk:k<l.length):l.erase l[k]=l.take k++l.drop (k+1):=by
 induction l generalizing k with
 |nil=>simp at hk
 |cons x l ih =>
  cases k with
  |zero=>simp
  |succ k =>
   obtain ⟨J,U⟩:=List.nodup_cons.1 h;have hk':k<l.length:=by simpa using hk
   have:¬ x=l[k]:=fun e=>J (e▸zx8 hk');simp only[List.getElem_cons_succ,zy5,List.drop_succ_cons,Z5];rw[List.erase_cons_tail (by simpa using this),ih U k hk']
theorem W6(l:List Int)(n b:Int):b∈gO l n↔b=n∨b∈l:=by
 unfold gO;split
 ·constructor
  ·exact .inr
  ·rintro (rfl | h)
   ·assumption
   ·exact h
 ·simp only[zy7,zy4];exact Or.comm
theorem Y5{s:aC}(ab:cG s)(r:cC)(h:List Int):({ s with here:=h,all:=s.all++[r],aQ:=s.aQ++[s.all.length] } : aC).br=s.br++[r]:=by
 simp only[aC.br,zz3,Z3,zx0,aC.b9]
 congr 1
 ·refine List.map_congr_left fun i hi =>?_
  show (s.all++[r]).getD i default=s.all.getD i default
  simp only[Z0,zz5 (ab.cE i hi)]
 ·simp
theorem Y6{s:aC}(ab:cG s){k:Nat}(hk:k<s.aQ.length):({ s with all:=s.all.set s.aQ[k] { s.b9 s.aQ[k] with dD:=true } } : aC).br=s.br.modify k fun r => { r with dD:=true } :=by
 have aq:=ab.cE;have hn:=ab.iF;refine List.ext_getElem (by simp[aC.br]) fun j J U =>?_;have hj:j<s.aQ.length:=by simpa[aC.br] using J
 rw[List.getElem_modify];simp only[aC.br,List.getElem_map,aC.b9,Z0];by_cases e:k=j
 ·subst e;rw[if_pos rfl,List.getElem?_set_self (aq _ (zx8 hk))];rfl
 ·have hne:s.aQ[k]≠s.aQ[j]:=fun e'=>e ((List.getElem_inj hn).1 e');rw[if_neg e,List.getElem?_set_ne hne]
theorem dC.AV{s:aC}{t:ct}(h:dC s t){k:Nat}(hk:k<s.aQ.length):dC { s with aQ:=s.aQ.erase s.aQ[k] } (iZ t k):=by
 have hr:(iZ t k).br=({ s with aQ:=s.aQ.erase s.aQ[k] } : aC).br:=by
  simp only[iZ,h.br,aC.br,My h.ok.iF k hk,zz3,List.map_take,List.map_drop];rfl
 exact ⟨h.au,h.here,h.pS,h.dF,hr,h.bq,h.nO,h.no,h.cE.sublist List.erase_sublist,⟨fun i hi=>h.ok.cE i (List.mem_of_mem_erase hi),h.ok.iF.erase _,h.ok.af⟩⟩
theorem dC.put{s:aC}{t:ct}(h:dC s t)(b:Int):dC { s with here:=gO s.here b } { t with here:=ej t.here b } :=
 ⟨h.au,fun c=>by simp only[CC,W6,h.here],YA h.pS b,h.dF,h.br,h.bq,h.nO,h.no,h.cE,⟨h.ok.cE,h.ok.iF,nw h.ok.af⟩⟩
theorem dC.nR{s:aC}{t:ct}(h:dC s t)(b:Int):dC { s with here:=s.here.erase b } { t with here:=hd t.here b } :=
 ⟨h.au,fun c=>by simp only[W7,h.here,h.ok.af.mem_erase_iff];exact And.comm,WR h.pS b,h.dF,h.br,h.bq,h.nO,h.no,h.cE,⟨h.ok.cE,h.ok.iF,h.ok.af.erase _⟩⟩
theorem dC.Fi{s:aC}{t:ct}(h:dC s t){x:bg}(hx:x.kind≠0):dC { s with bq:=s.bq++[x] } (gb t x) :=
 ⟨h.au,h.here,h.pS,h.dF,h.br,by simp only[gb,h.bq,zz3];rfl,fun y hy=>by
  rcases zy7.1 hy with hy | hy
  ·exact h.nO y hy
  ·rw[zy4.1 hy];exact hx,h.no,h.cE,⟨h.ok.cE,h.ok.iF,h.ok.af⟩⟩
theorem dC.step{s:aC}{t:ct}(h:dC s t){x:bg}(hx:hl x=true):match eQ s x with
  |some s'=>(cN t x).2=true∧dC s' (cN t x).1
  |none=>(cN t x).2=false:=by
 have hk:1≤x.kind∧x.kind≤8:=by
  simp only[hl] at hx;split at hx
  ·omega
  ·split at hx
   ·omega
   ·cases hx
 have hb:=h.here x.aK;have af:=h.AP x.aK;have ha:=h.Hq x.aK;simp only[eQ,cN,af,ha];by_cases k1:x.kind=1
 ·simp only[if_pos k1];by_cases c:x.aK∈s.here∨s.fh x.aK=true
  ·have c2:(decide (x.aK∈s.here)||s.fh x.aK)=true:=by simpa using c
   simp only[if_pos c,if_pos c2]
  ·have c2:¬ (decide (x.aK∈s.here)||s.fh x.aK)=true:=by simpa using c
   simp only[if_neg c,if_neg c2];exact ⟨trivial,h.put _⟩
 simp only[if_neg k1];by_cases k2:x.kind=2
 ·simp only[if_pos k2];by_cases c:x.aK∈s.here
  ·simp only[if_pos c,decide_eq_true c];exact ⟨trivial,h.nR _⟩
  ·simp only[if_neg c,decide_eq_false c]
 simp only[if_neg k2];by_cases k3:x.kind=3
 ·simp only[if_pos k3];by_cases c:x.aK∈s.here∧x.other≠s.au∧x.no=(s.all.length:Int)+1
  ·have c2:¬ (x.aK∉t.here∨x.other=t.au∨x.no≠t.dF+1):=by
    rw[hb,h.au,h.dF];rintro (c' | c' | c')
    ·exact c' c.1
    ·exact c.2.1 c'
    ·exact c' c.2.2
   simp only[if_pos c,if_neg c2];have aq:=h.nR x.aK;refine ⟨trivial,h.au,aq.here,aq.pS,by simp only[Z7,zw1,c.2.2];omega,?_,h.bq,h.nO,fun i hi =>?_,?_,?_⟩
   ·rw[Y5 h.ok,h.br]
   ·simp only[Z7,zw1] at hi;by_cases e:i<s.all.length
    ·have:=h.no i e;rw[←this];simp only[aC.b9,Z0,zz5 e]
    ·have e2:i=s.all.length:=by omega
     subst e2;simp only[aC.b9,Z0];simp[c.2.2]
   ·refine List.pairwise_append.2 ⟨h.cE,by simp,fun a ha b hb =>?_⟩;rw[zy4.1 hb];exact h.ok.cE a ha
   ·have hn:eQ s x=some { s with here:=s.here.erase x.aK,all:=s.all++[⟨x.no,x.other,x.aK,false⟩],aQ:=s.aQ++[s.all.length] } :=by
     simp only[eQ,if_neg k1,if_neg k2,if_pos k3,if_pos c]
    exact (h.ok.next hn).1
  ·have c2:x.aK∉t.here∨x.other=t.au∨x.no≠t.dF+1:=by
    rw[hb,h.au,h.dF];by_cases c1:x.aK∈s.here
    ·by_cases c3:x.other=s.au
     ·exact .inr (.inl c3)
     ·exact .inr (.inr fun e=>c ⟨c1,c3,e⟩)
    ·exact .inl c1
   simp only[if_neg c,if_pos c2]
 simp only[if_neg k3];by_cases k4:x.kind=4
 ·simp only[if_pos k4];rcases h.ib x with ⟨J,U⟩ | ⟨k,hk',J,U,ah,ar⟩
  ·simp only[J,U];rfl
  ·simp only[J,U,ah,ar];rcases Bool.eq_false_or_eq_true (s.b9 s.aQ[k]).dD with c | c
   ·rw[c];rfl
   ·rw[c];refine ⟨rfl,h.au,h.here,h.pS,h.dF.trans (by simp),?_,h.bq,h.nO,fun i hi =>?_,h.cE,?_⟩
    ·show t.br.modify k _=_
     rw[Y6 h.ok hk',h.br]
    ·have hi':i<s.all.length:=by simpa using hi
     simp only[aC.b9,Z0,List.getElem?_set];split
     ·rename_i e;rw[if_pos (e▸hi')];simp only[Option.getD_some,e];have:=h.no i hi';simpa only[aC.b9,Z0] using this
     ·have:=h.no i hi';simpa only[aC.b9,Z0] using this
    ·have hn:eQ s x=some { s with all:=s.all.set s.aQ[k] { s.b9 s.aQ[k] with dD:=true } } :=by
      simp only[eQ,if_neg k1,if_neg k2,if_neg k3,if_pos k4,J,c];rfl
     exact (h.ok.next hn).1
 simp only[if_neg k4];by_cases k5:x.kind=5
 ·simp only[if_pos k5];rcases h.ib x with ⟨J,U⟩ | ⟨k,hk',J,U,ah,ar⟩
  ·simp only[J,U];rfl
  ·simp only[J,U,ah];exact ⟨rfl,h.AV hk'⟩
 simp only[if_neg k5];by_cases k6:x.kind=6
 ·simp only[if_pos k6];rcases h.ib x with ⟨J,U⟩ | ⟨k,hk',J,U,ah,ar⟩
  ·simp only[J,U];rfl
  ·simp only[J,U,ah,ar];rcases Bool.eq_false_or_eq_true (s.b9 s.aQ[k]).dD with c | c
   ·rw[c];exact ⟨rfl,(h.AV hk').put x.aK⟩
   ·rw[c];rfl
 simp only[if_neg k6];have hu:=h.ZM x;by_cases c:x.other=t.au∨gZ t x.other x.no≠0
 ·have hu':¬ s.unknown x=true:=fun bH=>hu.1 bH c;simp only[if_pos c];by_cases k7:x.kind=7
  ·rw[if_pos k7,if_neg fun bH=>hu' bH.1];trivial
  ·rw[if_neg k7,if_pos (by omega),if_neg hu'];trivial
 ·have hu':s.unknown x=true:=hu.2 c;simp only[if_neg c];by_cases k7:x.kind=7
  ·simp only[if_pos k7];by_cases c2:(decide (x.aK∈s.here)||s.fh x.aK)=true
   ·have hn:¬ (s.unknown x=true∧x.aK∉s.here∧s.fh x.aK=false):=fun bH=>by
     simp only[Bool.or_eq_true,decide_eq_true_eq] at c2;rcases c2 with c2 | c2
     ·exact bH.2.1 c2
     ·rw[bH.2.2] at c2;cases c2
    simp only[if_pos c2,if_neg hn]
   ·have c3:=c2;simp only[Bool.or_eq_true,decide_eq_true_eq,not_or,Bool.not_eq_true] at c3;have hn:s.unknown x=true∧x.aK∉s.here∧s.fh x.aK=false:=⟨hu',c3.1,c3.2⟩
    simp only[if_neg c2,if_pos hn];exact ⟨trivial,(h.put x.aK).Fi (by omega)⟩
  ·simp only[if_neg k7];rw[if_pos (by omega),if_pos hu'];exact ⟨trivial,h.Fi (by omega)⟩
theorem dC.run:∀ (l:List bg) {s:aC} {t:ct},dC s t→match ga s l with
  |some s'=>(fM t l).2=true∧dC s' (fM t l).1
  |none=>(fM t l).2=false
 | [],s,t,h=>⟨rfl,h⟩
 |x::l,s,t,h=>by
  simp only[ga,fM,gD];by_cases hx:hl x=true
  ·have ab:=h.step hx;rw[if_pos hx,if_pos hx];cases hn:eQ s x with
   |none=>rw[hn] at ab;simp only at ab ⊢;rw[ab];rfl
   |some s' =>
    rw[hn] at ab;simp only at ab ⊢;rw[ab.1,if_pos rfl];exact dC.run l ab.2
  ·rw[if_neg hx,if_neg hx]
theorem X8(p:bt):match cZ p with
  |some s=>gv p=0∧dC s (eh p)
  |none=>gv p=91:=by
 have hr:=dC.run p.j (dC.zero p.au);simp only[cZ,fL,gv];by_cases hk:iH p=true
 ·have hk':=hk;simp only[iH,t8,decide_eq_true_eq] at hk';rw[if_pos hk];cases hq:ga (eU p.au) p.j with
  |none=>rw[hq] at hr;simp only at hr ⊢;rw[if_neg fun h=>by rw[hr] at h;cases h.2.2.2]
  |some s=>rw[hq] at hr;exact ⟨if_pos ⟨hk'.1,hk'.2.1,hk'.2.2,hr.1⟩,hr.2⟩
 ·rw[if_neg hk];refine if_neg fun h=>hk ?_;simp only[iH,t8,decide_eq_true_eq];exact ⟨h.1,h.2.1,h.2.2.1⟩
end Go.Proofs.YthbdbocionnfgaaGreatDoor
namespace Go.Proofs.YthbdbocionnfgaaGreatDoor
open Go Go.Abs
open Go.Abs.Enc (enc)
theorem E7:∀ (l:List bg) {s:ct} {i:Nat},kI s i→(fM s l).2=true→kI (fM s l).1 (i+l.length)
 | [],s,i,h,_=>h
 |x::l,s,i,h,hr=>by
  simp only[fM] at hr ⊢;split at hr
  ·split at hr
   ·rename_i J U;rw[if_pos J,if_pos U];have:=E7 l (h.next x U) hr;rw[zx7,show i+(l.length+1)=i+1+l.length by omega];exact this
   ·cases hr
  ·cases hr
theorem Zw(au:Int):kI (iS au) 0:=⟨Z4 _,Z4 _,Z4 _,Int.le_refl _,Int.le_refl _⟩
theorem oS{p:bt}(h:gv p=0):dp 0 5 p.au=true∧p.j.length≤200∧dp 0 p.j.length p.eL=true∧(fM (iS p.au) p.j).2=true:=by
 simp only[gv] at h;split at h
 ·assumption
 ·cases h
theorem wU{p:bt}(h:gv p=0):jH (eh p)∧kI (eh p) p.j.length:=by
 obtain ⟨_,U,_,ar⟩:=oS h;have:=E7 p.j (Zw p.au) ar;rw[Z1] at this;exact ⟨this.small (by omega),this⟩
theorem both(p:bt):(cZ p=none∧gv p=91)∨∃ s,cZ p=some s∧gv p=0∧dC s (eh p)∧jH (eh p)∧p.j.length≤200:=by
 have h:=X8 p;cases ho:cZ p with
 |none=>rw[ho] at h;exact .inl ⟨rfl,h⟩
 |some s=>rw[ho] at h;exact .inr ⟨s,rfl,h.1,h.2,(wU h.1).1,(oS h.1).2.1⟩
theorem vR:(∀ (a b:Int) (h:List Int) (r:List cC) (e:List gu),ke 1 1 none (some [.int .i64 a,enc h,.int .i64 b,enc r,enc e])=some (enc h))∧(∀ (a b:Int) (h:List Int) (r:List cC) (e:List gu),ke 2 2 none (some [.int .i64 a,enc h,.int .i64 b,enc r,enc e])=some (.int .i64 b))∧(∀ (a b:Int) (h:List Int) (r:List cC) (e:List gu),ke 3 3 none (some [.int .i64 a,enc h,.int .i64 b,enc r,enc e])=some (enc r)) :=
 ⟨fun a b h r e=>by
  have J:du [.int .i64 a,enc h,.int .i64 b,enc r,enc e] 1 1 (enc h)=some (enc h):=iG (by simp) rfl;simp[ke,J,Abs.nY,kc,kb],fun a b h r e=>by
  have J:du [.int .i64 a,enc h,.int .i64 b,enc r,enc e] 2 2 (.int .i64 b)=some (.int .i64 b):=iG (by simp) (by simp[I.sizes,I.size,jK,jq]);simp[ke,J,Abs.nY];rfl,fun a b h r e=>by
  have J:du [.int .i64 a,enc h,.int .i64 b,enc r,enc e] 3 3 (enc r)=some (enc r):=iG (by simp) (by simp[I.sizes,I.size,jK,jq]);simp[ke,J,Abs.nY,kc,kb]⟩
end Go.Proofs.YthbdbocionnfgaaGreatDoor
namespace Go.Proofs.YthbdbocionnfgaaGreatDoor
open Go Go.Abs Go.Shelf
open Go.Abs.Enc (enc)
def WJ:Go.Shelf.Ren:=⟨fun | 171=>119 | 243=>144 | 246=>159 | 283=>170 | 284=>171 | 285=>172 | 286=>173 | 129=>143 | 317=>182 | 318=>183 | 319=>184 | 320=>185 | 337=>190 | 338=>191 | n=>n,fun | 3=>3 | 9=>9 | 2=>2 | 4=>4 | 171=>198 | 0=>0 | 53=>171 | 37=>172 | 5=>5 | 173=>200 | 212=>209 | 51=>169 | 20=>20 | 213=>210 | 46=>151 | 232=>223 | 233=>224 | n=>n,fun | 17=>3 | 18=>6 | 19=>7 | n=>n⟩
theorem WI:Go.Proofs.LaysM.n171 Tryz.prog WJ := {
 mixed:=by kernel_rfl
 f129:=Tryz.func143.trans (congrArg some (by kernel_rfl))
 f171:=Tryz.func119.trans (congrArg some (by kernel_rfl))
 f243:=Tryz.func144.trans (congrArg some (by kernel_rfl))
 f246:=Tryz.func159.trans (congrArg some (by kernel_rfl))
 f283:=Tryz.func170.trans (congrArg some (by kernel_rfl))
 f284:=Tryz.func171.trans (congrArg some (by kernel_rfl))
 f285:=Tryz.func172.trans (congrArg some (by kernel_rfl))
 f286:=Tryz.func173.trans (congrArg some (by kernel_rfl))
 f317:=Tryz.func182.trans (congrArg some (by kernel_rfl))
 f318:=Tryz.func183.trans (congrArg some (by kernel_rfl))
 f319:=Tryz.func184.trans (congrArg some (by kernel_rfl))
 f320:=Tryz.func185.trans (congrArg some (by kernel_rfl))
 f337:=Tryz.func190.trans (congrArg some (by kernel_rfl))
 f338:=Tryz.func191.trans (congrArg some (by kernel_rfl))
 t0:=Tryz.underlying0
 a0:=Tryz.isAgg0
 z0:=Tryz.sizeOf0
 v0:=Tryz.zeroValue0
 t2:=Tryz.underlying2
 a2:=Tryz.isAgg2
 z2:=Tryz.sizeOf2
 v2:=Tryz.zeroValue2
 t3:=Tryz.underlying3
 a3:=Tryz.isAgg3
 z3:=Tryz.sizeOf3
 v3:=Tryz.zeroValue3
 t4:=Tryz.underlying4
 a4:=Tryz.isAgg4
 z4:=Tryz.sizeOf4
 v4:=Tryz.zeroValue4
 t5:=Tryz.underlying5
 a5:=Tryz.isAgg5
 z5:=Tryz.sizeOf5
 v5:=Tryz.zeroValue5
 t9:=Tryz.underlying9
 a9:=Tryz.isAgg9
 z9:=Tryz.sizeOf9
 v9:=Tryz.zeroValue9
 t20:=Tryz.underlying20
 a20:=Tryz.isAgg20
 z20:=Tryz.sizeOf20
 v20:=Tryz.zeroValue20
 t37:=Tryz.underlying172
 a37:=Tryz.isAgg172
 z37:=Tryz.sizeOf172
 v37:=Tryz.zeroValue172
 t46:=Tryz.underlying151
 a46:=Tryz.isAgg151
 z46:=Tryz.sizeOf151
 v46:=Tryz.zeroValue151
 t51:=Tryz.underlying169
 a51:=Tryz.isAgg169
 z51:=Tryz.sizeOf169
 v51:=Tryz.zeroValue169
 t53:=Tryz.underlying171
 a53:=Tryz.isAgg171
 z53:=Tryz.sizeOf171
 v53:=Tryz.zeroValue171
 t171:=Tryz.underlying198
 a171:=Tryz.isAgg198
 z171:=Tryz.sizeOf198
 v171:=Tryz.zeroValue198
 t173:=Tryz.underlying200
 a173:=Tryz.isAgg200
 z173:=Tryz.sizeOf200
 v173:=Tryz.zeroValue200
 t212:=Tryz.underlying209
 a212:=Tryz.isAgg209
 z212:=Tryz.sizeOf209
 v212:=Tryz.zeroValue209
 t213:=Tryz.underlying210
 a213:=Tryz.isAgg210
 z213:=Tryz.sizeOf210
 t232:=Tryz.underlying223
 a232:=Tryz.isAgg223
 z232:=Tryz.sizeOf223
 v232:=Tryz.zeroValue223
 t233:=Tryz.underlying224
 a233:=Tryz.isAgg224
 z233:=Tryz.sizeOf224
 v233:=Tryz.zeroValue224
 g17:=by kernel_rfl
 g18:=by kernel_rfl
 g19:=by kernel_rfl
 i0:=by kernel_rfl
 i2:=by kernel_rfl
 i3:=by kernel_rfl
 i4:=by kernel_rfl
 i5:=by kernel_rfl
 i9:=by kernel_rfl
 i20:=by kernel_rfl
 i37:=by kernel_rfl
 i46:=by kernel_rfl
 i51:=by kernel_rfl
 i53:=by kernel_rfl
 i171:=by kernel_rfl
 i173:=by kernel_rfl
 i212:=by kernel_rfl
 i232:=by kernel_rfl
 i233:=by kernel_rfl
 m17:=by kernel_rfl
 m18:=by kernel_rfl
 m19:=by kernel_rfl }
open Go.RowKit Go.Sort Go.Lib in
theorem strconv_Itoa (n : Int) (aW : -9223372036854775808 ≤ n) (J : n ≤ 9223372036854775807) (w : World) (htab : Lib.TabIs Tryz.prog w "internal/strconv.uint64pow10" .u64 Lib.pow10Tab) :
  Calls Tryz.prog 119 #[.int .i64 n] w fun e w'=>e=.returned (.string ⟨(Lib.itoa n).toArray⟩)∧∃ k os,w'=grow (w.drewN k) os:=Any.strconv_Itoa WI n aW J w htab
structure fj where
 b:ByteArray
 deriving DecidableEq
instance:Enc fj where
 enc s:=.bQ s.b
 sz:=1
 aX:=.one
 gU:=false
 done _:=rfl
 size _:=by simp[I.size]
 iO _:=by simp[I.aX]
 agg _:=rfl
def mL(n:Int):fj:=⟨⟨(Lib.itoa n).toArray⟩⟩
open Go.Sort Go.RowKit in
theorem yL(w:World)(k:Nat)(os:Array Obj):Go.RowKit.Below w.heap.size w (grow (w.drewN k) os) :=
 ⟨rfl,rfl,rfl,by simp,fun i hi=>by rw[heap_grow_old _ _ (by simpa using hi)];rfl⟩
theorem FR(n:Int):a8 Tryz.prog 119 [enc n] (enc (mL n)):=by
 refine ⟨Ig,fun w D vs aq hD hv =>?_⟩;have hv':aI w D dk [.int .i64 n] vs:=hv;simp only[aI] at hv';obtain ⟨v,rest,cs,rfl,J,U,rfl⟩:=hv';obtain ⟨rfl,ah,ar⟩:=eV (ju J U);have h3':-9223372036854775808≤n:=ah;have h4':n≤9223372036854775807:=ar;have hg:Tryz.prog.globalNamed wv=some 3:=by kernel_rfl
 have htab:=(aq 3 hg).2;refine (strconv_Itoa n h3' h4' w htab).mono ?_;rintro e w' ⟨rfl,k,os,rfl⟩;refine ⟨_,D,rfl,⟨[.string ⟨(Lib.itoa n).toArray⟩],by simp[bD,I.isAgg,enc],?_⟩,yL w k os,fun b o af=>Nat.lt_of_lt_of_le (hD b o af) (yL w k os).size,fun _ _ h _=>h⟩;have hlen:=Lib.itoa_length_le n h3' h4'
 show al _ _ _ (.bQ _) _
 simp only[al];refine ⟨rfl,?_⟩
 show (Lib.itoa n).toArray.size≤maxLen
 simp only[List.size_toArray,maxLen];omega
end Go.Proofs.YthbdbocionnfgaaGreatDoor
namespace Go.Proofs.YthbdbocionnfgaaGreatDoor
open Go Go.Abs
open Go.Abs.Enc (enc)
def ox:fj:=⟨⟨#[32]⟩⟩
def rf:fj:=⟨⟨#[10]⟩⟩
def jn(a b:fj):fj:=⟨a.b++b.b⟩
theorem qf(a b:fj):(jn a b).b.size=a.b.size+b.b.size:=by simp[jn]
theorem sh(a b:fj)(h:a.b.size+b.b.size≤9223372036854775807):cH .add (.bQ a.b) (.bQ b.b)=some (.bQ (jn a b).b):=by
 simp only[cH,if_pos h,jn]
theorem Cc{n:Int}(h:IntKind.i64.min≤n∧n≤IntKind.i64.max):(mL n).b.size≤21:=by
 have:=Lib.itoa_length_le n h.1 h.2
 show (Lib.itoa n).toArray.size≤21
 simpa using this
def jA(w:fj)(l:List Int)(i:Nat):fj:=(l.take i).foldl (fun a n=>jn a (jn ox (mL n))) w
def mf(w:fj)(l:List Int):fj:=jn (jA w l l.length) rf
theorem E0(w:fj){l:List Int}{i:Nat}(h:i<l.length):jA w l (i+1)=jn (jA w l i) (jn ox (mL l[i])):=by
 simp only[jA,Z9 h,List.foldl_append,List.foldl_cons,List.foldl_nil]
theorem xw(w:fj){l:List Int}(aq:∀ x∈l,IntKind.i64.min≤x∧x≤IntKind.i64.max):∀ i,i≤l.length→(jA w l i).b.size≤w.b.size+22*i
 |0,_=>by simp[jA]
 |i+1,h=>by
  have J:=xw w aq i (by omega);have U:=Cc (aq l[i] (zx8 _));rw[E0 w (by omega),qf,qf];have ah:ox.b.size=1:=rfl;omega
theorem uz(w:fj)(l:List Int)(hb:w.b.size+22*l.length≤1000000000000):a8 Tryz.prog 93 [enc w,enc l] (enc (mf w l)):=by
 refine a8.cd Tryz.func93 I4 J4 Lm (u8 rfl) (fun hwf W0 bF E1 =>?_);simp only[zV,Ey,bJ,Z1];have hlen:l.length≤maxLen:=((lv l).1 hwf.2.1).1;have hwl:∀ x∈l,IntKind.i64.min≤x∧x≤IntKind.i64.max:=fun x hx=>((lv l).1 hwf.2.1).2 x hx;simp only[maxLen] at hlen;have ab:=xw w hwl;refine .gA (by decide +kernel) fun K hK =>?_;simp only[BH,bG,simprocAttr];refine .done (hK _ ?_);clear hK K;refine ae.seq ?_;refine .gA (by decide +kernel) fun K hK =>?_;simp only[BI,bG,simprocAttr]
 try simp only[kA,bG,simprocAttr]
 refine .done (hK _ ?_);clear hK K;refine ae.block (ae.loop (fun i:Nat=>av [(0,enc (jA w l i)),(7,enc l),(8,.int .i64 l.length),(9,.int .i64 i)] []) (fun i=>i≤l.length) (fun i=>l.length-i) 0 (zy3 _) ?_ (fun i hi =>?_))
 ·refine bm.cI ?_ ?_ ?_ ?_ <;>simp[b6,cD,cm,cn,bZ,I.only,b7]
  all_goals rfl
 ·refine .gA (by decide +kernel) fun K hK =>?_;simp only[BJ,bG,simprocAttr];refine .done (hK _ ?_);clear hK K;refine ae.seq ?_;refine ae.jN ?_;simp only[az,bG,simprocAttr];refine ⟨fun h =>?_,fun h =>?_⟩
  ·have hlt:i<l.length:=by simpa using h
   refine ae.skip ?_;try simp only[ez,simprocAttr]
   refine ae.seq (ae.block ?_);refine .gA (by decide +kernel) fun K hK =>?_;simp only[BK,bG,simprocAttr]
   try simp only[eb 1 hlt rfl,bG,simprocAttr]
   refine .done (hK _ ?_);clear hK K;refine .kn (by decide +kernel) fun K hK =>?_;simp only[BL,bG,simprocAttr];refine .flat _ (FR l[i]) rfl ?_;have J:=Cc (hwl l[i] (zx8 _));have U:=ab i hi;have ah:ox.b.size=1:=rfl
   try simp only[show (I.bQ ⟨#[32]⟩)=I.bQ ox.b from rfl,show (enc (mL l[i]):I)=.bQ (mL l[i]).b from rfl,show (enc (jA w l i):I)=.bQ (jA w l i).b from rfl,sh ox (mL l[i]) (by omega),sh (jA w l i) (jn ox (mL l[i])) (by rw[qf];omega),bG,simprocAttr]
   refine .done (hK _ ?_);clear hK K;try simp only[ez,jI]
   refine .kn (by decide +kernel) fun K hK =>?_;simp only[BM,bG,simprocAttr];refine .done (hK _ ?_);clear hK K;try simp only[ez]
   refine ⟨i+1,by omega,by omega,?_⟩;rw[ly _ (by omega) (by omega),E0 w hlt];refine bm.cI ?_ ?_ ?_ ?_ <;>simp[b6,cD,cm,cn,bZ,I.only,b7]
   all_goals rfl
  ·have hge:i=l.length:=by simp at h;omega
   subst hge;refine ae.exit ?_;try simp only[ez,jI,simprocAttr]
   have U:=ab l.length (Z4 _);have ah:rf.b.size=1:=rfl;refine .gA (by decide +kernel) fun K hK =>?_;simp only[BN,bG,simprocAttr]
   try simp only[show (I.bQ ⟨#[10]⟩)=I.bQ rf.b from rfl,show (enc (jA w l l.length):I)=.bQ (jA w l l.length).b from rfl,sh (jA w l l.length) rf (by omega),bG,simprocAttr]
   refine .done (hK _ ?_);clear hK K;refine ae.ret ?_;simp only[bG,simprocAttr];rfl
def lx:List fj:=[⟨⟨#[]⟩⟩,⟨⟨#[112,111,117,110,100]⟩⟩,⟨⟨#[114,101,108,101,97,115,101]⟩⟩,⟨⟨#[115,101,110,100]⟩⟩,⟨⟨#[99,97,108,108]⟩⟩,⟨⟨#[100,111,110,101]⟩⟩,⟨⟨#[98,97,99,107]⟩⟩,⟨⟨#[116,97,107,101]⟩⟩,⟨⟨#[114,101,102,117,115,101]⟩⟩]
theorem HY:e7 1 (some [I.bQ ⟨#[]⟩,I.bQ ⟨#[112,111,117,110,100]⟩,I.bQ ⟨#[114,101,108,101,97,115,101]⟩,I.bQ ⟨#[115,101,110,100]⟩,I.bQ ⟨#[99,97,108,108]⟩,I.bQ ⟨#[100,111,110,101]⟩,I.bQ ⟨#[98,97,99,107]⟩,I.bQ ⟨#[116,97,107,101]⟩,I.bQ ⟨#[114,101,102,117,115,101]⟩])=some (enc lx):=by
 have h:e7 1 (some (lx.map (enc (α:=fj))))=some (enc lx):=by
  simp only[e7];rw[if_pos ⟨by simp[Enc.size];exact fun _ _=>rfl,iy _⟩];rfl
 exact h
theorem yk:a8 Tryz.prog 94 [] (enc lx):=by
 refine a8.cd Tryz.func94 I5 J5 Ln (u8 rfl) (fun hwf W0 bF E1 =>?_);simp only[zW,Ez,bJ];have R:=y6 @HY aD
 repeat' ((first |refine ae.aF (by decide +kernel) rfl fun K hK =>?_|(refine .ay [0] hK ?_;clear hK K)|(with_reducible refine .done (hK _ ?_);clear hK K)|refine ae.of rfl ?_|(with_reducible refine az.aE (fun h =>?_) (fun h =>?_) <;>try simp only[h])) <;>try simp only[aG,R,simprocAttr])
 all_goals clear R
 all_goals rfl
def vp:fj:=⟨⟨#[]⟩⟩
def n2:fj:=⟨⟨#[112,111,117,110,100]⟩⟩
def j4(k:Int):fj:=lx.getD k.toNat vp
def mN(x:bg):fj:=if x.kind≤2 then mf (j4 x.kind) [x.aK] else mf (j4 x.kind) [x.aK,x.other,x.no]
def lX(p:bt)(i:Nat):fj:=(p.j.take i).foldl (fun a x=>jn a (mN x)) (mf n2 [p.au,p.eL])
def tC(p:bt):fj×Int:=match cZ p with
 |none=>(vp,91)
 |some _=>(lX p p.j.length,0)
theorem FH(k:Int):(j4 k).b.size≤7:=by
 have h:∀ x∈lx,x.b.size≤7:=by decide
 simp only[j4,Z0];cases hk:lx[k.toNat]? with
 |none=>exact zy3 _
 |some x=>exact h x (List.mem_of_getElem? hk)
theorem xy(w:fj){l:List Int}(aq:∀ x∈l,IntKind.i64.min≤x∧x≤IntKind.i64.max):(mf w l).b.size≤w.b.size+22*l.length+1:=by
 have:=xw w aq l.length (Z4 _);rw[mf,qf];have:rf.b.size=1:=rfl;omega
theorem wg{n:Int}(h:-100000≤n∧n≤100000):IntKind.i64.min≤n∧n≤IntKind.i64.max:=by
 have J:IntKind.i64.min=-9223372036854775808:=by decide
 have U:IntKind.i64.max=9223372036854775807:=by decide
 omega
theorem CP{x:bg}(h:hl x=true):(1≤x.kind∧x.kind≤8)∧(1≤x.aK∧x.aK≤9999)∧(0≤x.other∧x.other≤5)∧(0≤x.no∧x.no≤200):=by
 simp only[hl,dp] at h;split at h
 ·simp only[t8,decide_eq_true_eq,beq_iff_eq] at h;omega
 ·split at h
  ·simp only[t8,decide_eq_true_eq] at h;omega
  ·cases h
theorem Cm{x:bg}(h:hl x=true):(mN x).b.size≤74:=by
 obtain ⟨_,U,ah,ar⟩:=CP h;have hw:=FH x.kind;simp only[mN];split
 ·have:=xy (j4 x.kind) (l:=[x.aK]) (by simp only[zy4,forall_eq];exact wg (by omega));simp only[zx7,List.length_nil] at this;omega
 ·have:=xy (j4 x.kind) (l:=[x.aK,x.other,x.no]) (by
   intro y hy;simp only[zw5,List.not_mem_nil,or_false] at hy;rcases hy with rfl | rfl | rfl <;>exact wg (by omega))
  simp only[zx7,List.length_nil] at this;omega
theorem E6:∀ {l:List bg} {s s':aC},ga s l=some s'→∀ x∈l,hl x=true
 | [],_,_,_,x,hx=>by cases hx
 |y::l,s,s',h,x,hx=>by
  simp only[ga] at h;cases hy:gD s y with
  |none=>rw[hy] at h;cases h
  |some s2 =>
   rw[hy] at h;rcases zw5.1 hx with rfl | hx
   ·simp only[gD] at hy;split at hy
    ·assumption
    ·cases hy
   ·exact E6 h x hx
theorem C0{p:bt}{s:aC}(h:cZ p=some s):∀ x∈p.j,hl x=true:=E6 (iJ h).2.2.2.2.2
theorem Df(p:bt){i:Nat}(h:i<p.j.length):lX p (i+1)=jn (lX p i) (mN p.j[i]):=by
 simp only[lX,Z9 h,List.foldl_append,List.foldl_cons,List.foldl_nil]
theorem De{p:bt}{s:aC}(ho:cZ p=some s):∀ i,i≤p.j.length→(lX p i).b.size≤50+74*i
 |0,_=>by
  have h5:=(iJ ho).2.2.2.2.1;have ar:=(iJ ho).2.2.2.1;simp only[iH,dp,t8,decide_eq_true_eq] at h5;have:=xy n2 (l:=[p.au,p.eL]) (by
   intro y hy;simp only[zw5,List.not_mem_nil,or_false] at hy;rcases hy with rfl | rfl <;>exact wg (by omega))
  have hp:n2.b.size=5:=rfl;simp only[zx7,List.length_nil] at this
  show (mf n2 [p.au,p.eL]).b.size≤_
  omega
 |i+1,h=>by
  have J:=De ho i (by omega);have U:=Cm (C0 ho p.j[i] (zx8 _));rw[Df p (by omega),qf];omega
theorem yS(a:Int):e7 1 (some [.int .i64 a])=some (enc [a]):=qd (ys:=[a]) 1 rfl
theorem HZ(a b:Int):e7 1 (some [.int .i64 a,.int .i64 b])=some (enc [a,b]):=qd (ys:=[a,b]) 1 rfl
theorem H0(a b c:Int):e7 1 (some [.int .i64 a,.int .i64 b,.int .i64 c])=some (enc [a,b,c]):=qd (ys:=[a,b,c]) 1 rfl
theorem Wq{k:Int}(h:1≤k∧k≤8)(A:ai):js A 1 k (enc lx)=some (.ref (enc (j4 k))):=by
 have hk:k.toNat<lx.length:=by show k.toNat<9;omega
 have:=eb (A:=A) (l:=lx) (k:=k.toNat) 1 hk rfl;have e:((k.toNat:Nat):Int)=k:=by omega
 rw[e] at this;rw[this];simp[j4,Z0,hk]
def yq(p:bt)(i:Nat):ai :=
 av [(1,.ptr 1 []),(5,enc (lX p i)),(20,enc p.j),(21,.int .i64 p.j.length),(22,.int .i64 i)] [(1,.box (enc p))]
theorem Gj(p:bt):a8 Tryz.prog 53 [enc p] (.tuple [enc (tC p).1,enc (tC p).2]):=by
 refine a8.cd Tryz.func53 ID JG KX (u8 rfl) (fun hwf W0 bF E1 =>?_);simp only[zw,D7,bJ];clear hwf;have hF:=uu p;simp only[qg] at hF;simp only[tC];have e0:(I.bQ ⟨#[]⟩)=enc vp:=rfl;have e1:(I.bQ ⟨#[112,111,117,110,100]⟩)=enc n2:=rfl;cases ho:cZ p with
 |none =>
  rw[ho] at hF;have R:=y6 @cj (y6 @bh (y6 @bR (y6 @bB (y6 @bw aD))))
  repeat' ((first |refine ae.aF (by decide +kernel) rfl fun K hK =>?_|refine .lead _ (hF) ?_|(refine .ay [0,1,2,3,4,5,7,11,20,21,22,23,28] hK ?_;clear hK K)|(with_reducible refine .done (hK _ ?_);clear hK K)|refine ae.of rfl ?_|(with_reducible refine az.aE (fun h =>?_) (fun h =>?_) <;>try simp only[h])) <;>try simp only[aG,R,simprocAttr])
  all_goals clear R
  all_goals rfl
 |some s =>
  have hjl:=(iJ ho).2.2.2.1;have hok:=C0 ho;have hsz:=De ho;have hp:n2.b.size=5:=rfl;have hR:=uz n2 [p.au,p.eL] (by simp[hp]);rw[ho] at hF;have R:=y6 @HZ (y6 @cj (y6 @bh (y6 @bR (y6 @bB (y6 @bw aD)))))
  repeat' ((first |refine ae.aF (by decide +kernel) rfl fun K hK =>?_|refine .lead _ (hF) ?_|refine .flat _ (hR) rfl ?_|(refine .ay [0,1,2,3,4,5,7,11,20,21,22,23,28] hK ?_;clear hK K)|(with_reducible refine .done (hK _ ?_);clear hK K)|refine ae.of rfl ?_|(with_reducible refine az.aE (fun h =>?_) (fun h =>?_) <;>try simp only[h])) <;>try simp only[aG,R,simprocAttr])
  all_goals clear R
  refine ae.loop (yq p) (fun i=>i≤p.j.length) (fun i=>p.j.length-i) 0 (zy3 _) ?_ ?_
  ·refine bm.cI ?_ ?_ ?_ ?_ <;>simp[b6,cD,cm,cn,aw,bZ,cY,I.only,ao.only,b7]
   all_goals rfl
  intro i hi;simp only[yq];have hsi:=hsz i hi;by_cases hlt:i<p.j.length
  ·have hc:=fm hlt;have he:=fun A=>eb (A:=A) 4 hlt rfl;have hw:=fo (i:=i) (by omega);have hst:∀ A rest b,de A (some 4) 7 [] b (enc p.j[i]) rest (some (.agg [.int .i64 0,.int .i64 0,.int .i64 0,.int .i64 0]))=aB rest (A.aT 7 (.box (enc p.j[i]))):=fun A rest b=>dG (ef _) (by rw[fb];rfl) (eH _);have hoki:=hok p.j[i] (zx8 hlt);have hls:=Cm hoki;obtain ⟨hk,hk2⟩:=CP hoki;have hwd:=Wq hk;have hps:=Df p hlt;have hww:=FH p.j[i].kind;generalize p.j[i]=x at *;have hadd:∀ l:fj,l.b.size≤74→cH .add (enc (lX p i)) (enc l)=some (enc (jn (lX p i) l)):=fun l h=>sh (lX p i) l (by omega);rcases q:decide (x.kind≤2)
   ·have bH:¬ x.kind≤2:=of_decide_eq_false q;have aq:mN x=mf (j4 x.kind) [x.aK,x.other,x.no]:=by simp[mN,bH]
    rw[aq] at hls hps;have hR2:=uz (j4 x.kind) [x.aK,x.other,x.no] (by simp;omega);have had:=hadd _ hls;have R:=y6 @hc (y6 @he (y6 @hw (y6 @hst (y6 @hwd (y6 @q (y6 @had (y6 @H0 (y6 @cj (y6 @bh (y6 @bR (y6 @bB (y6 @bw aD))))))))))))
    repeat' ((first |refine ae.aF (by decide +kernel) rfl fun K hK =>?_|refine .lead _ (yk) ?_|refine .flat _ (hR2) rfl ?_|(refine .ay [0,1,2,3,4,5,7,11,20,21,22,23,28] hK ?_;clear hK K)|(with_reducible refine .done (hK _ ?_);clear hK K)|refine ae.of rfl ?_|(with_reducible refine az.aE (fun h =>?_) (fun h =>?_) <;>try simp only[h])) <;>try simp only[aG,R,simprocAttr])
    all_goals clear R
    refine ⟨i+1,by omega,by omega,?_⟩;rw[hps];refine bm.cI ?_ ?_ ?_ ?_ <;>simp[b6,cD,cm,cn,aw,bZ,cY,I.only,ao.only,b7]
    all_goals rfl
   ·have bH:x.kind≤2:=of_decide_eq_true q;have aq:mN x=mf (j4 x.kind) [x.aK]:=by simp[mN,bH]
    rw[aq] at hls hps;have hR2:=uz (j4 x.kind) [x.aK] (by simp;omega);have had:=hadd _ hls;have R:=y6 @hc (y6 @he (y6 @hw (y6 @hst (y6 @hwd (y6 @q (y6 @had (y6 @yS (y6 @cj (y6 @bh (y6 @bR (y6 @bB (y6 @bw aD))))))))))))
    repeat' ((first |refine ae.aF (by decide +kernel) rfl fun K hK =>?_|refine .lead _ (yk) ?_|refine .flat _ (hR2) rfl ?_|(refine .ay [0,1,2,3,4,5,7,11,20,21,22,23,28] hK ?_;clear hK K)|(with_reducible refine .done (hK _ ?_);clear hK K)|refine ae.of rfl ?_|(with_reducible refine az.aE (fun h =>?_) (fun h =>?_) <;>try simp only[h])) <;>try simp only[aG,R,simprocAttr])
    all_goals clear R
    refine ⟨i+1,by omega,by omega,?_⟩;rw[hps];refine bm.cI ?_ ?_ ?_ ?_ <;>simp[b6,cD,cm,cn,aw,bZ,cY,I.only,ao.only,b7]
    all_goals rfl
  ·have hge:i=p.j.length:=by omega
   have hc:=fu hlt;subst hge;have R:=y6 @hc (y6 @cj (y6 @bh (y6 @bR (y6 @bB (y6 @bw aD)))))
   repeat' ((first |refine ae.aF (by decide +kernel) rfl fun K hK =>?_|(refine .ay [0,1,2,3,4,5,7,11,20,21,22,23,28] hK ?_;clear hK K)|(with_reducible refine .done (hK _ ?_);clear hK K)|refine ae.of rfl ?_|(with_reducible refine az.aE (fun h =>?_) (fun h =>?_) <;>try simp only[h])) <;>try simp only[aG,R,simprocAttr])
   all_goals clear R
theorem bO.r0{P:Program}{Y:Value→List I→List (Nat×ao)→cK→Prop}{ab:List FuncId}{K:ai→Prop}{v:Value}{vs:List I}{dst:Option Nat}{rest:List aH}{ts:List (Nat×I)}{os osk ow:List (Nat×ao)}{In Ix:List (Nat×ao)→Prop}
  (hY:Y v vs osk (fun r os2=>(r=.bool true∧In os2)∨(r=.bool false∧Ix os2))) (hk:eX os osk) (hi:∀ os',In os'→eX os os') (hx:∀ os',Ix os'→eX os os') (hcl:I.cq vs=true) (how:∀ m,aw ow m=true→m<1000000)
  (J:∀ os2,In os2→bO P Y ab K (aB rest ((av ts (ow++os2)).aS dst (.bool true)))) (U:∀ os2,Ix os2→bO P Y ab K (aB rest ((av ts (ow++os2)).aS dst (.bool false)))) :
  bO P Y ab K (.kN v vs dst rest (av ts (ow++osk))):=by
 refine .FI osk vs _ hY (gl.iz hk how) (sr vs hcl) ?_ ?_
 ·rintro r os' (⟨rfl,h⟩ | ⟨rfl,h⟩)
  ·exact gE.iz hk (hi _ h) rfl
  ·exact gE.iz hk (hx _ h) rfl
 ·rintro r os' (⟨rfl,h⟩ | ⟨rfl,h⟩)
  ·rw[su hk (hi _ h) how];exact J os' h
  ·rw[su hk (hx _ h) how];exact U os' h
theorem qC{os os2 ow:List (Nat×ao)}{ts:List (Nat×I)}(h:eX os os2)(how:∀ m,aw ow m=true→m<1000000):∀ n x,aj os2 n=some x→(av ts (ow++os2)).o n=some x∧x.only (aw os2)=true∧x.eg=true:=fun n x hx=>by
 have hn:aw os2 n=true:=by simp[aw,hx]
 have hg:=h.lO n (by rw[←h.same];exact hn);refine ⟨?_,h.ok n x hx⟩;simp only[av,fK];cases hw:aj ow n with
 |none=>exact hx
 |some y=>have:=how n (by simp[aw,hw]);omega
def tJ:ea:=⟨0,0,0,0,0⟩
def oa(s:aC)(to n:Int):ea:=⟨if (s.b9 (n.toNat-1)).dD then 3 else 1,s.au,to,(s.b9 (n.toNat-1)).aK,n⟩
def pU(s:aC)(to n:Int):Bool:=(s.b9 (n.toNat-1)).to==to
def gm(s:aC)(to:Int)(i:Nat):List ea:=(((bV s.bp).take i).filter (pU s to)).map (oa s to)
def kZ(s:aC)(to:Int)(no:Nat):List ea:=match s.bq.find? fun x=>decide (eN x=⟨to,no⟩) with
 |some x=>[⟨if x.kind=8 then 4 else 2,s.au,to,x.aK,no⟩]
 |none=>[]
def gW(s:aC)(to:Int)(k:Nat):List ea:=(List.range k).flatMap fun i=>kZ s to (i+1)
def fA(s:aC)(to:Int):List ea:=gm s to (bV s.bp).length++gW s to 200
theorem wk(s:aC)(to:Int){i:Nat}(h:i<(bV s.bp).length):gm s to (i+1)=gm s to i++if pU s to (bV s.bp)[i] then [oa s to (bV s.bp)[i]] else []:=by
 simp only[gm,Z9 h,List.filter_append,zz3,zw4,List.filter_nil]
 congr 1
 split <;>rfl
theorem pj(s:aC)(to:Int)(k:Nat):gW s to (k+1)=gW s to k++kZ s to (k+1):=by
 simp only[gW,List.range_succ,List.flatMap_append,List.flatMap_cons,List.flatMap_nil,zx4]
theorem B8(s:aC)(to:Int):∀ {i n:Nat},i≤n→n≤(bV s.bp).length→gm s to i <+: gm s to n
 |i,0,h,_=>by
   have:i=0:=by omega
   subst this;exact List.prefix_rfl
 |i,n+1,h,hn=>by
  by_cases e:i=n+1
  ·subst e;exact List.prefix_rfl
  ·rw[wk s to (by omega)];exact (B8 s to (by omega) (by omega)).trans (List.prefix_append _ _)
theorem Cb(s:aC)(to:Int):∀ {k n:Nat},k≤n→gW s to k <+: gW s to n
 |k,0,h=>by
   have:k=0:=by omega
   subst this;exact List.prefix_rfl
 |k,n+1,h=>by
  by_cases e:k=n+1
  ·subst e;exact List.prefix_rfl
  ·rw[pj];exact (Cb s to (by omega)).trans (List.prefix_append _ _)
theorem BP{α:Type}{l m:List α}{x d:α}(h:l++[x] <+: m):l.length<m.length∧m.getD l.length d=x:=by
 obtain ⟨r,rfl⟩:=h;refine ⟨by simp,?_⟩;rw[zz1,Z0,zx6 (Z4 _)];simp
theorem VM{s:aC}{to:Int}{i:Nat}(h:i<(bV s.bp).length)(ht:pU s to (bV s.bp)[i]=true):(gm s to i).length<(fA s to).length∧(fA s to).getD (gm s to i).length tJ=oa s to (bV s.bp)[i]:=by
 have J:=wk s to h;rw[if_pos ht] at J;have U:=B8 s to (i:=i+1) (n:=(bV s.bp).length) (by omega) (Z4 _);rw[J] at U;exact BP (U.trans (List.prefix_append _ _))
theorem VN{s:aC}{to:Int}{k:Nat}{x:ea}(h:k<200)(hx:kZ s to (k+1)=[x]):(gm s to (bV s.bp).length++gW s to k).length<(fA s to).length∧(fA s to).getD (gm s to (bV s.bp).length++gW s to k).length tJ=x:=by
 have J:=pj s to k;rw[hx] at J;have U:=Cb s to (k:=k+1) (n:=200) (by omega);rw[J] at U;refine BP ?_;rw[zz1];exact List.prefix_append_right_inj _ |>.2 U
theorem oO(a b c d e:Int):(dQ [.int .i64 0,.int .i64 0,.int .i64 0,.int .i64 0,.int .i64 0] [(0,.int .i64 a),(1,.int .i64 b),(2,.int .i64 c),(3,.int .i64 d),(4,.int .i64 e)]).map I.agg=some (enc (⟨a,b,c,d,e⟩:ea)):=by simp[dQ,I.bT,I.size];rfl
theorem nl:(∀ A n b rest (q:ea) x y z w u,de A (some 5) n [] b (enc q) rest (some (.agg [.int .i64 x,.int .i64 y,.int .i64 z,.int .i64 w,.int .i64 u]))=aB rest (A.aT n (.box (enc q)))) ∧
  (∀ (A:ai) n (q:ea) rest (v u:Int),de A none n [0] (enc q) (.int .i64 v) rest (some (.int .i64 u))=aB rest (A.aT n (.box (enc (⟨v,q.cP,q.to,q.aK,q.no⟩:ea))))) ∧
  (∀ A n b rest (q:bg) x y z w,de A (some 4) n [] b (enc q) rest (some (.agg [.int .i64 x,.int .i64 y,.int .i64 z,.int .i64 w]))=aB rest (A.aT n (.box (enc q)))) :=
 ⟨fun A n b rest q x y z w u=>dG (ef _) (by rw[fb];rfl) (eH _),fun A n q rest v u=>dG rfl rfl rfl,fun A n b rest q x y z w=>dG (ef _) (by rw[fb];rfl) (eH _)⟩
theorem tx{a b:ao} : ∀ m,aw [(7,a),(7,b)] m=true→m<1000000:=fun m h=>by
 simp only[aw,aj] at h
 (repeat' split at h) <;>first | omega | (simp at h;done)
theorem tz{a b c:ao} : ∀ m,aw [(7,a),(7,b),(7,c)] m=true→m<1000000:=fun m h=>by
 simp only[aw,aj] at h
 (repeat' split at h) <;>first | omega | (simp at h;done)
theorem tw{a b c d:ao} : ∀ m,aw [(11,a),(11,b),(9,c),(9,d)] m=true→m<1000000:=fun m h=>by
 simp only[aw,aj] at h
 (repeat' split at h) <;>first | omega | (simp at h;done)
theorem w9{a b c d e:ao} : ∀ m,aw [(11,a),(11,b),(11,e),(9,c),(9,d)] m=true→m<1000000:=fun m h=>by
 simp only[aw,aj] at h
 (repeat' split at h) <;>first | omega | (simp at h;done)
theorem Yc:∀ m,aw [] m=true→m<1000000:=fun m h=>by simp[aw,aj] at h
theorem nC{ow os osk:List (Nat×ao)}(hw:∀ m,aw ow m=true→m<1000000)(gk:eX os osk):∀ m,aj osk m=none∨aj osk m=aj (ow++osk) m:=fun m=>by
 rw[fK];cases h:aj ow m with
 |none=>exact .inr rfl
 |some y=>exact .inl (gk.none (hw m (by simp[aw,h])))
theorem oy(p:Nat→Bool)(s:aC):(c8 s).only p=true:=jS p _ (mq s)
def sf(s:aC)(to:Int)(v:Value)(t:Nat×List (Nat×ao)):ai :=
 av [(0,.raw v),(1,.ref (c8 s)),(2,.ref (.int .i64 to)),(8,.int .i64 ((t.1:Int)+1))] t.2
def sd(s:aC)(to:Int)(v:Value)(t:Nat×List (Nat×ao)):ai :=
 av [(0,.raw v),(1,.ref (c8 s)),(2,.ref (.int .i64 to)),(13,enc (bV s.bp)),(14,.int .i64 (bV s.bp).length),(15,.int .i64 t.1)] t.2
theorem FO(s:aC)(to:Int)(aq:s.aQ.length≤1000):ym Tryz.prog 107 [.ref (c8 s),.ref (enc to)] (fA s to).length (fun k=>[enc ((fA s to).getD k tJ)]):=by
 intro Y v bf Ix os hv hY hI hIx aW;have hG:=hI 0 os aW;have hlen:(bV s.bp).length=s.aQ.length:=by simp[bV,aC.bp]
 have hN:=ux s (by omega);refine kC.cd Tryz.func107 zZ Je Kl (u8 rfl) (u8 rfl) hG.lO (fun hwf W0 bF E1 =>?_);simp only[yW,Dq,bJ,Z1,Nat.reduceAdd];have R:=y6 @dH (y6 @bh (y6 @bR (y6 @bB (y6 @bw aD))))
 repeat' ((first |(with_reducible refine .guard (fun hb =>?_) (fun hb =>?_) <;>try simp only[hb])|refine ae.aF (by decide +kernel) rfl fun K hK =>?_|refine .lead _ (hN) ?_|(refine .ay [0,1,2,5,6,7,8,9,10,11,13,14,15,16,39,52,55,80,88] hK ?_;clear hK K)|(with_reducible refine .done (hK _ ?_);clear hK K)|refine ae.of rfl ?_|(with_reducible refine az.aE (fun h =>?_) (fun h =>?_) <;>try simp only[h])) <;>try simp only[aG,R,simprocAttr])
 all_goals clear R
 refine ae.loop (sd s to v) (fun t=>t.1≤(bV s.bp).length∧bf (gm s to t.1).length t.2) (fun t=>(bV s.bp).length-t.1) (0,os) ⟨zy3 _,aW⟩ ?_ ?_
 ·refine bm.slots ?_ (fun n=>rfl);simp[b6,bZ]
 rintro ⟨i,osk⟩ ⟨hi,hIk⟩;simp only at hi hIk;have gk:=hI _ osk hIk;have n7:=gk.none (n:=7) (by decide);simp only[sd];by_cases hlt:i<(bV s.bp).length
 ·have hc:=fm hlt;have he:=fun A=>eb (A:=A) 1 hlt rfl;have hw:=fo (i:=i) (by omega);have hlk:=wC s hlt;have hsu:=wk s to hlt;have hra:=VM (s:=s) (to:=to) hlt;obtain ⟨n,hn⟩:∃ n,n=(bV s.bp)[i]:=⟨_,rfl⟩
  rw[←hn] at he hlk hsu hra;obtain ⟨r,hr⟩:∃ r,r=s.b9 (n.toNat-1):=⟨_,rfl⟩
  have hrd:oa s to n=⟨if r.dD then 3 else 1,s.au,to,r.aK,n⟩:=by simp only[oa,←hr]
  have hta:pU s to n=(r.to==to):=by simp only[pU,←hr]
  rw[←hr] at hlk;rcases q:(r.to==to)
  ·rw[q] at hta;rw[hta] at hsu;simp only[Z2,if_false,zx4] at hsu;rcases qc:r.dD
   all_goals
    have R:=y6 @hc (y6 @he (y6 @hw (y6 @hlk (y6 @q (y6 @qc (y6 @n7 (y6 @oO (y6 @nl (y6 @dH (y6 @bh (y6 @bR (y6 @bB (y6 @bw aD)))))))))))))
    repeat' ((first |(with_reducible refine .guard (fun hb =>?_) (fun hb =>?_) <;>try simp only[hb])|(refine ae.rA (gs:=nI) [] [] [0,1,2,3,4,5,6,7,8,9,10,11] (by decide +kernel) (cX.of (by simp[fw])) fun K hK =>?_;simp only[ff,nI,zz7,zz8,R,simprocAttr])|refine ae.aF (by decide +kernel) rfl fun K hK =>?_|(refine .ay [0,1,2,5,6,7,8,9,10,11,13,14,15,16,39,52,55,80,88] hK ?_;clear hK K)|(with_reducible refine .done (hK _ ?_);clear hK K)|refine ae.of rfl ?_|(with_reducible refine az.aE (fun h =>?_) (fun h =>?_) <;>try simp only[h])) <;>try simp only[aG,R,simprocAttr])
    all_goals clear R
    refine ⟨(i+1,osk),⟨by simp only;omega,by simp only[hsu];exact hIk⟩,by simp only;omega,?_⟩;refine bm.fn ?_ ?_ ?_ (fun m x h=>(gk.ok m x h).1)
    ·simp[b6,bZ]
    ·first | exact nC (ow:=[(7,_),(7,_)]) tx gk | exact nC (ow:=[(7,_),(7,_),(7,_)]) tz gk
    ·simp[cm,I.only,b7,oy]
  ·rw[q] at hta;rw[hta,if_pos rfl] at hsu;obtain ⟨g1,g2⟩:=hra hta;have hs1:(gm s to (i+1)).length=(gm s to i).length+1:=by rw[hsu];simp
   have hy:=hY _ osk _ g1 hIk (fun r os2 h=>h);simp only[g2,hrd] at hy;rcases qc:r.dD
   ·rw[qc] at hy;simp only[Z2,if_false] at hy;have R:=y6 @hc (y6 @he (y6 @hw (y6 @hlk (y6 @q (y6 @qc (y6 @n7 (y6 @oO (y6 @nl (y6 @sB (y6 @dH (y6 @bh (y6 @bR (y6 @bB (y6 @bw aD))))))))))))))
    repeat' ((first |(with_reducible refine .guard (fun hb =>?_) (fun hb =>?_) <;>try simp only[hb])|(refine ae.rA (gs:=nI) [] [] [0,1,2,3,4,5,6,7,8,9,10,11] (by decide +kernel) (cX.of (by simp[fw])) fun K hK =>?_;simp only[ff,nI,zz7,zz8,R,simprocAttr])|refine ae.aF (by decide +kernel) rfl fun K hK =>?_|refine bO.r0 (ow:=[(7,_),(7,_)]) hy gk (hI _) hIx (by simp[I.cq,ka]) tx (fun os2 U =>?_) (fun os2 U =>?_)|(refine .ay [0,1,2,5,6,7,8,9,10,11,13,14,15,16,39,52,55,80,88] hK ?_;clear hK K)|(with_reducible refine .done (hK _ ?_);clear hK K)|refine ae.of rfl ?_|(with_reducible refine az.aE (fun h =>?_) (fun h =>?_) <;>try simp only[h])) <;>try simp only[aG,R,simprocAttr])
    all_goals clear R
    ·have g3:=hI _ os2 U;refine ⟨(i+1,os2),⟨by simp only;omega,by simp only[hs1];exact U⟩,by simp only;omega,?_⟩;refine bm.fn ?_ (nC tx g3) ?_ (fun m x h=>(g3.ok m x h).1)
     ·simp[b6,bZ]
     ·simp[cm,I.only,b7,oy]
    ·rw[oh];exact ⟨os2,[],qC (hIx os2 U) tx,trivial,rfl,.inr U⟩
   ·rw[qc] at hy;simp only[if_true] at hy;have R:=y6 @hc (y6 @he (y6 @hw (y6 @hlk (y6 @q (y6 @qc (y6 @n7 (y6 @oO (y6 @nl (y6 @sB (y6 @dH (y6 @bh (y6 @bR (y6 @bB (y6 @bw aD))))))))))))))
    repeat' ((first |(with_reducible refine .guard (fun hb =>?_) (fun hb =>?_) <;>try simp only[hb])|(refine ae.rA (gs:=nI) [] [] [0,1,2,3,4,5,6,7,8,9,10,11] (by decide +kernel) (cX.of (by simp[fw])) fun K hK =>?_;simp only[ff,nI,zz7,zz8,R,simprocAttr])|refine ae.aF (by decide +kernel) rfl fun K hK =>?_|refine bO.r0 (ow:=[(7,_),(7,_),(7,_)]) hy gk (hI _) hIx (by simp[I.cq,ka]) tz (fun os2 U =>?_) (fun os2 U =>?_)|(refine .ay [0,1,2,5,6,7,8,9,10,11,13,14,15,16,39,52,55,80,88] hK ?_;clear hK K)|(with_reducible refine .done (hK _ ?_);clear hK K)|refine ae.of rfl ?_|(with_reducible refine az.aE (fun h =>?_) (fun h =>?_) <;>try simp only[h])) <;>try simp only[aG,R,simprocAttr])
    all_goals clear R
    ·have g3:=hI _ os2 U;refine ⟨(i+1,os2),⟨by simp only;omega,by simp only[hs1];exact U⟩,by simp only;omega,?_⟩;refine bm.fn ?_ (nC tz g3) ?_ (fun m x h=>(g3.ok m x h).1)
     ·simp[b6,bZ]
     ·simp[cm,I.only,b7,oy]
    ·rw[oh];exact ⟨os2,[],qC (hIx os2 U) tz,trivial,rfl,.inr U⟩
 ·have hge:i=(bV s.bp).length:=by omega
  have hc:=fu hlt;rw[hge] at hIk;rw[hge] at hc ⊢;have R:=y6 @hc (y6 @dH (y6 @bh (y6 @bR (y6 @bB (y6 @bw aD)))))
  repeat' ((first |(with_reducible refine .guard (fun hb =>?_) (fun hb =>?_) <;>try simp only[hb])|refine ae.aF (by decide +kernel) rfl fun K hK =>?_|(refine .ay [0,1,2,5,6,7,8,9,10,11,13,14,15,16,39,52,55,80,88] hK ?_;clear hK K)|(with_reducible refine .done (hK _ ?_);clear hK K)|refine ae.of rfl ?_|(with_reducible refine az.aE (fun h =>?_) (fun h =>?_) <;>try simp only[h])) <;>try simp only[aG,R,simprocAttr])
  all_goals clear R
  refine ae.loop (sf s to v) (fun t=>t.1≤200∧bf (gm s to (bV s.bp).length++gW s to t.1).length t.2) (fun t=>200-t.1) (0,osk) ⟨zy3 _,by simpa[gW] using hIk⟩ ?_ ?_
  ·refine bm.slots ?_ (fun n=>rfl);simp[b6,bZ]
  clear hIk gk n7 hc hlt hi hge;rintro ⟨k,osk⟩ ⟨hk,hIk⟩;simp only at hk hIk;have gk:=hI _ osk hIk;have n9:=gk.none (n:=9) (by decide);have n11:=gk.none (n:=11) (by decide);simp only[sf];by_cases hlt:k<200
  ·have hc:decide (((k:Int)+1)≤200)=true:=by simp;omega
   have hw:IntKind.i64.wrap ((k:Int)+1+1)=((k+1:Nat):Int)+1:=by rw[ly _ (by omega) (by omega)];omega
   have hsu:=pj s to k;have hlg:=wA sH eN (fun x:bg=>enc x) (.agg [.int .i64 0,.int .i64 0,.int .i64 0,.int .i64 0]) ⟨to,(k:Int)+1⟩ s.bq;have ew:(enc (⟨to,(k:Int)+1⟩:ji):I)=.agg [.int .i64 to,.int .i64 ((k:Int)+1)]:=rfl;rw[ew] at hlg;have e2:(fun x:bg=>decide ((⟨to,(k:Int)+1⟩:ji)=eN x))=fun x=>decide (eN x=⟨to,(k:Int)+1⟩):=by
    funext x;rw[Bool.eq_iff_iff];simp[eq_comm]
   rw[e2] at hlg;have hrb:kZ s to (k+1)=match s.bq.find? fun x=>decide (eN x=⟨to,(k:Int)+1⟩) with
    |some x=>[⟨if x.kind=8 then 4 else 2,s.au,to,x.aK,(k:Int)+1⟩]
    |none=>[]:=by simp only[kZ];rfl
   have gr:=fun x=>VN (s:=s) (to:=to) (k:=k) (x:=x) hlt;cases hf:s.bq.find? fun x=>decide (eN x=⟨to,(k:Int)+1⟩) with
   |none =>
    rw[hf] at hlg hrb;simp only at hlg hrb;have hlk:fk (.bd [.i .i64,.i .i64]) (.agg [.int .i64 0,.int .i64 0,.int .i64 0,.int .i64 0]) (.agg [.int .i64 to,.int .i64 ((k:Int)+1)]) (s.dV.map enc) (s.bq.map enc)=some (enc gX,false):=hlg;have q:(gX.kind==8)=false:=rfl;rw[hrb,zx4] at hsu;have R:=y6 @hc (y6 @hw (y6 @hlk (y6 @q (y6 @n9 (y6 @n11 (y6 @oP (y6 @oO (y6 @nl (y6 @dH (y6 @bh (y6 @bR (y6 @bB (y6 @bw aD)))))))))))))
    repeat' ((first |(with_reducible refine .guard (fun hb =>?_) (fun hb =>?_) <;>try simp only[hb])|refine ae.aF (by decide +kernel) rfl fun K hK =>?_|(refine .ay [0,1,2,5,6,7,8,9,10,11,13,14,15,16,39,52,55,80,88] hK ?_;clear hK K)|(with_reducible refine .done (hK _ ?_);clear hK K)|refine ae.of rfl ?_|(with_reducible refine az.aE (fun h =>?_) (fun h =>?_) <;>try simp only[h])) <;>try simp only[aG,R,simprocAttr])
    all_goals clear R
    refine ⟨(k+1,osk),⟨by simp only;omega,by simp only[hsu];exact hIk⟩,by simp only;omega,?_⟩;refine bm.fn ?_ (nC (ow:=[(11,_),(11,_),(9,_),(9,_)]) tw gk) ?_ (fun m x h=>(gk.ok m x h).1)
    ·simp[b6,bZ]
    ·simp[cm,I.only,oy]
   |some x =>
    rw[hf] at hlg hrb;simp only at hlg hrb;have hlk:fk (.bd [.i .i64,.i .i64]) (.agg [.int .i64 0,.int .i64 0,.int .i64 0,.int .i64 0]) (.agg [.int .i64 to,.int .i64 ((k:Int)+1)]) (s.dV.map enc) (s.bq.map enc)=some (enc x,true):=hlg;obtain ⟨g1,g2⟩:=gr _ hrb;rw[hrb] at hsu;have hs1:(gm s to (bV s.bp).length++gW s to (k+1)).length=(gm s to (bV s.bp).length++gW s to k).length+1:=by rw[hsu];simp only[Z7,zx7,List.length_nil];omega
    have hy:=hY _ osk _ g1 hIk (fun r os2 h=>h);simp only[g2] at hy;rcases q:(x.kind==8)
    ·have qk:¬ x.kind=8:=by simpa using q
     simp only[if_neg qk] at hy;have R:=y6 @hc (y6 @hw (y6 @hlk (y6 @q (y6 @n9 (y6 @n11 (y6 @oP (y6 @oO (y6 @nl (y6 @sB (y6 @dH (y6 @bh (y6 @bR (y6 @bB (y6 @bw aD))))))))))))))
     repeat' ((first |(with_reducible refine .guard (fun hb =>?_) (fun hb =>?_) <;>try simp only[hb])|refine ae.aF (by decide +kernel) rfl fun K hK =>?_|refine aR.r0 (ow:=[(11,_),(11,_),(9,_),(9,_)]) hy gk (hI _) hIx (by simp[I.cq,ka]) tw (fun os2 U =>?_) (fun os2 U =>?_)|(refine .ay [0,1,2,5,6,7,8,9,10,11,13,14,15,16,39,52,55,80,88] hK ?_;clear hK K)|(with_reducible refine .done (hK _ ?_);clear hK K)|refine ae.of rfl ?_|(with_reducible refine az.aE (fun h =>?_) (fun h =>?_) <;>try simp only[h])) <;>try simp only[aG,R,simprocAttr])
     all_goals clear R
     ·have g3:=hI _ os2 U;refine ⟨(k+1,os2),⟨by simp only;omega,by simp only[hs1];exact U⟩,by simp only;omega,?_⟩;refine bm.fn ?_ (nC tw g3) ?_ (fun m x h=>(g3.ok m x h).1)
      ·simp[b6,bZ]
      ·simp[cm,I.only,oy]
     ·rw[oh];exact ⟨os2,[],qC (hIx os2 U) tw,trivial,rfl,.inr U⟩
    ·have qk:x.kind=8:=by simpa using q
     simp only[if_pos qk] at hy;have R:=y6 @hc (y6 @hw (y6 @hlk (y6 @q (y6 @n9 (y6 @n11 (y6 @oP (y6 @oO (y6 @nl (y6 @sB (y6 @dH (y6 @bh (y6 @bR (y6 @bB (y6 @bw aD))))))))))))))
     repeat' ((first |(with_reducible refine .guard (fun hb =>?_) (fun hb =>?_) <;>try simp only[hb])|refine ae.aF (by decide +kernel) rfl fun K hK =>?_|refine aR.r0 (ow:=[(11,_),(11,_),(11,_),(9,_),(9,_)]) hy gk (hI _) hIx (by simp[I.cq,ka]) w9 (fun os2 U =>?_) (fun os2 U =>?_)|(refine .ay [0,1,2,5,6,7,8,9,10,11,13,14,15,16,39,52,55,80,88] hK ?_;clear hK K)|(with_reducible refine .done (hK _ ?_);clear hK K)|refine ae.of rfl ?_|(with_reducible refine az.aE (fun h =>?_) (fun h =>?_) <;>try simp only[h])) <;>try simp only[aG,R,simprocAttr])
     all_goals clear R
     ·have g3:=hI _ os2 U;refine ⟨(k+1,os2),⟨by simp only;omega,by simp only[hs1];exact U⟩,by simp only;omega,?_⟩;refine bm.fn ?_ (nC w9 g3) ?_ (fun m x h=>(g3.ok m x h).1)
      ·simp[b6,bZ]
      ·simp[cm,I.only,oy]
     ·rw[oh];exact ⟨os2,[],qC (hIx os2 U) w9,trivial,rfl,.inr U⟩
  ·have hc:decide (((k:Int)+1)≤200)=false:=by simp;omega
   have hge:k=200:=by omega
   have R:=y6 @hc (y6 @dH (y6 @bh (y6 @bR (y6 @bB (y6 @bw aD)))))
   repeat' ((first |(with_reducible refine .guard (fun hb =>?_) (fun hb =>?_) <;>try simp only[hb])|refine ae.aF (by decide +kernel) rfl fun K hK =>?_|(refine .ay [0,1,2,5,6,7,8,9,10,11,13,14,15,16,39,52,55,80,88] hK ?_;clear hK K)|(with_reducible refine .done (hK _ ?_);clear hK K)|refine ae.of rfl ?_|(with_reducible refine az.aE (fun h =>?_) (fun h =>?_) <;>try simp only[h])) <;>try simp only[aG,R,simprocAttr])
   all_goals clear R
   rw[mb];refine ⟨osk,[],qC (ow:=[]) gk Yc,trivial,rfl,.inl ?_⟩;rw[fA];rw[hge] at hIk;exact hIk
def EE(o:Option aC):I:=match o with
 |some s=>.tuple [c8 s,.bool true]
 |none=>.tuple [.nilp,.bool false]
theorem Gq(au:Int)(l:List bg)(aq:l.length≤200):a8 Tryz.prog 62 [enc au,enc l] (EE (fL au l)):=by
 refine a8.cd Tryz.func62 Al AE AM (u8 rfl) (fun hwf W0 bF E1 =>?_);simp only[u5,xj,bJ,Z1];clear hwf;have R:=y6 @bR (y6 @bB (y6 @bw aD))
 repeat' ((first |refine ae.aF (by decide +kernel) rfl fun K hK =>?_|refine aR.eU rfl (fun _ _ _=>rfl) ?_|(refine .ay [0,1,4,5,6,8,11,12,13,14,20] hK ?_;clear hK K)|(with_reducible refine .done (hK _ ?_);clear hK K)|refine ae.of rfl ?_|(with_reducible refine az.aE (fun h =>?_) (fun h =>?_) <;>try simp only[h])) <;>try simp only[aG,R,simprocAttr])
 all_goals clear R
 refine ae.loop (sc l) (fun t=>t.1≤l.length∧ga (eU au) (l.take t.1)=some t.2) (fun t=>l.length-t.1) (0,eU au) ⟨zy3 _,rfl⟩ ?_ ?_
 ·rw[zx4];refine bm.fn ?_ (fun n=>.inr rfl) ?_ (fun n x h=>(lq (kV au) h).1)
  ·simp[b6,bZ]
  ·have:=(dN (iA (eU au).all.length) (n:=2000)).2 (.inl (by omega));simp[cm,I.only,b7,this]
 rintro ⟨i,s⟩ ⟨hi,hrun⟩;simp only at hi hrun;obtain ⟨hk,hme,hln⟩:=nc (kV au) hrun;have hln2:s.all.length≤i:=by simpa[eU,hi] using hln
 have n8:aj (dv s) 8=none:=eF (.inl (by omega)) fun i _=>by simp[bE];omega
 simp only[sc];by_cases hlt:i<l.length
 ·have hc:=fm hlt;have he:=fun A=>eb (A:=A) 4 hlt rfl;have hw:=fo (i:=i) (by omega);have hst:∀ A rest,de A (some 4) 8 [] (.agg [.int .i64 0,.int .i64 0,.int .i64 0,.int .i64 0]) (enc l[i]) rest (some (.agg [.int .i64 0,.int .i64 0,.int .i64 0,.int .i64 0]))=aB rest (A.aT 8 (.box (enc l[i]))):=fun A rest=>dG (ef _) (by rw[fb];rfl) (eH _);have how:∀ (a b:ao) m,2000≤m→aj [(8,a),(8,b)] m=none:=fun a b m hm=>by simp only[aj];rw[if_neg (by omega),if_neg (by omega)]
  have hsp:l=l.take i++l[i]::l.drop (i+1):=by simp
  cases hn:gD s l[i] with
  |none =>
   have ab:ed s l[i]=(s,false):=by simp[ed,hn]
   have R:=y6 @hc (y6 @he (y6 @hst (y6 @n8 (y6 @bh (y6 @bR (y6 @bB (y6 @bw aD)))))))
   repeat' ((first |refine ae.aF (by decide +kernel) rfl fun K hK =>?_|refine aR.rU (ow:=[(8,_),(8,_)]) hk (by omega) rfl (how _ _) ab ?_|(refine .ay [0,1,4,5,6,8,11,12,13,14,20] hK ?_;clear hK K)|(with_reducible refine .done (hK _ ?_);clear hK K)|refine ae.of rfl ?_|(with_reducible refine az.aE (fun h =>?_) (fun h =>?_) <;>try simp only[h])) <;>try simp only[aG,R,simprocAttr])
   all_goals clear R
   have hno:fL au l=none:=by
    rw[fL,hsp,pO,hrun];simp only[Option.bind_some,ga,hn]
   rw[hno];rfl
  |some s2 =>
   have ab:ed s l[i]=(s2,true):=by simp[ed,hn]
   have R:=y6 @hc (y6 @he (y6 @hst (y6 @hw (y6 @n8 (y6 @bR (y6 @bB (y6 @bw aD)))))))
   repeat' ((first |refine ae.aF (by decide +kernel) rfl fun K hK =>?_|refine aR.rU (ow:=[(8,_),(8,_)]) hk (by omega) rfl (how _ _) ab ?_|(refine .ay [0,1,4,5,6,8,11,12,13,14,20] hK ?_;clear hK K)|(with_reducible refine .done (hK _ ?_);clear hK K)|refine ae.of rfl ?_|(with_reducible refine az.aE (fun h =>?_) (fun h =>?_) <;>try simp only[h])) <;>try simp only[aG,R,simprocAttr])
   all_goals clear R
   obtain ⟨hk2,hme2,hln3⟩:=xV hk hn;refine ⟨(i+1,s2),⟨by simp only;omega,?_⟩,by simp only;omega,?_⟩
   ·rw[Z9 hlt,pO,hrun];simp only[Option.bind_some,ga,hn]
   ·refine bm.fn ?_ (fun n =>?_) ?_ (fun n x h=>(lq hk2 h).1)
    ·simp[b6,bZ]
    ·simp only[fK];cases aj (dv s2) n with
     |none=>exact .inl rfl
     |some y=>exact .inr rfl
    ·have:=(dN (iA s2.all.length) (n:=2000)).2 (.inl (by omega));simp[cm,I.only,b7,this]
 ·have hge:i=l.length:=by omega
  have hc:=fu hlt;subst hge;rw[zx3] at hrun;have hfin:∀ ts,c4 (av ts (dv s)) 9 (.agg [.int .i64 s.au,.mref 2001,.mref 2002,.int .i64 s.all.length,.mref 2003,.mref 2004])=some (fT s):=fun ts=>gS (gV (iA _) hk.cE fun n _=>rfl) 4;have hla:aj (dv s) 2000=some (.box (.agg [.int .i64 s.au,.mref 2001,.mref 2002,.int .i64 s.all.length,.mref 2003,.mref 2004])):=fB;have hrd:fL au l=some s:=hrun;rw[hrd];have R:=y6 @hc (y6 @hfin (y6 @hla (y6 @wQ (y6 @bh (y6 @bR (y6 @bB (y6 @bw aD)))))))
  repeat' ((first |refine ae.aF (by decide +kernel) rfl fun K hK =>?_|(refine .ay [0,1,4,5,6,8,11,12,13,14,20] hK ?_;clear hK K)|(with_reducible refine .done (hK _ ?_);clear hK K)|refine ae.of rfl ?_|(with_reducible refine az.aE (fun h =>?_) (fun h =>?_) <;>try simp only[h])) <;>try simp only[aG,R,simprocAttr])
  all_goals clear R
  rfl
theorem Gr(s:aC)(to:Int):a8 Tryz.prog 63 [c8 s,enc to] (.func 107 [.ref (c8 s),.ref (enc to)]):=by
 refine a8.cd Tryz.func63 IG JJ K0 (u8 rfl) (fun hwf W0 bF E1 =>?_);simp only[zA,Ea,bJ,Z1];clear hwf;have hall:([I.ptr 2 [],I.ptr 3 []].all fun y=>y.bT)=true:=rfl;have hv:∀ k n,(I.int k n).bT=true:=fun _ _=>rfl;have R:=y6 @hall (y6 @hv (y6 @dH (y6 @bh (y6 @bR (y6 @bB (y6 @bw aD))))))
 repeat' ((first |refine ae.aF (by decide +kernel) rfl fun K hK =>?_|(refine .ay [0,1,2,3,4] hK ?_;clear hK K)|(with_reducible refine .done (hK _ ?_);clear hK K)|refine ae.of rfl ?_|(with_reducible refine az.aE (fun h =>?_) (fun h =>?_) <;>try simp only[h])) <;>try simp only[aG,R,simprocAttr])
 all_goals clear R
theorem Wv{s:aC}(hk:cG s)(to:Int):(gm s to (bV s.bp).length).Nodup:=by
 have hn:s.bp.Nodup:=by
  simp only[aC.bp];exact List.Pairwise.map _ (fun a b h e=>h (by omega)) hk.iF
 have ab:(bV s.bp).Nodup:=(List.mergeSort_perm _ _).nodup_iff.2 hn;rw[gm,zx3];have hf:=ab.filter (pU s to);exact List.Pairwise.map _ (fun a b h e=>h (by simpa[oa] using congrArg ea.no e)) hf
theorem wm{s:aC}{to:Int} : ∀ {k:Nat} {x:ea},x∈gW s to k→x.no≤k∧(x.kind=2∨x.kind=4)
 |0,x,h=>by simp[gW] at h
 |k+1,x,h=>by
  rw[pj] at h;rcases zy7.1 h with h | h
  ·have:=wm h;omega
  ·simp only[kZ] at h;split at h
   ·rw[zy4.1 h];refine ⟨by simp,?_⟩;simp only;split <;>simp
   ·cases h
theorem Ca(s:aC)(to:Int):∀ k,(gW s to k).Nodup
 |0=>by simp[gW]
 |k+1=>by
  rw[pj];refine List.nodup_append.2 ⟨Ca s to k,?_,fun a ha b hb e =>?_⟩
  ·simp only[kZ];split <;>simp
  ·have J:=(wm ha).1;have U:b.no=(k:Int)+1:=by
    simp only[kZ] at hb;split at hb
    ·rw[zy4.1 hb];simp
    ·cases hb
   rw[e] at J;omega
theorem Y3{s:aC}(hk:cG s)(to:Int):(fA s to).Nodup:=by
 refine List.nodup_append.2 ⟨Wv hk to,Ca s to 200,fun a ha b hb e =>?_⟩;have J:=(wm hb).2;rw[←e] at J;simp only[gm,zy1] at ha;obtain ⟨n,_,rfl⟩:=ha;simp only[oa] at J;split at J <;>omega
def lM(p:bt):List bg:=p.j.take p.eL.toNat
def pH(p:bt)(to:Int):List ea×Int:=match cZ p with
 |none=>([],91)
 |some _=>if dp 0 5 to=false∨to=p.au then ([],90) else match fL p.au (lM p) with
  |some s=>(fA s to,0)
  |none=>([],0)
theorem M8{p:bt}{s:aC}(ho:cZ p=some s):0≤p.eL∧p.eL.toNat≤p.j.length∧∃ s2,fL p.au (lM p)=some s2∧cG s2∧s2.aQ.length≤200:=by
 obtain ⟨_,_,_,ar,h5,h6⟩:=iJ ho;simp only[iH,dp,t8,decide_eq_true_eq] at h5;obtain ⟨_,_,h7,h8⟩:=h5;have hsp:p.j=lM p++p.j.drop p.eL.toNat:=by simp[lM]
 rw[fL,hsp,pO] at h6;cases hr:ga (eU p.au) (lM p) with
 |none=>rw[hr] at h6;cases h6
 |some s2 =>
  refine ⟨h7,by omega,s2,hr,(nc (kV p.au) hr).1,?_⟩;have:=xz hr;simp only[eU,List.length_nil,lM,zy9] at this;omega
theorem Zk{A:ai}{l:List bg}{i:Nat}(h:i≤l.length):jZ A 4 none (some (.int .i64 i)) (some (.int .i64 i)) (enc l)=some (if i=0 then .c0 4 else enc (l.take i)):=by
 simp only[jZ,hE,show Enc.sz bg=4 from rfl,if_true,iP,jk,Z8];rw[if_pos ⟨by omega,by omega,by omega,by omega⟩];by_cases aW:i=0
 ·simp[aW]
 ·rw[if_neg (by simp;omega),if_neg aW];simp
theorem mn{i:Nat}(l:List bg)(aL:Bool)(A:ai):bj aL A (if i=0 then .c0 4 else enc (l.take i))=some (enc (l.take i)):=by
 by_cases aW:i=0
 ·rw[if_pos aW,aW];simp only[bj];rfl
 ·rw[if_neg aW,lH]
theorem B9(s:aC)(to:Int):∀ k,(gW s to k).length≤k
 |0=>by simp[gW]
 |k+1=>by
  have J:=B9 s to k;have U:(kZ s to (k+1)).length≤1:=by simp only[kZ];split <;>simp
  rw[pj,Z7];omega
theorem Y2(s:aC)(to:Int):(fA s to).length≤s.aQ.length+200:=by
 have J:=B9 s to 200;have U:(gm s to (bV s.bp).length).length≤s.aQ.length:=by
  simp only[gm,Z8,zx3];refine zw3 (List.length_filter_le _ _) ?_;simp[bV,aC.bp]
 rw[fA,Z7];omega
def iR(xs:List ea):List (Nat×ao):=[(1000009,.box (.own 1000080 xs.length)),(1000080,.bU 39 5 (xs.map enc))]
theorem Zv(xs ys:List ea):eX (iR xs) (iR ys):=by
 refine ⟨fun n=>by simp only[iR,aw,aj];(repeat' split) <;>rfl,fun n x h =>?_,fun n h =>?_⟩
 ·simp only[iR,aj] at h
  repeat' split at h
  all_goals first | (cases h;done) | (simp only[v6] at h;subst h;exact ⟨by simp[iR,aw,aj,ao.only,I.only,eE],rfl⟩)
 ·simp only[iR,aw,aj] at h
  repeat' split at h
  all_goals first | omega | (simp at h;done)
theorem ur(p:bt)(to:Int):a8 Tryz.prog 14 [enc p,enc to] (.tuple [enc (pH p to).1,enc (pH p to).2]):=by
 refine a8.cd Tryz.func14 Ih Jm KC (u8 rfl) (fun hwf W0 bF E1 =>?_);simp only[za,DI,bJ,Z1];clear hwf;have hF:=uu p;simp only[qg] at hF;simp only[pH];cases ho:cZ p with
 |none =>
  rw[ho] at hF;have R:=y6 @cj (y6 @bh (y6 @bR (y6 @bB (y6 @bw aD))))
  repeat' ((first |(with_reducible refine .guard (fun hb =>?_) (fun hb =>?_) <;>try simp only[hb])|refine ae.aF (by decide +kernel) rfl fun K hK =>?_|refine .lead _ (hF) ?_|(refine .ay [0,1,2,4,5,6,7,9,10,14,24,40,41,54] hK ?_;clear hK K)|(with_reducible refine .done (hK _ ?_);clear hK K)|refine ae.of rfl ?_|(with_reducible refine az.aE (fun h =>?_) (fun h =>?_) <;>try simp only[h])) <;>try simp only[aG,R,simprocAttr])
  all_goals clear R
  all_goals rfl
 |some s =>
  obtain ⟨f1,f2,s2,hr,hk,hl2⟩:=M8 ho;have hjl:=(iJ ho).2.2.2.1;rw[ho] at hF
  dsimp only at hF ⊢
  have hT:=mw to;rcases q2:dp 0 5 to
  ·rw[q2] at hT;simp only[true_or,if_true];have R:=y6 @cj (y6 @bh (y6 @bR (y6 @bB (y6 @bw aD))))
   repeat' ((first |(with_reducible refine .guard (fun hb =>?_) (fun hb =>?_) <;>try simp only[hb])|refine ae.aF (by decide +kernel) rfl fun K hK =>?_|refine .lead _ (hF) ?_|refine .flat _ (hT) rfl ?_|(refine .ay [0,1,2,4,5,6,7,9,10,14,24,40,41,54] hK ?_;clear hK K)|(with_reducible refine .done (hK _ ?_);clear hK K)|refine ae.of rfl ?_|(with_reducible refine az.aE (fun h =>?_) (fun h =>?_) <;>try simp only[h])) <;>try simp only[aG,R,simprocAttr])
   all_goals clear R
   all_goals rfl
  rw[q2] at hT;rcases q3:(to==p.au)
  case true =>
   have e:to=p.au:=by simpa using q3
   simp only[Bool.true_eq_false,false_or,if_pos e];have R:=y6 @q3 (y6 @cj (y6 @bh (y6 @bR (y6 @bB (y6 @bw aD)))))
   repeat' ((first |(with_reducible refine .guard (fun hb =>?_) (fun hb =>?_) <;>try simp only[hb])|refine ae.aF (by decide +kernel) rfl fun K hK =>?_|refine .lead _ (hF) ?_|refine .flat _ (hT) rfl ?_|(refine .ay [0,1,2,4,5,6,7,9,10,14,24,40,41,54] hK ?_;clear hK K)|(with_reducible refine .done (hK _ ?_);clear hK K)|refine ae.of rfl ?_|(with_reducible refine az.aE (fun h =>?_) (fun h =>?_) <;>try simp only[h])) <;>try simp only[aG,R,simprocAttr])
   all_goals clear R
   all_goals rfl
  have e:¬ to=p.au:=by simpa using q3
  simp only[Bool.true_eq_false,false_or,if_neg e,hr];have hR:=Gq p.au (lM p) (by simp only[lM,zy9];omega);rw[hr] at hR;simp only[EE] at hR;obtain ⟨w,hsl,hfw⟩:∃ w:I,(∀ A,jZ A 4 none (some (.int .i64 p.eL)) (some (.int .i64 p.eL)) (enc p.j)=some w)∧∀ aL A,bj aL A w=some (enc (lM p)) :=
   ⟨_,fun A=>by
    have:=Zk (A:=A) (l:=p.j) (i:=p.eL.toNat) f2;rw[show ((p.eL.toNat:Nat):Int)=p.eL by omega] at this;exact this,fun aL A=>mn p.j aL A⟩
  have h63:=Gr s2 to;have R:=y6 @q3 (y6 @hsl (y6 @hfw (y6 @dH (y6 @cj (y6 @bh (y6 @bR (y6 @bB (y6 @bw aD))))))))
  repeat' ((first |(with_reducible refine .guard (fun hb =>?_) (fun hb =>?_) <;>try simp only[hb])|refine ae.aF (by decide +kernel) rfl fun K hK =>?_|refine .lead _ (hF) ?_|refine .flat _ (hT) rfl ?_|refine .lead _ (hR) ?_|refine .lead _ (h63) ?_|(refine .ay [0,1,2,4,5,6,7,9,10,14,24,40,41,54] hK ?_;clear hK K)|(with_reducible refine .done (hK _ ?_);clear hK K)|refine ae.of rfl ?_|(with_reducible refine az.aE (fun h =>?_) (fun h =>?_) <;>try simp only[h])) <;>try simp only[aG,R,Option.map_none,simprocAttr])
  all_goals clear R
  have hcap:I.cq [.ref (c8 s2),.ref (.int .i64 to)]=true:=by simp[I.cq,I.bA,mq]
  refine ae.sub (bm.G0 9 80 39 5 5 [] _ rfl rfl rfl (B:=av [(9,.ptr 9 []),(40,.func 107 [.ref (c8 s2),.ref (.int .i64 to)])] [(9,.box (.own 80 0)),(80,.bU 39 5 [])]) ?_) ?_
  ·simp only[ot];refine bm.cI ?_ ?_ ?_ ?_ <;>simp[*,b6,cD,cm,cn,aw,bZ,cY,I.only,I.cv,ao.only,oy]
  have hnd:=Y3 hk to;refine ae.mc (osb0:=iR []) (tsR:=[(9,.ptr 1000009 [])]) (ρ:=[(1999999,999999),(1000009,9),(1000080,80)])
   (fun k os=>os=iR ((fA s2 to).take k))
   (fun _ _=>False)
   ⟨rfl,rfl⟩ (u8 rfl) (by simp only[bG,simprocAttr]) hcap zZ (FO s2 to (by omega)) (fun _=>rfl) rfl rfl rfl (fun o=>⟨?_,?_⟩) ?_ ?_ ?_ ?_ ?_ ?_ ?_
  ·intro n x hx;simp only[en,iR,aj] at hx
   repeat' split at hx
   all_goals first | (cases hx;done) | (subst_vars;simp only[v6] at hx;subst hx;simp[en,iR,aw,bI,aj,ao.bn,I.bn,I.dU,ao.only,I.only,I.cv,ao.eg])
  ·intro a b ha hb;simp only[en,iR,aw,aj] at ha hb
   repeat' split at ha
   all_goals first | (simp at ha;done) | skip
   all_goals (repeat' split at hb)
   all_goals first | (simp at hb;done) | (subst_vars;simp[bI])
  ·simp[ni,bZ,I.bn,bI,I.only,iR,aw,aj]
  ·rintro k os rfl;exact Zv ..
  ·rintro e os h;exact h.elim
  ·simp[iR]
  ·rintro k osb hk' rfl W1 D1 E1 qN o1 o2;obtain ⟨r,hr0⟩:∃ r,r=(fA s2 to).getD k tJ:=⟨_,rfl⟩
   have hri:(fA s2 to)[k]=r:=by rw[hr0];simp[Z0,hk']
   have hsu:(fA s2 to).take (k+1)=(fA s2 to).take k++[r]:=by rw[Z9 hk',hri]
   have hN2:(fA s2 to).length≤400:=by
    have J:=Y2 s2 to;omega
   have hk2:k<400:=Nat.lt_of_lt_of_le hk' hN2;have hlast:∀ j,j+1=k→∃ u,((fA s2 to).take k)[j]?=some u∧u≠r:=fun j hj=>by
    refine ⟨(fA s2 to)[j],by rw[List.getElem?_take_of_lt (by omega),zz4],fun e =>?_⟩;rw[←hri] at e;have:=(List.getElem_inj hnd).1 e;omega
   have hxl:((fA s2 to).take k).length=k:=by rw[zy9];omega
   generalize (fA s2 to).take k=xs at hsu hlast hxl ⊢;simp only[←hr0,tD,en,iR];have hst:∀ A rest b x y z w u,de A (some 5) 10 [] b (enc r) rest (some (.agg [.int .i64 x,.int .i64 y,.int .i64 z,.int .i64 w,.int .i64 u]))=aB rest (A.aT 10 (.box (enc r))):=fun A rest b x y z w u=>nl.1 A 10 b rest r x y z w u;have R:=y6 @hst (y6 @cj (y6 @bh (y6 @bR (y6 @bB (y6 @bw aD)))))
   repeat' ((first |(with_reducible refine .guard (fun hb =>?_) (fun hb =>?_) <;>try simp only[hb])|refine ae.aF (by decide +kernel) rfl fun K hK =>?_|(refine .ay [0,1,2,4,5,6,7,9,10,14,24,40,41,54] hK ?_;clear hK K)|(with_reducible refine .done (hK _ ?_);clear hK K)|refine ae.of rfl ?_|(with_reducible refine az.aE (fun h =>?_) (fun h =>?_) <;>try simp only[h])) <;>try simp only[aG,R,simprocAttr])
   all_goals clear R
   refine ⟨by simp[],?_⟩;have stOwn:∀ (A:ai) n b m k m' k' rest,de A none n [] b (.own m k) rest (some (.own m' k'))=aB rest (A.aT n (.box (.own m k))) :=
    fun _ _ _ m k m' k' _=>by rw[dG (s:=none) (v:=.own m k) (old:=.own m' k') rfl rfl rfl,ot]
   have hbs:e7 5 (some [enc r])=some (enc [r]):=h3 5 r rfl;have hap:=fun (A:ai) d rest=>mA (A:=A) (d:=d) 39 5 40 1000080 (l:=xs.length) (es:=xs) (ys:=[r]) (rest:=rest) rfl rfl (by simp) (by simp[maxLen];omega) (by simp;omega);have iu:∀ ts z1 z2 z3 z4 z5,EZ o2 (fun os=>os=[(1000009,.box (.own 1000080 ((fA s2 to).take (k+1)).length)),(1000080,.bU 39 5 (((fA s2 to).take (k+1)).map enc))]) (fun _ _=>False) .normal
     (av ts [(1000009,.box (.own 1000080 (xs++[r]).length)),(1000080,.bU 39 5 ((xs++[r]).map enc)),(1999999,.dJ o2),(10,z1),(10,z2),(1999999,z3),(1000009,z4),(1000080,z5)]):=fun ts z1 z2 z3 z4 z5=>by
    refine ⟨_,?_,rfl⟩;rw[hsu];intro n x hx;simp only[en,aj] at hx
    (repeat' split at hx) <;>first
     |(cases hx;done)
     |(subst_vars;simp only[v6] at hx;subst hx;simp[en,aw,av,aj,ao.only,I.only,ao.eg,eE,-List.map_append])
   have hle:=fun (A:ai) (h:A.o 1000080=some (.bU 39 5 (xs.map enc)))=>WN A 1000080 xs.length 39 5 xs h rfl;by_cases aW:k=0
   ·have hz:((xs.length:Int)==0)=true:=by rw[beq_iff_eq];omega
    have R:=y6 @hle (y6 @hz (y6 @hbs (y6 @hap (y6 @stOwn (y6 @cj (y6 @bh (y6 @bR (y6 @bB (y6 @bw aD)))))))))
    repeat' ((first |(with_reducible refine .guard (fun hb =>?_) (fun hb =>?_) <;>try simp only[hb])|refine ae.aF (by decide +kernel) rfl fun K hK =>?_|(refine .ay [0,1,2,4,5,6,7,9,10,14,24,40,41,54] hK ?_;clear hK K)|(with_reducible refine .done (hK _ ?_);clear hK K)|refine ae.of rfl ?_|(with_reducible refine az.aE (fun h =>?_) (fun h =>?_) <;>try simp only[h])) <;>try simp only[aG,R,simprocAttr])
    all_goals clear R
    exact iu _ _ _ _ _ _
   ·have hz:((xs.length:Int)==0)=false:=by rw[beq_eq_false_iff_ne];omega
    obtain ⟨u,hu,hne⟩:=hlast (k-1) (by omega);have hw1:IntKind.i64.wrap ((xs.length:Int)-1)=((k-1:Nat):Int):=by rw[ly _ (by omega) (by omega)];omega
    have hq:=AW u r;rw[decide_eq_false hne] at hq;have hie:=fun (A:ai) (h:A.o 1000080=some (.bU 39 5 (xs.map enc)))=>(by
     have hu2:(xs.map (enc (α:=ea)))[k-1]?=some (enc u):=by rw[zy0,hu];rfl
     have hc:xs.length=(xs.map (enc (α:=ea))).length∧True∧(0:Int)≤((k-1:Nat):Int)∧((k-1:Nat):Int)<((xs.map (enc (α:=ea))).length:Nat):=⟨by simp,trivial,by omega,by simp;omega⟩
     simp only[js,h];rw[if_pos hc,Int.toNat_natCast,hu2];rfl:js A 5 ((k-1:Nat):Int) (.own 1000080 xs.length)=some (.ref (enc u)))
    have R:=y6 @hle (y6 @hz (y6 @hw1 (y6 @hie (y6 @hq (y6 @hbs (y6 @hap (y6 @stOwn (y6 @cj (y6 @bh (y6 @bR (y6 @bB (y6 @bw aD))))))))))))
    repeat' ((first |(with_reducible refine .guard (fun hb =>?_) (fun hb =>?_) <;>try simp only[hb])|refine ae.aF (by decide +kernel) rfl fun K hK =>?_|(refine .ay [0,1,2,4,5,6,7,9,10,14,24,40,41,54] hK ?_;clear hK K)|(with_reducible refine .done (hK _ ?_);clear hK K)|refine ae.of rfl ?_|(with_reducible refine az.aE (fun h =>?_) (fun h =>?_) <;>try simp only[h])) <;>try simp only[aG,R,simprocAttr])
    all_goals clear R
    all_goals exact iu _ _ _ _ _ _
  ·rintro os rfl;rw[zx3];simp only[iR,dE,Z3,zx0,bI,ao.bn,I.bn,tL,ez,jI,reduceIte,Nat.reduceEqDiff,Z5,zy8];have hfo:kd (fA s2 to).length (some (.bU 39 5 ((fA s2 to).map enc)))=some (enc (fA s2 to)):=o6 5 rfl rfl;have R:=y6 @hfo (y6 @cj (y6 @bh (y6 @bR (y6 @bB (y6 @bw aD)))))
   repeat' ((first |(with_reducible refine .guard (fun hb =>?_) (fun hb =>?_) <;>try simp only[hb])|refine ae.aF (by decide +kernel) rfl fun K hK =>?_|(refine .ay [0,1,2,4,5,6,7,9,10,14,24,40,41,54] hK ?_;clear hK K)|(with_reducible refine .done (hK _ ?_);clear hK K)|refine ae.of rfl ?_|(with_reducible refine az.aE (fun h =>?_) (fun h =>?_) <;>try simp only[h])) <;>try simp only[aG,R,simprocAttr])
   all_goals clear R
  ·rintro e os h;exact h.elim
def vt:bt:=⟨0,[],0⟩
def vu:bt:=⟨0,[⟨1,7,0,0⟩],0⟩
def vv:bt:=⟨0,[⟨1,7,0,0⟩],1⟩
def nF:bt:=⟨0,[⟨1,7,0,0⟩,⟨3,7,1,1⟩],1⟩
def nG:bt:=⟨0,[⟨1,7,0,0⟩,⟨3,7,1,1⟩],2⟩
def vw:bt:=⟨0,[⟨1,7,0,0⟩,⟨3,7,1,1⟩,⟨5,7,1,1⟩],2⟩
def vx:bt:=⟨1,[],0⟩
def qm:bt:=⟨1,[⟨7,7,0,1⟩],0⟩
def vy:bt:=⟨1,[⟨7,7,0,1⟩],1⟩
def oY:ea:=⟨1,0,1,7,1⟩
def oZ:ea:=⟨2,1,0,7,1⟩
def vz:fj:=⟨⟨#[112,111,117,110,100,32,48,32,49,10,112,111,117,110,100,32,55,10,115,101,110,100,32,55,32,49,32,49,10]⟩⟩
theorem MC:re 0=(vt,0):=by decide +kernel
theorem MN:re 1=(vx,0):=by decide +kernel
theorem ME:sY vt 7=(vu,0):=by decide +kernel
theorem MF:pT vu=(vv,0):=by decide +kernel
theorem MG:rM vv 7 1=(nF,⟨1,1,7,false⟩,0):=by decide +kernel
theorem MH:pH nF 1=([],0):=by decide +kernel
theorem MI:tC nF=(vz,0):=by decide +kernel
theorem MJ:pT nF=(nG,0):=by decide +kernel
theorem MK:pH nG 1=([oY],0):=by decide +kernel
theorem MO:qB vx oY=(qm,0):=by decide +kernel
theorem MR:mr [nG,qm] 7=([1],0):=by decide +kernel
theorem MP:pT qm=(vy,0):=by decide +kernel
theorem MQ:pH vy 0=([oZ],0):=by decide +kernel
theorem ML:qB nG oZ=(vw,0):=by decide +kernel
theorem MD:tN vw=([],0):=by decide +kernel
theorem HR(a b c d:Int):(dQ [.int .i64 0,.int .i64 0,.int .i64 0,.int .i64 0,.int .i64 0] [(0,.int .i64 a),(2,.int .i64 b),(3,.int .i64 c),(4,.int .i64 d)]).map I.agg=some (enc (⟨a,0,b,c,d⟩:ea)):=by simp[dQ,I.bT,I.size];rfl
theorem HS(a b c d:Int):(dQ [.int .i64 0,.int .i64 0,.int .i64 0,.int .i64 0,.int .i64 0] [(0,.int .i64 a),(1,.int .i64 b),(3,.int .i64 c),(4,.int .i64 d)]).map I.agg=some (enc (⟨a,b,0,c,d⟩:ea)):=by simp[dQ,I.bT,I.size];rfl
theorem HX(r:ea):e7 5 (some [enc r])=some (enc [r]):=h3 5 r rfl
theorem H2(a b:bt):e7 3 (some [enc a,enc b])=some (enc [a,b]):=qd (ys:=[a,b]) 3 rfl
theorem Mw(s:fj)(b:ByteArray)(h:s.b=b):cH .eql (enc s) (.bQ b)=some (.bool true):=by
 subst h
 show cH .eql (.bQ s.b) (.bQ s.b)=_
 simp[cH]
theorem F8:a8 Tryz.prog 18 [] (enc true):=by
 have J:=x6 0;have U:=x6 1;have ah:=Gb vt 7;have ar:=uo vu;have h5:=Gc vv 7 1;have h6:=ur nF 1;have h7:=Gj nF;have h8:=uo nF;have h9:=ur nG 1;have h10:=x7 vx oY;have h11:=x8 [nG,qm] 7;have h12:=uo qm;have h13:=ur vy 0;have h14:=x7 nG oZ;have h15:=Gh vw;rw[MC] at J;rw[MN] at U;rw[ME] at ah;rw[MF] at ar;rw[MG] at h5;rw[MH] at h6;rw[MI] at h7;rw[MJ] at h8;rw[MK] at h9;rw[MO] at h10;rw[MR] at h11;rw[MP] at h12;rw[MQ] at h13;rw[ML] at h14;rw[MD] at h15;simp only at J U ah ar h5 h6 h7 h8 h9 h10 h11 h12 h13 h14 h15;have h16:=x5 [oY] [oY];have h17:=x5 [oZ] [oZ];have h18:=x9 [1] [1];rw[decide_eq_true rfl] at h16 h17 h18;refine a8.cd Tryz.func18 Il Jq KH (u8 rfl) (fun hwf W0 bF E1 =>?_);simp only[ze,DN,bJ];clear hwf;have q3:((0:Int)==0)=true:=rfl;have hst:∀ A n b rest x y z w (q:cC),de A (some 4) n [] b (enc q) rest (some (.agg [.int .i64 x,.int .i64 y,.int .i64 z,.bool w]))=aB rest (A.aT n (.box (enc q))):=fun A n b rest x y z w q=>nm.1 A n b rest q x y z w;have hst2:∀ A n b rest (q:ea) x y z w u,de A (some 5) n [] b (enc q) rest (some (.agg [.int .i64 x,.int .i64 y,.int .i64 z,.int .i64 w,.int .i64 u]))=aB rest (A.aT n (.box (enc q))):=fun A n b rest q x y z w u=>nl.1 A n b rest q x y z w u;have eO:(⟨1,0,1,7,1⟩:ea)=oY:=rfl;have eR:(⟨2,1,0,7,1⟩:ea)=oZ:=rfl;have hR:=AX ⟨1,1,7,false⟩ ⟨1,1,7,false⟩;rw[decide_eq_true rfl] at hR;have hS:cH .eql (enc vz) (.bQ ⟨#[112,111,117,110,100,32,48,32,49,10,112,111,117,110,100,32,55,10,115,101,110,100,32,55,32,49,32,49,10]⟩)=some (.bool true):=Mw vz _ rfl;have hL:∀ α:Type,((([]:List α).length:Nat):Int)=0:=fun _=>rfl;have R:=y6 @q3 (y6 @hL (y6 @hst (y6 @hst2 (y6 @HR (y6 @HS (y6 @eO (y6 @eR (y6 @sw (y6 @HX (y6 @H2 (y6 @yS (y6 @hR (y6 @hS (y6 @cj (y6 @bh (y6 @bR (y6 @bB (y6 @bw aD))))))))))))))))))
 repeat' ((first |(with_reducible refine .guard (fun hb =>?_) (fun hb =>?_) <;>try simp only[hb])|refine ae.aF (by decide +kernel) rfl fun K hK =>?_|refine .lead _ (J) ?_|refine .lead _ (U) ?_|refine .lead _ (ah) ?_|refine .lead _ (ar) ?_|refine .lead _ (h5) ?_|refine .lead _ (h6) ?_|refine .lead _ (h7) ?_|refine .lead _ (h8) ?_|refine .lead _ (h9) ?_|refine .lead _ (h10) ?_|refine .lead _ (h11) ?_|refine .lead _ (h12) ?_|refine .lead _ (h13) ?_|refine .lead _ (h14) ?_|refine .lead _ (h15) ?_|refine .flat _ (h16) rfl ?_|refine .flat _ (h17) rfl ?_|refine .flat _ (h18) rfl ?_|(refine .ay [0,1,2,3,4,5,6,7,8,9,10,11,12,13,14,15,16,17,18,19,20,21,22,23,24,25,26] hK ?_;clear hK K)|(with_reducible refine .done (hK _ ?_);clear hK K)|refine ae.of rfl ?_|(with_reducible refine az.aE (fun h =>?_) (fun h =>?_) <;>try simp only[h])) <;>try simp only[aG,R,simprocAttr])
 all_goals clear R
end Go.Proofs.YthbdbocionnfgaaGreatDoor
namespace Go.Proofs.YthbdbocionnfgaaGreatDoor
open Go Go.Abs Go.ChangeShapes Go.WideShapes Go.RowKit
open Go.Abs.Enc (enc)
theorem Zb{w:World}{D:aP}{E:aY}{x y:I}{a b:Value}(hx:∃ cs,bD x a cs∧al w D E x cs)(hy:∃ cs,bD y b cs∧al w D E y cs):aI w D E [x,y] [a,b]:=by
 obtain ⟨c1,J,U⟩:=hx;obtain ⟨c2,ah,ar⟩:=hy;simp only[aI];exact ⟨a,[b],c1,rfl,J,U,b,[],c2,rfl,ah,ar,rfl⟩
theorem Xm:iW Tryz.prog 53 (List bt):=C2 (by kernel_rfl) Xl (by kernel_rfl)
end Go.Proofs.YthbdbocionnfgaaGreatDoor
namespace Go.Proofs.YthbdbocionnfgaaGreatDoor
open Go Go.Abs
open Go.Abs.Enc (enc)
theorem Zq{l:List Int}(h:l.Pairwise (· < ·)):bV l=l :=
 List.mergeSort_of_pairwise (h.imp fun hab=>decide_eq_true (Int.le_of_lt hab))
theorem dC.bp{s:aC}{t:ct}(h:dC s t):bV s.bp=s.bp :=
 Zq (by
  simp only[aC.bp,List.pairwise_map];exact h.cE.imp fun hab=>by omega)
theorem AG(p:bt):(cZ p).isSome=decide (gv p=0):=by
 rcases both p with ⟨ho,hc⟩ | ⟨s,ho,hc,_⟩
 ·rw[ho,hc];rfl
 ·rw[ho,hc];rfl
theorem yi(l:List bt)(b:Int):a8 Tryz.prog 84 [enc l,enc b] (enc (dm l b).2):=by
 refine a8.cd Tryz.func84 IY JY Lg (u8 rfl) (fun hwf W0 bF E1 =>?_);simp only[zP,Er,bJ,Z1];have hlen:l.length≤maxLen:=((lv l).1 hwf.1).1;simp only[maxLen] at hlen;clear hwf;have hbad:∀ i,i<l.length→fF l i=false→(dm l b).2=96:=fun i hlt h=>by
  have:kK l=false:=by
   simp only[kK,List.all_eq_false];exact ⟨i,zy6.2 hlt,by simp[h]⟩
  simp[dm,this]
 by_cases h6:l.length≤6
 rotate_left
 ·have hq:decide ((l.length:Int)>6)=true:=by simp;omega
  have aA:(dm l b).2=96:=by
   have:kK l=false:=by
    cases hg:kK l with
    |false=>rfl
    |true=>exact absurd (sS (l:=l) (n:=l.length) fun j hj=>zz6.1 hg j (zy6.2 hj)) h6
   simp[dm,this]
  rw[aA];have R:=y6 @hq (y6 @cj (y6 @bh aD))
  repeat' ((first |(with_reducible refine .guard (fun hb =>?_) (fun hb =>?_) <;>try simp only[hb])|refine ae.aF (by decide +kernel) rfl fun K hK =>?_|(refine .ay [0,1,4,5,6,9,10,11,12,13,34,38] hK ?_;clear hK K)|(with_reducible refine .done (hK _ ?_);clear hK K)|refine ae.of rfl ?_|(with_reducible refine az.aE (fun h =>?_) (fun h =>?_) <;>try simp only[h])) <;>try simp only[aG,R,simprocAttr])
  all_goals clear R
 have hq:decide ((l.length:Int)>6)=false:=by simp;omega
 have R:=y6 @hq (y6 @cj (y6 @bh aD))
 repeat' ((first |(with_reducible refine .guard (fun hb =>?_) (fun hb =>?_) <;>try simp only[hb])|refine ae.aF (by decide +kernel) rfl fun K hK =>?_|(refine .ay [0,1,4,5,6,9,10,11,12,13,34,38] hK ?_;clear hK K)|(with_reducible refine .done (hK _ ?_);clear hK K)|refine ae.of rfl ?_|(with_reducible refine az.aE (fun h =>?_) (fun h =>?_) <;>try simp only[h])) <;>try simp only[aG,R,simprocAttr])
 all_goals clear R
 refine ae.loop (fun i:Nat=>av [(0,enc l),(1,.int .i64 b),(10,enc l),(11,.int .i64 l.length),(12,.int .i64 i)] []) (fun i=>i≤l.length∧∀ j,j<i→fF l j=true) (fun i=>l.length-i) 0 ⟨zy3 _,fun j h=>by omega⟩ ?_ ?_
 ·refine bm.cI ?_ ?_ ?_ ?_ <;>simp[b6,cD,cm,cn,bZ,I.only,b7]
 rintro i ⟨hi,hg⟩;by_cases hlt:i<l.length
 ·have hlc:=fm hlt;have he:=fun A=>eb (A:=A) 3 hlt rfl;rw[pI hlt] at he;have hw:=fo (i:=i) (by omega);have hF:=Ga (fe l i);have hcs:=AG (fe l i);by_cases hc:gv (fe l i)=0
  rotate_left
  ·rw[decide_eq_false hc] at hcs;have J:gv (fe l i)=91:=by simp only[gv] at hc ⊢;split <;>simp_all
   rw[J] at hF;rw[hbad i hlt (by simp[fF,hcs])];have R:=y6 @hlc (y6 @he (y6 @cj (y6 @bh aD)))
   repeat' ((first |(with_reducible refine .guard (fun hb =>?_) (fun hb =>?_) <;>try simp only[hb])|refine ae.aF (by decide +kernel) rfl fun K hK =>?_|refine .flat _ (hF) rfl ?_|(refine .ay [0,1,4,5,6,9,10,11,12,13,34,38] hK ?_;clear hK K)|(with_reducible refine .done (hK _ ?_);clear hK K)|refine ae.of rfl ?_|(with_reducible refine az.aE (fun h =>?_) (fun h =>?_) <;>try simp only[h])) <;>try simp only[aG,R,simprocAttr])
   all_goals clear R
  ·rw[decide_eq_true hc] at hcs;rw[hc] at hF;by_cases aW:i=0
   ·have hz:decide ((i:Int)>0)=false:=by simp;omega
    have hgi:fF l i=true:=by simp only[fF,hcs];simp[aW]
    have R:=y6 @hlc (y6 @he (y6 @hz (y6 @hw (y6 @cj (y6 @bh aD)))))
    repeat' ((first |(with_reducible refine .guard (fun hb =>?_) (fun hb =>?_) <;>try simp only[hb])|refine ae.aF (by decide +kernel) rfl fun K hK =>?_|refine .flat _ (hF) rfl ?_|(refine .ay [0,1,4,5,6,9,10,11,12,13,34,38] hK ?_;clear hK K)|(with_reducible refine .done (hK _ ?_);clear hK K)|refine ae.of rfl ?_|(with_reducible refine az.aE (fun h =>?_) (fun h =>?_) <;>try simp only[h])) <;>try simp only[aG,R,simprocAttr])
    all_goals clear R
    refine ⟨i+1,⟨by omega,fun j hj =>?_⟩,by omega,?_⟩
    ·by_cases e:j=i
     ·rw[e];exact hgi
     ·exact hg j (by omega)
    ·refine bm.cI ?_ ?_ ?_ ?_ <;>simp[b6,cD,cm,cn,bZ,I.only,b7]
   ·have hz:decide ((i:Int)>0)=true:=by simp;omega
    have hw1:IntKind.i64.wrap ((i:Int)-1)=((i-1:Nat):Int):=by rw[ly _ (by omega) (by omega)];omega
    have he1:∀ A,js A 3 ((i-1:Nat):Int) (enc l)=some (.ref (enc (fe l (i-1)))):=fun A=>by
     have hlt1:i-1<l.length:=by omega
     have:=eb (A:=A) 3 hlt1 rfl;rw[pI hlt1] at this;exact this
    rcases q:decide ((fe l (i-1)).au≥(fe l i).au)
    ·have hgi:fF l i=true:=by
      have:(fe l (i-1)).au<(fe l i).au:=by have:=of_decide_eq_false q;omega
      simp[fF,hcs,this]
     have R:=y6 @hlc (y6 @he (y6 @hz (y6 @hw1 (y6 @he1 (y6 @q (y6 @hw (y6 @cj (y6 @bh aD))))))))
     repeat' ((first |(with_reducible refine .guard (fun hb =>?_) (fun hb =>?_) <;>try simp only[hb])|refine ae.aF (by decide +kernel) rfl fun K hK =>?_|refine .flat _ (hF) rfl ?_|(refine .ay [0,1,4,5,6,9,10,11,12,13,34,38] hK ?_;clear hK K)|(with_reducible refine .done (hK _ ?_);clear hK K)|refine ae.of rfl ?_|(with_reducible refine az.aE (fun h =>?_) (fun h =>?_) <;>try simp only[h])) <;>try simp only[aG,R,simprocAttr])
     all_goals clear R
     refine ⟨i+1,⟨by omega,fun j hj =>?_⟩,by omega,?_⟩
     ·by_cases e:j=i
      ·rw[e];exact hgi
      ·exact hg j (by omega)
     ·refine bm.cI ?_ ?_ ?_ ?_ <;>simp[b6,cD,cm,cn,bZ,I.only,b7]
    ·have hgi:fF l i=false:=by
      have:¬ (fe l (i-1)).au<(fe l i).au:=by have:=of_decide_eq_true q;omega
      simp[fF,this,aW]
     rw[hbad i hlt hgi];have R:=y6 @hlc (y6 @he (y6 @hz (y6 @hw1 (y6 @he1 (y6 @q (y6 @hw (y6 @cj (y6 @bh aD))))))))
     repeat' ((first |(with_reducible refine .guard (fun hb =>?_) (fun hb =>?_) <;>try simp only[hb])|refine ae.aF (by decide +kernel) rfl fun K hK =>?_|refine .flat _ (hF) rfl ?_|(refine .ay [0,1,4,5,6,9,10,11,12,13,34,38] hK ?_;clear hK K)|(with_reducible refine .done (hK _ ?_);clear hK K)|refine ae.of rfl ?_|(with_reducible refine az.aE (fun h =>?_) (fun h =>?_) <;>try simp only[h])) <;>try simp only[aG,R,simprocAttr])
     all_goals clear R
 ·have hge:i=l.length:=by omega
  have hlc:=fu hlt;have hgood:kK l=true:=zz6.2 fun j hj=>hg j (by have:=zy6.1 hj;omega);have hB:=ye b;rcases q:dp 1 9999 b
  ·rw[q] at hB;rw[show (dm l b).2=1 by simp[dm,hgood,q]];have R:=y6 @hlc (y6 @cj (y6 @bh aD))
   repeat' ((first |(with_reducible refine .guard (fun hb =>?_) (fun hb =>?_) <;>try simp only[hb])|refine ae.aF (by decide +kernel) rfl fun K hK =>?_|refine .flat _ (hB) rfl ?_|(refine .ay [0,1,4,5,6,9,10,11,12,13,34,38] hK ?_;clear hK K)|(with_reducible refine .done (hK _ ?_);clear hK K)|refine ae.of rfl ?_|(with_reducible refine az.aE (fun h =>?_) (fun h =>?_) <;>try simp only[h])) <;>try simp only[aG,R,simprocAttr])
   all_goals clear R
  ·rw[q] at hB;rw[show (dm l b).2=0 by simp[dm,hgood,q]];have R:=y6 @hlc (y6 @cj (y6 @bh aD))
   repeat' ((first |(with_reducible refine .guard (fun hb =>?_) (fun hb =>?_) <;>try simp only[hb])|refine ae.aF (by decide +kernel) rfl fun K hK =>?_|refine .flat _ (hB) rfl ?_|(refine .ay [0,1,4,5,6,9,10,11,12,13,34,38] hK ?_;clear hK K)|(with_reducible refine .done (hK _ ?_);clear hK K)|refine ae.of rfl ?_|(with_reducible refine az.aE (fun h =>?_) (fun h =>?_) <;>try simp only[h])) <;>try simp only[aG,R,simprocAttr])
   all_goals clear R
theorem sR{l:List bt}{b:Int}(h:(dm l b).2=0):kK l=true∧dp 1 9999 b=true∧(∀ p∈l,gv p=0)∧l.length≤6∧(dm l b).1=j0 l:=by
 simp only[dm] at h ⊢;split at h
 ·rename_i hg;split at h
  ·rename_i hb;refine ⟨hg,hb,fun p hp =>?_,sS (l:=l) (n:=l.length) fun j hj=>zz6.1 hg j (zy6.2 hj),by rw[if_pos hg,if_pos hb]⟩;obtain ⟨i,hi,rfl⟩:=List.mem_iff_getElem.1 hp;have J:=zz6.1 hg i (zy6.2 hi);simp only[fF,t8,AG,decide_eq_true_eq] at J;rw[pI hi];exact J.1
  ·cases h
 ·cases h
theorem yI{l:List bt}{b:Int}(h:¬ (dm l b).2=0):(dm l b).1=[]:=by
 simp only[dm] at h ⊢;split
 ·rename_i hg;rw[if_pos hg] at h;split
  ·rename_i hb;rw[if_pos hb] at h;exact absurd rfl h
  ·rfl
 ·rfl
theorem Fs{l:List bt}(h:∀ p∈l,gv p=0):∃ f:bt→aC,j0 l=l.map f∧∀ p∈l,cZ p=some (f p)∧dC (f p) (eh p)∧(f p).au=p.au:=by
 refine ⟨fun p=>(cZ p).getD default,?_,fun p hp =>?_⟩
 ·simp only[j0]
  induction l with
  |nil=>rfl
  |cons p l ih =>
   have hp:=h p List.mem_cons_self;rcases both p with ⟨ho,hc⟩ | ⟨s,ho,_⟩
   ·rw[hp] at hc;cases hc
   ·rw[List.filterMap_cons,ho,Z3,ih fun q hq=>h q (List.mem_cons_of_mem _ hq),ho];rfl
 ·rcases both p with ⟨ho,hc⟩ | ⟨s,ho,hc,hr,_⟩
  ·rw[h p hp] at hc;cases hc
  ·show cZ p=some ((cZ p).getD default)∧dC ((cZ p).getD default) (eh p)∧((cZ p).getD default).au=p.au
   rw[ho];exact ⟨rfl,hr,(iJ ho).2.1⟩
def oF(l:List bt)(b:Int):List Int:=(l.filter fun p=>decide (b∈(eh p).here)).map (·.au)
theorem ZT(l:List bt)(b:Int):mr l b=if (dm l b).2=0 then (oF l b,0) else ([],(dm l b).2):=by
 by_cases h:(dm l b).2=0
 ·obtain ⟨-,-,hall,-,hst⟩:=sR h;obtain ⟨f,hf,hr⟩:=Fs hall;rw[if_pos h];simp only[mr,h,hst,hf,oF]
  congr 1
  clear hf hst h hall
  induction l with
  |nil=>rfl
  |cons p l ih =>
   obtain ⟨_,J,U⟩:=hr p List.mem_cons_self;have ih':=ih fun q hq=>hr q (List.mem_cons_of_mem _ hq);simp only[Z3,zw4,J.AP];by_cases c:b∈(f p).here
   ·simp only[decide_eq_true c,if_true,Z3,U,ih']
   ·simp only[decide_eq_false c,Z2,if_false,ih']
 ·rw[if_neg h];simp only[mr,yI h];rfl
theorem ZR(l:List bt)(b:Int){i:Nat}(h:i<l.length):oF (l.take (i+1)) b=oF (l.take i) b++if b∈(eh l[i]).here then [(l[i]).au] else []:=by
 simp only[oF,Z9 h,List.filter_append,zz3,zw4,List.filter_nil]
 congr 1
 by_cases c:b∈(eh l[i]).here
 ·rw[if_pos c,decide_eq_true c];rfl
 ·rw[if_neg c,decide_eq_false c];rfl
def uD(l:List bt)(b:Int)(t:Nat×List Int):ai:=av [(1,.int .i64 b),(5,.int .i64 0),(7,.own 905 t.2.length),(16,enc l),(17,.int .i64 l.length),(18,.int .i64 t.1)] [(905,.bU 3 1 (t.2.map enc))]
theorem Gd(l:List bt)(b:Int):a8 Tryz.prog 38 [enc l,enc b] (.tuple [enc (mr l b).1,enc (mr l b).2]):=by
 refine a8.cd Tryz.func38 Iv Jz KQ (u8 rfl) (fun hwf W0 bF E1 =>?_);simp only[zn,DW,bJ,Z1];clear hwf;have hF1:=yi l b;rw[ZT];by_cases h:(dm l b).2=0
 rotate_left
 ·have hq:((dm l b).2 != 0)=true:=by simpa using h
  rw[if_neg h];have R:=y6 @hq (y6 @cj (y6 @bh aD))
  repeat' ((first |refine ae.aF (by decide +kernel) rfl fun K hK =>?_|refine .flat _ (hF1) rfl ?_|(refine .ay [0,1,4,5,6,7,9,14,16,17,18,19,26] hK ?_;clear hK K)|(with_reducible refine .done (hK _ ?_);clear hK K)|refine ae.of rfl ?_|(with_reducible refine az.aE (fun h =>?_) (fun h =>?_) <;>try simp only[h])) <;>try simp only[aG,R,simprocAttr])
  all_goals clear R
  all_goals rfl
 obtain ⟨_,_,hall,hl6,_⟩:=sR h;rw[if_pos h];rw[h] at hF1;have R:=y6 @cj (y6 @bh aD)
 repeat' ((first |refine ae.aF (by decide +kernel) rfl fun K hK =>?_|refine .flat _ (hF1) rfl ?_|(refine .ay [0,1,4,5,6,7,9,14,16,17,18,19,26] hK ?_;clear hK K)|(with_reducible refine .done (hK _ ?_);clear hK K)|refine ae.of rfl ?_|(with_reducible refine az.aE (fun h =>?_) (fun h =>?_) <;>try simp only[h])) <;>try simp only[aG,R,simprocAttr])
 all_goals clear R
 have hbs:∀ y:Int,e7 1 (some [.int .i64 y])=some (enc [y]):=fun y=>h3 1 y rfl;refine ae.loop (uD l b) (fun t=>t.1≤l.length∧t.2=oF (l.take t.1) b∧t.2.length≤t.1) (fun t=>l.length-t.1) (0,[]) ⟨zy3 _,rfl,Z4 _⟩ ?_ ?_
 ·refine bm.nx 7 905 3 1 1 rfl rfl ?_;simp only[uD];refine bm.cI ?_ ?_ ?_ ?_ <;>simp[b6,cD,cm,cn,aw,bZ,cY,I.only,I.cv,ao.only,b7]
 rintro ⟨i,xs⟩ ⟨hi,hxs,hxl⟩;simp only at hi hxs hxl;simp only[uD];by_cases hlt:i<l.length
 ·have hlc:=fm hlt;have he:=fun A=>eb (A:=A) 3 hlt rfl;have hw:=fo (i:=i) (by omega);have hsn:=ZR l b hlt;rw[←hxs] at hsn;have hc:=hall _ (zx8 hlt);obtain ⟨p,hp⟩:∃ p,p=l[i]:=⟨_,rfl⟩
  rw[←hp] at he hsn hc;have hF2:=uw p (oS hc).2.1;have hF3:=yg (eh p).here b;have hap:=fun (A:ai) d rest y=>mA (A:=A) (d:=d) 3 1 8 905 (l:=xs.length) (es:=xs) (ys:=[y]) (rest:=rest) rfl rfl (by simp) (by simp[maxLen];omega) (by simp;omega);by_cases q:b∈(eh p).here
  ·rw[if_pos q] at hsn;rw[decide_eq_true q] at hF3;have R:=y6 @hlc (y6 @he (y6 @hw (y6 @hbs (y6 @hap (y6 @vR (y6 @cF (y6 @cj (y6 @bh aD))))))))
   repeat' ((first |refine ae.aF (by decide +kernel) rfl fun K hK =>?_|refine .lead _ (hF2) ?_|refine .flat _ (hF3) rfl ?_|(refine .ay [0,1,4,5,6,7,9,14,16,17,18,19,26] hK ?_;clear hK K)|(with_reducible refine .done (hK _ ?_);clear hK K)|refine ae.of rfl ?_|(with_reducible refine az.aE (fun h =>?_) (fun h =>?_) <;>try simp only[h])) <;>try simp only[aG,R,simprocAttr])
   all_goals clear R
   refine ⟨(i+1,xs++[p.au]),⟨by simp only;omega,hsn.symm,by simp only[Z7,zw1];omega⟩,by simp only;omega,?_⟩;simp only[];clear hxs hsn hp;refine bm.cI ?_ ?_ ?_ ?_ <;>simp[b6,cD,cm,cn,aw,bZ,cY,I.only,I.cv,ao.only,eE,mR,b7,eC]
  ·rw[if_neg q,zx4] at hsn;rw[decide_eq_false q] at hF3;have R:=y6 @hlc (y6 @he (y6 @hw (y6 @vR (y6 @cF (y6 @cj (y6 @bh aD))))))
   repeat' ((first |refine ae.aF (by decide +kernel) rfl fun K hK =>?_|refine .lead _ (hF2) ?_|refine .flat _ (hF3) rfl ?_|(refine .ay [0,1,4,5,6,7,9,14,16,17,18,19,26] hK ?_;clear hK K)|(with_reducible refine .done (hK _ ?_);clear hK K)|refine ae.of rfl ?_|(with_reducible refine az.aE (fun h =>?_) (fun h =>?_) <;>try simp only[h])) <;>try simp only[aG,R,simprocAttr])
   all_goals clear R
   refine ⟨(i+1,xs),⟨by simp only;omega,hsn.symm,by simp only;omega⟩,by simp only;omega,?_⟩;simp only[];clear hxs hsn hp;refine bm.cI ?_ ?_ ?_ ?_ <;>simp[b6,cD,cm,cn,aw,bZ,cY,I.only,ao.only,eE,b7]
 ·have hlc:=fu hlt;have hge:i=l.length:=by omega
  rw[show oF l b=xs by rw[hxs,hge,zx3]];have R:=y6 @hlc (y6 @vJ (y6 @cj (y6 @bh aD)))
  repeat' ((first |refine ae.aF (by decide +kernel) rfl fun K hK =>?_|(refine .ay [0,1,4,5,6,7,9,14,16,17,18,19,26] hK ?_;clear hK K)|(with_reducible refine .done (hK _ ?_);clear hK K)|refine ae.of rfl ?_|(with_reducible refine az.aE (fun h =>?_) (fun h =>?_) <;>try simp only[h])) <;>try simp only[aG,R,simprocAttr])
  all_goals clear R
def iV(au:Int)(r:cC)(q:bt):Bool:=(q.au==r.to)&&(gZ (eh q) au r.no==7)
def gJ(l:List bt)(b au:Int)(r:cC):Bool:=(r.aK==b) && !(l.any (iV au r))
def l4(l0:List bt)(b:Int)(l:List bt):List cC:=l.flatMap fun p=>(eh p).br.filter (gJ l0 b p.au)
def l5(l:List bt)(b:Int):List cC×Int:=if (dm l b).2=0 then (l4 l b l,0) else ([],(dm l b).2)
theorem YF(l0:List bt)(b:Int){l:List bt}{i:Nat}(h:i<l.length):l4 l0 b (l.take (i+1))=l4 l0 b (l.take i)++(eh l[i]).br.filter (gJ l0 b l[i].au):=by
 simp only[l4,Z9 h,List.flatMap_append,List.flatMap_cons,List.flatMap_nil,zx4]
def lB(l:List bt)(b:Int)(i:Nat)(ts:List (Nat×I))(os:List (Nat×ao))(xs:List cC):ai :=
 av ([(0,enc l),(1,.int .i64 b),(5,.int .i64 0),(7,.own 905 xs.length),(21,enc l),(22,.int .i64 l.length),(23,.int .i64 i)]++ts) ((905,.bU 48 4 (xs.map enc))::os)
theorem Bc{xs:List cC} : kd xs.length (some (.bU 48 4 (xs.map enc)))=some (enc xs):=o6 4 rfl rfl
theorem np(A:ai)(n:Nat)(b:I)(q:cC)(x y z:Int)(w:Bool)(rest:List aH):de A (some 4) n [] b (enc q) rest (some (.agg [.int .i64 x,.int .i64 y,.int .i64 z,.bool w]))=aB rest (A.aT n (.box (enc q))):=dG (ef _) (by rw[fb];rfl) (eH _)
theorem rO(A:ai)(n:Nat)(b:I)(q:bt)(x y:Int)(rest:List aH):de A (some 3) n [] b (enc q) rest (some (.agg [.int .i64 x,.nils 4,.int .i64 y]))=aB rest (A.aT n (.box (enc q))):=dG (ef _) (by rw[fb];rfl) (eH _)
theorem Gf(l:List bt)(b:Int):a8 Tryz.prog 40 [enc l,enc b] (.tuple [enc (l5 l b).1,enc (l5 l b).2]):=by
 refine a8.cd Tryz.func40 Iy JB KS (u8 rfl) (fun hwf W0 bF E1 =>?_);simp only[zp,DY,bJ,Z1];clear hwf;have hF1:=yi l b;by_cases h:(dm l b).2=0
 rotate_left
 ·have hq:((dm l b).2 != 0)=true:=by simpa using h
  rw[show l5 l b=([],(dm l b).2) by simp only[l5,if_neg h]];have R:=y6 @hq (y6 @cj (y6 @bh aD))
  repeat' ((first |(with_reducible refine .guard (fun hb =>?_) (fun hb =>?_) <;>try simp only[hb])|refine ae.aF (by decide +kernel) rfl fun K hK =>?_|refine .flat _ (hF1) rfl ?_|(refine .ay [0,1,4,5,6,7,9,11,12,14,19,21,22,23,24,29,30,31,32,35,36,37,38,67] hK ?_;clear hK K)|(with_reducible refine .done (hK _ ?_);clear hK K)|refine ae.of rfl ?_|(with_reducible refine az.aE (fun h =>?_) (fun h =>?_) <;>try simp only[h])) <;>try simp only[aG,R,simprocAttr])
  all_goals clear R
  all_goals rfl
 obtain ⟨_,_,hall,hl6,_⟩:=sR h;rw[show l5 l b=(l4 l b l,0) by simp only[l5,if_pos h]];rw[h] at hF1;have R:=y6 @cj (y6 @bh aD)
 repeat' ((first |(with_reducible refine .guard (fun hb =>?_) (fun hb =>?_) <;>try simp only[hb])|refine ae.aF (by decide +kernel) rfl fun K hK =>?_|refine .flat _ (hF1) rfl ?_|(refine .ay [0,1,4,5,6,7,9,11,12,14,19,21,22,23,24,29,30,31,32,35,36,37,38,67] hK ?_;clear hK K)|(with_reducible refine .done (hK _ ?_);clear hK K)|refine ae.of rfl ?_|(with_reducible refine az.aE (fun h =>?_) (fun h =>?_) <;>try simp only[h])) <;>try simp only[aG,R,simprocAttr])
 all_goals clear R
 have hbs:∀ y:cC,e7 4 (some [enc y])=some (enc [y]):=fun y=>h3 4 y rfl;refine ae.loop (fun t:Nat×List cC=>lB l b t.1 [] [] t.2) (fun t=>t.1≤l.length∧t.2=l4 l b (l.take t.1)∧t.2.length≤200*t.1) (fun t=>l.length-t.1) (0,[]) ⟨zy3 _,rfl,zy3 _⟩ ?_ ?_
 ·refine bm.nx 7 905 48 4 4 rfl rfl ?_;simp only[lB,Z5,zy8];refine bm.cI ?_ ?_ ?_ ?_ <;>simp[b6,cD,cm,cn,aw,bZ,cY,I.only,I.cv,ao.only,b7]
 rintro ⟨i,xs⟩ ⟨hi,hxs,hxl⟩;simp only at hi hxs hxl;simp only[lB,Z5,zy8];by_cases hlt:i<l.length
 rotate_left
 ·have hlc:=fu hlt;have hge:i=l.length:=by omega
  rw[show l4 l b l=xs by rw[hxs,hge,zx3]];have R:=y6 @hlc (y6 @Bc (y6 @cj (y6 @bh aD)))
  repeat' ((first |(with_reducible refine .guard (fun hb =>?_) (fun hb =>?_) <;>try simp only[hb])|refine ae.aF (by decide +kernel) rfl fun K hK =>?_|(refine .ay [0,1,4,5,6,7,9,11,12,14,19,21,22,23,24,29,30,31,32,35,36,37,38,67] hK ?_;clear hK K)|(with_reducible refine .done (hK _ ?_);clear hK K)|refine ae.of rfl ?_|(with_reducible refine az.aE (fun h =>?_) (fun h =>?_) <;>try simp only[h])) <;>try simp only[aG,R,simprocAttr])
  all_goals clear R
 have hlc:=fm hlt;have he:=fun A=>eb (A:=A) 3 hlt rfl;have hw:=fo (i:=i) (by omega);have hsn:=YF l b hlt;rw[←hxs] at hsn;have hc:=hall _ (zx8 hlt);obtain ⟨p,hp⟩:∃ p,p=l[i]:=⟨_,rfl⟩
 rw[←hp] at he hsn hc;have hF2:=uw p (oS hc).2.1;have hrl:(eh p).br.length≤200:=zw3 (wU hc).2.aq (oS hc).2.1;have R:=y6 @hlc (y6 @he (y6 @vR (y6 @rO (y6 @cF (y6 @cj (y6 @bh aD))))))
 repeat' ((first |(with_reducible refine .guard (fun hb =>?_) (fun hb =>?_) <;>try simp only[hb])|refine ae.aF (by decide +kernel) rfl fun K hK =>?_|refine .lead _ (hF2) ?_|(refine .ay [0,1,4,5,6,7,9,11,12,14,19,21,22,23,24,29,30,31,32,35,36,37,38,67] hK ?_;clear hK K)|(with_reducible refine .done (hK _ ?_);clear hK K)|refine ae.of rfl ?_|(with_reducible refine az.aE (fun h =>?_) (fun h =>?_) <;>try simp only[h])) <;>try simp only[aG,R,simprocAttr])
 all_goals clear R
 refine ae.loop (fun t:Nat×List cC=>lB l b i [(9,.ptr 9 []),(29,enc (eh p).br),(30,.int .i64 (eh p).br.length),(31,.int .i64 t.1)] [(9,.box (enc p))] t.2) (fun t=>t.1≤(eh p).br.length∧t.2=xs++((eh p).br.take t.1).filter (gJ l b p.au)∧t.2.length≤200*i+t.1) (fun t=>(eh p).br.length-t.1) (0,xs) ⟨zy3 _,by simp,by simp only;omega⟩ ?_ ?_
 ·simp only[lB,Z5,zy8];clear hxs hsn hp;refine bm.cI ?_ ?_ ?_ ?_ <;>simp[b6,cD,cm,cn,aw,bZ,cY,I.only,ao.only,eE,b7]
 rintro ⟨j,ys⟩ ⟨hj,hys,hyl⟩;simp only at hj hys hyl;simp only[lB,Z5,zy8];by_cases hjt:j<(eh p).br.length
 rotate_left
 ·have hjc:=fu hjt;have hge:j=(eh p).br.length:=by omega
  rw[hge,zx3] at hys;have R:=y6 @hjc (y6 @hw (y6 @cj (y6 @bh aD)))
  repeat' ((first |(with_reducible refine .guard (fun hb =>?_) (fun hb =>?_) <;>try simp only[hb])|refine ae.aF (by decide +kernel) rfl fun K hK =>?_|(refine .ay [0,1,4,5,6,7,9,11,12,14,19,21,22,23,24,29,30,31,32,35,36,37,38,67] hK ?_;clear hK K)|(with_reducible refine .done (hK _ ?_);clear hK K)|refine ae.of rfl ?_|(with_reducible refine az.aE (fun h =>?_) (fun h =>?_) <;>try simp only[h])) <;>try simp only[aG,R,simprocAttr])
  all_goals clear R
  refine ⟨(i+1,ys),⟨by simp only;omega,?_,by simp only;omega⟩,by simp only;omega,?_⟩
  ·simp only;rw[hsn];exact hys
  ·simp only[];clear hxs hsn hp hys;refine bm.cI ?_ ?_ ?_ ?_ <;>simp[b6,cD,cm,cn,aw,bZ,cY,I.only,ao.only,eE,b7]
 have hjc:=fm hjt;have hje:=fun A=>eb (A:=A) 4 hjt rfl;have hjw:=fo (i:=j) (by omega);have hjs:xs++((eh p).br.take (j+1)).filter (gJ l b p.au)=ys++if gJ l b p.au (eh p).br[j] then [(eh p).br[j]] else []:=by
  rw[Z9 hjt,List.filter_append,zw4,List.filter_nil,←zz1,←hys]
 obtain ⟨r,hr⟩:∃ r,r=(eh p).br[j]:=⟨_,rfl⟩
 rw[←hr] at hje hjs;have R:=y6 @hjc (y6 @hje (y6 @np (y6 @cj (y6 @bh aD))))
 repeat' ((first |(with_reducible refine .guard (fun hb =>?_) (fun hb =>?_) <;>try simp only[hb])|refine ae.aF (by decide +kernel) rfl fun K hK =>?_|(refine .ay [0,1,4,5,6,7,9,11,12,14,19,21,22,23,24,29,30,31,32,35,36,37,38,67] hK ?_;clear hK K)|(with_reducible refine .done (hK _ ?_);clear hK K)|refine ae.of rfl ?_|(with_reducible refine az.aE (fun h =>?_) (fun h =>?_) <;>try simp only[h])) <;>try simp only[aG,R,simprocAttr])
 all_goals clear R
 refine ae.loop (fun k:Nat=>lB l b i [(9,.ptr 9 []),(29,enc (eh p).br),(30,.int .i64 (eh p).br.length),(31,.int .i64 j),(11,.ptr 11 []),(12,.bool ((l.take k).any (iV p.au r))),(35,enc l),(36,.int .i64 l.length),(37,.int .i64 k)] [(9,.box (enc p)),(11,.box (enc r))] ys) (fun k=>k≤l.length) (fun k=>l.length-k) 0 (zy3 _) ?_ (fun k hk =>?_)
 ·simp only[lB,Z5,zy8];clear hxs hsn hp hys hr hjs;refine bm.cI ?_ ?_ ?_ ?_ <;>simp[b6,cD,cm,cn,aw,bZ,cY,I.only,ao.only,eE,b7]
 simp only[lB,Z5,zy8];by_cases hkt:k<l.length
 ·have hkc:=fm hkt;have hke:=fun A=>eb (A:=A) 3 hkt rfl;have hkw:=fo (i:=k) (by omega);have hks:(l.take (k+1)).any (iV p.au r)=((l.take k).any (iV p.au r)||iV p.au r l[k]):=by
   rw[Z9 hkt,List.any_append,List.any_cons,List.any_nil,Bool.or_false]
  have hkc2:=hall _ (zx8 hkt);obtain ⟨q,hq⟩:∃ q,q=l[k]:=⟨_,rfl⟩
  rw[←hq] at hke hks hkc2;have hF3:=uw q (oS hkc2).2.1;have hF4:=uy (eh q) p.au r.no (wU hkc2).1.ab;rcases q1:(l.take k).any (iV p.au r)
  ·rcases q2:(q.au==r.to)
   ·have hz:(l.take (k+1)).any (iV p.au r)=false:=by rw[hks,q1];simp[iV,q2]
    have R:=y6 @hkc (y6 @hke (y6 @hkw (y6 @q1 (y6 @q2 (y6 @rO (y6 @np (y6 @cj (y6 @bh aD))))))))
    repeat' ((first |(with_reducible refine .guard (fun hb =>?_) (fun hb =>?_) <;>try simp only[hb])|refine ae.aF (by decide +kernel) rfl fun K hK =>?_|refine .lead _ (hF3) ?_|refine .flat _ (hF4) rfl ?_|(refine .ay [0,1,4,5,6,7,9,11,12,14,19,21,22,23,24,29,30,31,32,35,36,37,38,67] hK ?_;clear hK K)|(with_reducible refine .done (hK _ ?_);clear hK K)|refine ae.of rfl ?_|(with_reducible refine az.aE (fun h =>?_) (fun h =>?_) <;>try simp only[h])) <;>try simp only[aG,R,simprocAttr])
    all_goals clear R
    refine ⟨k+1,by omega,by omega,?_⟩;rw[hz];clear hxs hsn hp hys hr hjs;refine bm.cI ?_ ?_ ?_ ?_ <;>simp[b6,cD,cm,cn,aw,bZ,cY,I.only,ao.only,eE,b7]
   ·rcases q3:(gZ (eh q) p.au r.no==7)
    ·have hz:(l.take (k+1)).any (iV p.au r)=false:=by rw[hks,q1];simp[iV,q3]
     have R:=y6 @hkc (y6 @hke (y6 @hkw (y6 @q1 (y6 @q2 (y6 @q3 (y6 @rO (y6 @np (y6 @cj (y6 @bh aD)))))))))
     repeat' ((first |(with_reducible refine .guard (fun hb =>?_) (fun hb =>?_) <;>try simp only[hb])|refine ae.aF (by decide +kernel) rfl fun K hK =>?_|refine .lead _ (hF3) ?_|refine .flat _ (hF4) rfl ?_|(refine .ay [0,1,4,5,6,7,9,11,12,14,19,21,22,23,24,29,30,31,32,35,36,37,38,67] hK ?_;clear hK K)|(with_reducible refine .done (hK _ ?_);clear hK K)|refine ae.of rfl ?_|(with_reducible refine az.aE (fun h =>?_) (fun h =>?_) <;>try simp only[h])) <;>try simp only[aG,R,simprocAttr])
     all_goals clear R
     refine ⟨k+1,by omega,by omega,?_⟩;rw[hz];clear hxs hsn hp hys hr hjs;refine bm.cI ?_ ?_ ?_ ?_ <;>simp[b6,cD,cm,cn,aw,bZ,cY,I.only,ao.only,eE,b7]
    ·have hz:(l.take (k+1)).any (iV p.au r)=true:=by rw[hks,q1];simp[iV,q2,q3]
     have R:=y6 @hkc (y6 @hke (y6 @hkw (y6 @q1 (y6 @q2 (y6 @q3 (y6 @rO (y6 @np (y6 @cj (y6 @bh aD)))))))))
     repeat' ((first |(with_reducible refine .guard (fun hb =>?_) (fun hb =>?_) <;>try simp only[hb])|refine ae.aF (by decide +kernel) rfl fun K hK =>?_|refine .lead _ (hF3) ?_|refine .flat _ (hF4) rfl ?_|(refine .ay [0,1,4,5,6,7,9,11,12,14,19,21,22,23,24,29,30,31,32,35,36,37,38,67] hK ?_;clear hK K)|(with_reducible refine .done (hK _ ?_);clear hK K)|refine ae.of rfl ?_|(with_reducible refine az.aE (fun h =>?_) (fun h =>?_) <;>try simp only[h])) <;>try simp only[aG,R,simprocAttr])
     all_goals clear R
     refine ⟨k+1,by omega,by omega,?_⟩;rw[hz];clear hxs hsn hp hys hr hjs;refine bm.cI ?_ ?_ ?_ ?_ <;>simp[b6,cD,cm,cn,aw,bZ,cY,I.only,ao.only,eE,b7]
  ·have hz:(l.take (k+1)).any (iV p.au r)=true:=by rw[hks,q1];rfl
   have R:=y6 @hkc (y6 @hke (y6 @hkw (y6 @q1 (y6 @rO (y6 @np (y6 @cj (y6 @bh aD)))))))
   repeat' ((first |(with_reducible refine .guard (fun hb =>?_) (fun hb =>?_) <;>try simp only[hb])|refine ae.aF (by decide +kernel) rfl fun K hK =>?_|refine .lead _ (hF3) ?_|refine .flat _ (hF4) rfl ?_|(refine .ay [0,1,4,5,6,7,9,11,12,14,19,21,22,23,24,29,30,31,32,35,36,37,38,67] hK ?_;clear hK K)|(with_reducible refine .done (hK _ ?_);clear hK K)|refine ae.of rfl ?_|(with_reducible refine az.aE (fun h =>?_) (fun h =>?_) <;>try simp only[h])) <;>try simp only[aG,R,simprocAttr])
   all_goals clear R
   refine ⟨k+1,by omega,by omega,?_⟩;rw[hz];clear hxs hsn hp hys hr hjs;refine bm.cI ?_ ?_ ?_ ?_ <;>simp[b6,cD,cm,cn,aw,bZ,cY,I.only,ao.only,eE,b7]
 ·have hkc:=fu hkt;have hge:k=l.length:=by omega
  rw[hge,zx3];rw[hge] at hkc;have hap:=fun (A:ai) d rest y=>mA (A:=A) (d:=d) 48 4 32 905 (l:=ys.length) (es:=ys) (ys:=[y]) (rest:=rest) rfl rfl (by simp) (by simp[maxLen];omega) (by simp;omega);rcases q1:(r.aK==b)
  ·have hz:gJ l b p.au r=false:=by simp[gJ,q1]
   rw[hz,if_neg (by decide),zx4] at hjs;have R:=y6 @hkc (y6 @hjw (y6 @q1 (y6 @cj (y6 @bh aD))))
   repeat' ((first |(with_reducible refine .guard (fun hb =>?_) (fun hb =>?_) <;>try simp only[hb])|refine ae.aF (by decide +kernel) rfl fun K hK =>?_|(refine .ay [0,1,4,5,6,7,9,11,12,14,19,21,22,23,24,29,30,31,32,35,36,37,38,67] hK ?_;clear hK K)|(with_reducible refine .done (hK _ ?_);clear hK K)|refine ae.of rfl ?_|(with_reducible refine az.aE (fun h =>?_) (fun h =>?_) <;>try simp only[h])) <;>try simp only[aG,R,simprocAttr])
   all_goals clear R
   refine ⟨(j+1,ys),⟨by simp only;omega,hjs.symm,by simp only;omega⟩,by simp only;omega,?_⟩;simp only[];clear hxs hsn hp hys hr hjs;refine bm.cI ?_ ?_ ?_ ?_ <;>simp[b6,cD,cm,cn,aw,bZ,cY,I.only,ao.only,eE,b7]
  ·rcases q2:l.any (iV p.au r)
   ·have hz:gJ l b p.au r=true:=by simp[gJ,q1,q2]
    rw[hz,if_pos rfl] at hjs;have R:=y6 @hkc (y6 @hjw (y6 @q1 (y6 @q2 (y6 @hbs (y6 @hap (y6 @cj (y6 @bh aD)))))))
    repeat' ((first |(with_reducible refine .guard (fun hb =>?_) (fun hb =>?_) <;>try simp only[hb])|refine ae.aF (by decide +kernel) rfl fun K hK =>?_|(refine .ay [0,1,4,5,6,7,9,11,12,14,19,21,22,23,24,29,30,31,32,35,36,37,38,67] hK ?_;clear hK K)|(with_reducible refine .done (hK _ ?_);clear hK K)|refine ae.of rfl ?_|(with_reducible refine az.aE (fun h =>?_) (fun h =>?_) <;>try simp only[h])) <;>try simp only[aG,R,simprocAttr])
    all_goals clear R
    refine ⟨(j+1,ys++[r]),⟨by simp only;omega,hjs.symm,by simp only[Z7,zw1];omega⟩,by simp only;omega,?_⟩;simp only[];clear hxs hsn hp hys hr hjs;refine bm.cI ?_ ?_ ?_ ?_ <;>simp[b6,cD,cm,cn,aw,bZ,cY,I.only,I.cv,ao.only,eE,mR,b7]
   ·have hz:gJ l b p.au r=false:=by simp[gJ,q2]
    rw[hz,if_neg (by decide),zx4] at hjs;have R:=y6 @hkc (y6 @hjw (y6 @q1 (y6 @q2 (y6 @cj (y6 @bh aD)))))
    repeat' ((first |(with_reducible refine .guard (fun hb =>?_) (fun hb =>?_) <;>try simp only[hb])|refine ae.aF (by decide +kernel) rfl fun K hK =>?_|(refine .ay [0,1,4,5,6,7,9,11,12,14,19,21,22,23,24,29,30,31,32,35,36,37,38,67] hK ?_;clear hK K)|(with_reducible refine .done (hK _ ?_);clear hK K)|refine ae.of rfl ?_|(with_reducible refine az.aE (fun h =>?_) (fun h =>?_) <;>try simp only[h])) <;>try simp only[aG,R,simprocAttr])
    all_goals clear R
    refine ⟨(j+1,ys),⟨by simp only;omega,hjs.symm,by simp only;omega⟩,by simp only;omega,?_⟩;simp only[];clear hxs hsn hp hys hr hjs;refine bm.cI ?_ ?_ ?_ ?_ <;>simp[b6,cD,cm,cn,aw,bZ,cY,I.only,ao.only,eE,b7]
def nN(p:aC→Bool)(l:List aC):Int:=match l.findIdx? p with
 |some i=>i
 |none=>-1
theorem FQ(l:List aC)(caps:List I)(hcaps:I.gw caps=true)(p:aC→Bool)(aq:l.length≤1000)(hf:∀ x∈l,a8 Tryz.prog 87 (c8 x::caps) (enc (p x))):a8 Tryz.prog 115 [enc l,.func 87 caps] (enc (nN p l)):=by
 refine a8.cd Tryz.func115 If Jl Ks (u8 rfl) (fun hwf W0 bF E1 =>?_);simp only[y9,Dy,bJ,Z1];clear hwf;have hcl:I.cq caps=true:=sE caps hcaps;have hfc:∀ aL A,b8 aL A caps=some caps:=fun aL A=>qt aL A caps hcaps;have hon:∀ q,I.cv q caps=true:=fun q=>mS q caps hcl;have R:=y6 @hfc aD
 repeat' ((first |refine ae.aF (by decide +kernel) rfl fun K hK =>?_|(refine .ay [0,1,4,5,7,8,9,16] hK ?_;clear hK K)|(with_reducible refine .done (hK _ ?_);clear hK K)|refine ae.of rfl ?_|(with_reducible refine az.aE (fun h =>?_) (fun h =>?_) <;>try simp only[h])) <;>try simp only[aG,R,simprocAttr])
 all_goals clear R
 refine ae.loop (fun i:Nat=>av [(0,enc l),(1,.func 87 caps),(7,.int .i64 l.length),(8,.int .i64 i)] []) (fun i=>i≤l.length∧∀ k,k<i→∀ h:k<l.length,p l[k]=false) (fun i=>l.length-i) 0 ⟨zy3 _,fun k h=>by omega⟩ ?_ (fun i hi =>?_)
 ·refine bm.cI ?_ ?_ ?_ ?_ <;>simp[*,b6,cD,cm,cn,bZ,I.only,b7]
 obtain ⟨hi1,hi2⟩:=hi;by_cases hlt:i<l.length
 ·have hlc:=fm hlt;have he:=fun A=>eb (A:=A) 1 hlt rfl;simp only[vn] at he;have hw:=fo (i:=i) (by omega);have hP:=hf _ (zx8 hlt);rcases q:p l[i]
  ·rw[q] at hP;have R:=y6 @hlc (y6 @he (y6 @hw (y6 @hfc (y6 @dH (y6 @bR aD)))))
   repeat' ((first |refine ae.aF (by decide +kernel) rfl fun K hK =>?_|refine .flat _ (hP) rfl ?_|(refine .ay [0,1,4,5,7,8,9,16] hK ?_;clear hK K)|(with_reducible refine .done (hK _ ?_);clear hK K)|refine ae.of rfl ?_|(with_reducible refine az.aE (fun h =>?_) (fun h =>?_) <;>try simp only[h])) <;>try simp only[aG,R,Z5,simprocAttr])
   all_goals clear R
   refine ⟨i+1,⟨by omega,fun k hk h =>?_⟩,by omega,?_⟩
   ·by_cases e:k=i
    ·subst e;exact q
    ·exact hi2 k (by omega) h
   ·refine bm.cI ?_ ?_ ?_ ?_ <;>simp[*,b6,cD,cm,cn,bZ,I.only,b7]
  ·rw[q] at hP;have hm:nN p l=(i:Int):=by
    have:l.findIdx? p=some i:=List.findIdx?_eq_some_iff_getElem.2 ⟨hlt,q,fun j hj=>by simp[hi2 j hj (by omega)]⟩;simp only[nN,this]
   rw[hm];have R:=y6 @hlc (y6 @he (y6 @hfc (y6 @dH (y6 @bR aD))))
   repeat' ((first |refine ae.aF (by decide +kernel) rfl fun K hK =>?_|refine .flat _ (hP) rfl ?_|(refine .ay [0,1,4,5,7,8,9,16] hK ?_;clear hK K)|(with_reducible refine .done (hK _ ?_);clear hK K)|refine ae.of rfl ?_|(with_reducible refine az.aE (fun h =>?_) (fun h =>?_) <;>try simp only[h])) <;>try simp only[aG,R,Z5,simprocAttr])
   all_goals clear R
 ·have hlc:=fu hlt;have hm:nN p l=-1:=by
   have:l.findIdx? p=none:=List.findIdx?_eq_none_iff.2 fun x hx=>by
    obtain ⟨k,hk,rfl⟩:=List.mem_iff_getElem.1 hx;exact hi2 k (by omega) hk
   simp only[nN,this]
  rw[hm];have R:=y6 @hlc aD
  repeat' ((first |refine ae.aF (by decide +kernel) rfl fun K hK =>?_|(refine .ay [0,1,4,5,7,8,9,16] hK ?_;clear hK K)|(with_reducible refine .done (hK _ ?_);clear hK K)|refine ae.of rfl ?_|(with_reducible refine az.aE (fun h =>?_) (fun h =>?_) <;>try simp only[h])) <;>try simp only[aG,R,simprocAttr])
  all_goals clear R
theorem Wl(p:aC→Bool)(l:List aC):decide (nN p l≥0)=l.any p:=by
 unfold nN;cases h:l.findIdx? p with
 |none =>
  rw[List.findIdx?_eq_none_iff] at h;have:l.any p=false:=by rw[List.any_eq_false];intro x hx;simp[h x hx]
  rw[this];rfl
 |some i =>
  rw[List.findIdx?_eq_some_iff_getElem] at h;obtain ⟨J,U,_⟩:=h;have:l.any p=true:=by rw[List.any_eq_true];exact ⟨_,zx8 J,U⟩
  rw[this];exact decide_eq_true (Int.natCast_nonneg i)
theorem GH(l:List aC)(caps:List I)(hcaps:I.gw caps=true)(p:aC→Bool)(aq:l.length≤1000)(hf:∀ x∈l,a8 Tryz.prog 87 (c8 x::caps) (enc (p x))):a8 Tryz.prog 86 [enc l,.func 87 caps] (enc (l.any p)):=by
 refine a8.cd Tryz.func86 I0 J0 Li (u8 rfl) (fun hwf W0 bF E1 =>?_);simp only[zR,Et,bJ,Z1];clear hwf;have hfc:∀ aL A,b8 aL A caps=some caps:=fun aL A=>qt aL A caps hcaps;have hF:=FQ l caps hcaps p aq hf;have hq:=Wl p l;have R:=y6 @hfc (y6 @hq aD)
 repeat' ((first |refine ae.aF (by decide +kernel) rfl fun K hK =>?_|refine .flat _ (hF) rfl ?_|(refine .ay [0,1,4] hK ?_;clear hK K)|(with_reducible refine .done (hK _ ?_);clear hK K)|refine ae.of rfl ?_|(with_reducible refine az.aE (fun h =>?_) (fun h =>?_) <;>try simp only[h])) <;>try simp only[aG,R,simprocAttr])
 all_goals clear R
def j2(s:aC)(r:cC)(n:Int)(t:aC):Bool:=(t.au==r.to)&&(nP t ⟨s.au,n⟩==7)
theorem GI(t s:aC)(r:cC)(n:Int):a8 Tryz.prog 87 [c8 t,.ref (enc r),.ref (c8 s),.ref (enc n)] (enc (j2 s r n t)):=by
 refine a8.cd Tryz.func87 I1 J1 Lj (u8 rfl) (fun hwf W0 bF E1 =>?_);simp only[zS,Eu,bJ,Z1,Nat.reduceAdd];clear hwf;obtain ⟨x,hx,u,hlk⟩:=WT t s.au n;rcases q1:(t.au==r.to)
 ·rw[show j2 s r n t=false by simp[j2,q1]];have R:=y6 @q1 (y6 @hlk (y6 @vQ (y6 @oP (y6 @dH (y6 @bh (y6 @bR (y6 @bB (y6 @bw aD))))))))
  repeat' ((first |(with_reducible refine .guard (fun hb =>?_) (fun hb =>?_) <;>try simp only[hb])|refine ae.aF (by decide +kernel) rfl fun K hK =>?_|(refine .ay [0,1,2,3,5] hK ?_;clear hK K)|(with_reducible refine .done (hK _ ?_);clear hK K)|refine ae.of rfl ?_|(with_reducible refine az.aE (fun h =>?_) (fun h =>?_) <;>try simp only[h])) <;>try simp only[aG,R,simprocAttr])
  all_goals clear R
 ·rcases q2:(x.kind==7)
  ·rw[show j2 s r n t=false by simp only[j2,←hx,q2,Bool.and_false]];have R:=y6 @q1 (y6 @q2 (y6 @hlk (y6 @vQ (y6 @oP (y6 @dH (y6 @bh (y6 @bR (y6 @bB (y6 @bw aD)))))))))
   repeat' ((first |(with_reducible refine .guard (fun hb =>?_) (fun hb =>?_) <;>try simp only[hb])|refine ae.aF (by decide +kernel) rfl fun K hK =>?_|(refine .ay [0,1,2,3,5] hK ?_;clear hK K)|(with_reducible refine .done (hK _ ?_);clear hK K)|refine ae.of rfl ?_|(with_reducible refine az.aE (fun h =>?_) (fun h =>?_) <;>try simp only[h])) <;>try simp only[aG,R,simprocAttr])
   all_goals clear R
  ·rw[show j2 s r n t=true by simp only[j2,←hx,q1,q2,Bool.and_true]];have R:=y6 @q1 (y6 @q2 (y6 @hlk (y6 @vQ (y6 @oP (y6 @dH (y6 @bh (y6 @bR (y6 @bB (y6 @bw aD)))))))))
   repeat' ((first |(with_reducible refine .guard (fun hb =>?_) (fun hb =>?_) <;>try simp only[hb])|refine ae.aF (by decide +kernel) rfl fun K hK =>?_|(refine .ay [0,1,2,3,5] hK ?_;clear hK K)|(with_reducible refine .done (hK _ ?_);clear hK K)|refine ae.of rfl ?_|(with_reducible refine az.aE (fun h =>?_) (fun h =>?_) <;>try simp only[h])) <;>try simp only[aG,R,simprocAttr])
   all_goals clear R
def kr(s:aC)(n:Int):cC:=s.b9 (n.toNat-1)
def kh(all:List aC)(b:Int)(s:aC)(n:Int):Bool:=((kr s n).aK==b) && !(all.any (j2 s (kr s n) n))
def l6(all0:List aC)(b:Int)(all:List aC):List cC:=all.flatMap fun s=>((bV s.bp).filter (kh all0 b s)).map (kr s)
theorem YG(all0:List aC)(b:Int){l:List aC}{i:Nat}(h:i<l.length):l6 all0 b (l.take (i+1))=l6 all0 b (l.take i)++((bV l[i].bp).filter (kh all0 b l[i])).map (kr l[i]):=by
 simp only[l6,Z9 h,List.flatMap_append,List.flatMap_cons,List.flatMap_nil,zx4]
def oI(all:List aC)(e b:Int)(i:Nat)(ts:List (Nat×I))(os:List (Nat×ao))(xs:List cC):ai :=
 av ([(1,.int .i64 b),(6,enc all),(7,.int .i64 e),(8,.own 905 xs.length),(21,enc all),(22,.int .i64 all.length),(23,.int .i64 i)]++ts) ((905,.bU 48 4 (xs.map enc))::os)
theorem Ge(l:List bt)(b:Int):a8 Tryz.prog 39 [enc l,enc b] (.tuple [enc (l6 (dm l b).1 b (dm l b).1),enc (dm l b).2]):=by
 refine a8.cd Tryz.func39 Iw JA KR (u8 rfl) (fun hwf W0 bF E1 =>?_);simp only[zo,DX,bJ,Z1];clear hwf;have hF:=yh l b;have hal:=yz l b;have hlive:∀ s∈(dm l b).1,s.aQ.length≤200:=fun s ab=>by
  obtain ⟨p,_,ho⟩:=ZC ab;exact CY ho
 generalize (dm l b).1=all at *;generalize (dm l b).2=e at *;have hbs:∀ y:cC,e7 4 (some [enc y])=some (enc [y]):=fun y=>h3 4 y rfl;have hst10:∀ A rest s,de A none 10 [] .nilp (c8 s) rest (some .nilp)=aB rest (A.aT 10 (.box (c8 s))):=fun A rest s=>dG (dH.2.2.2.1 s) (dH.2.2.2.2.1 s) rfl;have hst12:∀ A rest n u,de A none 12 [] (.int .i64 u) (.int .i64 n) rest (some (.int .i64 u))=aB rest (A.aT 12 (.box (.int .i64 n))):=fun A rest n u=>dG rfl rfl rfl;have R:=y6 @cj (y6 @bh (y6 @bR (y6 @bB (y6 @bw aD))))
 repeat' ((first |(with_reducible refine .guard (fun hb =>?_) (fun hb =>?_) <;>try simp only[hb])|refine ae.aF (by decide +kernel) rfl fun K hK =>?_|refine .lead _ (hF) ?_|(refine .ay [0,1,4,5,6,7,8,10,12,13,14,21,22,23,24,28,29,30,31,52] hK ?_;clear hK K)|(with_reducible refine .done (hK _ ?_);clear hK K)|refine ae.of rfl ?_|(with_reducible refine az.aE (fun h =>?_) (fun h =>?_) <;>try simp only[h])) <;>try simp only[aG,R,simprocAttr])
 all_goals clear R
 refine ae.loop (fun t:Nat×List cC=>oI all e b t.1 [] [] t.2) (fun t=>t.1≤all.length∧t.2=l6 all b (all.take t.1)∧t.2.length≤200*t.1) (fun t=>all.length-t.1) (0,[]) ⟨zy3 _,rfl,zy3 _⟩ ?_ ?_
 ·refine bm.nx 8 905 48 4 4 rfl rfl ?_;simp only[oI,Z5,zy8];refine bm.cI ?_ ?_ ?_ ?_ <;>simp[b6,cD,cm,cn,aw,bZ,cY,I.only,I.cv,ao.only,b7]
 rintro ⟨i,xs⟩ ⟨hi,hxs,hxl⟩;simp only at hi hxs hxl;simp only[oI,Z5,zy8];by_cases hlt:i<all.length
 rotate_left
 ·have hlc:=fu hlt;have hge:i=all.length:=by omega
  rw[show l6 all b all=xs by rw[hxs,hge,zx3]];have R:=y6 @hlc (y6 @Bc (y6 @cj (y6 @bh aD)))
  repeat' ((first |(with_reducible refine .guard (fun hb =>?_) (fun hb =>?_) <;>try simp only[hb])|refine ae.aF (by decide +kernel) rfl fun K hK =>?_|(refine .ay [0,1,4,5,6,7,8,10,12,13,14,21,22,23,24,28,29,30,31,52] hK ?_;clear hK K)|(with_reducible refine .done (hK _ ?_);clear hK K)|refine ae.of rfl ?_|(with_reducible refine az.aE (fun h =>?_) (fun h =>?_) <;>try simp only[h])) <;>try simp only[aG,R,simprocAttr])
  all_goals clear R
 have hlc:=fm hlt;have he:=fun A=>eb (A:=A) 1 hlt rfl;have hw:=fo (i:=i) (by omega);have hsn:=YG all b hlt;rw[←hxs] at hsn;have hsl:=hlive _ (zx8 hlt);obtain ⟨s,ab⟩:∃ s,s=all[i]:=⟨_,rfl⟩
 rw[←ab] at he hsn hsl;simp only[vn] at he;have hN:=ux s (by omega);have hnl:(bV s.bp).length≤200:=by rw[Zn];simp only[aC.bp,Z8];exact hsl
 have hso:∀ p,(c8 s).only p=true:=fun p=>jS p _ (mq s);have R:=y6 @hlc (y6 @he (y6 @hst10 (y6 @dH (y6 @cj (y6 @bh (y6 @bR (y6 @bB (y6 @bw aD))))))))
 repeat' ((first |(with_reducible refine .guard (fun hb =>?_) (fun hb =>?_) <;>try simp only[hb])|refine ae.aF (by decide +kernel) rfl fun K hK =>?_|refine .lead _ (hN) ?_|(refine .ay [0,1,4,5,6,7,8,10,12,13,14,21,22,23,24,28,29,30,31,52] hK ?_;clear hK K)|(with_reducible refine .done (hK _ ?_);clear hK K)|refine ae.of rfl ?_|(with_reducible refine az.aE (fun h =>?_) (fun h =>?_) <;>try simp only[h])) <;>try simp only[aG,R,simprocAttr])
 all_goals clear R
 refine ae.loop (fun t:Nat×List cC=>oI all e b i [(10,.ptr 10 []),(28,enc (bV s.bp)),(29,.int .i64 (bV s.bp).length),(30,.int .i64 t.1)] [(10,.box (c8 s))] t.2) (fun t=>t.1≤(bV s.bp).length∧t.2=xs++(((bV s.bp).take t.1).filter (kh all b s)).map (kr s)∧t.2.length≤200*i+t.1) (fun t=>(bV s.bp).length-t.1) (0,xs) ⟨zy3 _,by simp,by simp only;omega⟩ ?_ ?_
 ·simp only[oI,Z5,zy8];clear hxs hsn ab;refine bm.cI ?_ ?_ ?_ ?_ <;>simp[*,b6,cD,cm,cn,aw,bZ,cY,I.only,ao.only,eE,b7]
 rintro ⟨j,ys⟩ ⟨hj,hys,hyl⟩;simp only at hj hys hyl;simp only[oI,Z5,zy8];by_cases hjt:j<(bV s.bp).length
 rotate_left
 ·have hjc:=fu hjt;have hge:j=(bV s.bp).length:=by omega
  rw[hge,zx3] at hys;have R:=y6 @hjc (y6 @hw (y6 @cj (y6 @bh aD)))
  repeat' ((first |(with_reducible refine .guard (fun hb =>?_) (fun hb =>?_) <;>try simp only[hb])|refine ae.aF (by decide +kernel) rfl fun K hK =>?_|(refine .ay [0,1,4,5,6,7,8,10,12,13,14,21,22,23,24,28,29,30,31,52] hK ?_;clear hK K)|(with_reducible refine .done (hK _ ?_);clear hK K)|refine ae.of rfl ?_|(with_reducible refine az.aE (fun h =>?_) (fun h =>?_) <;>try simp only[h])) <;>try simp only[aG,R,simprocAttr])
  all_goals clear R
  refine ⟨(i+1,ys),⟨by simp only;omega,?_,by simp only;omega⟩,by simp only;omega,?_⟩
  ·simp only;rw[hsn];exact hys
  ·simp only[];clear hxs hsn ab hys;refine bm.cI ?_ ?_ ?_ ?_ <;>simp[b6,cD,cm,cn,aw,bZ,cY,I.only,ao.only,eE,b7]
 have hjc:=fm hjt;have hje:=fun A=>eb (A:=A) 1 hjt rfl;have hjw:=fo (i:=j) (by omega);have hjs:xs++(((bV s.bp).take (j+1)).filter (kh all b s)).map (kr s)=ys++if kh all b s (bV s.bp)[j] then [kr s (bV s.bp)[j]] else []:=by
  rw[Z9 hjt,List.filter_append,zz3,zw4,List.filter_nil,←zz1,←hys]
  congr 1
  split <;>rfl
 have hlk:=wC s hjt;generalize (bV s.bp)[j]=n at hje hjs hlk;obtain ⟨r,hr⟩:∃ r,r=kr s n:=⟨_,rfl⟩
 rw[show s.b9 (n.toNat-1)=r from hr.symm] at hlk;have af:I.gw [.ref (enc r),.ref (c8 s),.ref (enc n)]=true:=by simp[I.gw,I.done,ka,mq]
 have hK2:=GH all [.ref (enc r),.ref (c8 s),.ref (enc n)] af (j2 s r n) (by omega) (fun x _=>GI x s r n);have hap:=fun (A:ai) d rest y=>mA (A:=A) (d:=d) 48 4 32 905 (l:=ys.length) (es:=ys) (ys:=[y]) (rest:=rest) rfl rfl (by simp) (by simp[maxLen];omega) (by simp;omega);have hall3:([I.ptr 13 [],I.ptr 10 [],I.ptr 12 []].all fun y=>y.bT)=true:=rfl;have hk1:kh all b s n=((r.aK==b) && !(all.any (j2 s r n))):=by simp only[kh,←hr]
 rw[hk1,←hr] at hjs;rcases q1:(r.aK==b)
 ·rw[q1,Bool.false_and,if_neg (by decide),zx4] at hjs;have R:=y6 @hjc (y6 @hje (y6 @hjw (y6 @hlk (y6 @hst12 (y6 @hall3 (y6 @q1 (y6 @np (y6 @dH (y6 @cj (y6 @bh (y6 @bR (y6 @bB (y6 @bw aD)))))))))))))
  repeat' ((first |(with_reducible refine .guard (fun hb =>?_) (fun hb =>?_) <;>try simp only[hb])|refine ae.aF (by decide +kernel) rfl fun K hK =>?_|refine .flat _ (hK2) rfl ?_|(refine .ay [0,1,4,5,6,7,8,10,12,13,14,21,22,23,24,28,29,30,31,52] hK ?_;clear hK K)|(with_reducible refine .done (hK _ ?_);clear hK K)|refine ae.of rfl ?_|(with_reducible refine az.aE (fun h =>?_) (fun h =>?_) <;>try simp only[h])) <;>try simp only[aG,R,simprocAttr])
  all_goals clear R
  refine ⟨(j+1,ys),⟨by simp only;omega,hjs.symm,by simp only;omega⟩,by simp only;omega,?_⟩;simp only[];clear hxs hsn ab hys hr hjs hk1;refine bm.cI ?_ ?_ ?_ ?_ <;>simp[*,b6,cD,cm,cn,aw,bZ,cY,I.only,ao.only,eE,b7]
 ·rcases q2:all.any (j2 s r n)
  ·rw[q1,q2,Bool.not_false,Bool.and_self,if_pos rfl] at hjs;have R:=y6 @hjc (y6 @hje (y6 @hjw (y6 @hlk (y6 @hst12 (y6 @hall3 (y6 @q1 (y6 @q2 (y6 @hbs (y6 @hap (y6 @np (y6 @dH (y6 @cj (y6 @bh (y6 @bR (y6 @bB (y6 @bw aD))))))))))))))))
   repeat' ((first |(with_reducible refine .guard (fun hb =>?_) (fun hb =>?_) <;>try simp only[hb])|refine ae.aF (by decide +kernel) rfl fun K hK =>?_|refine .flat _ (hK2) rfl ?_|(refine .ay [0,1,4,5,6,7,8,10,12,13,14,21,22,23,24,28,29,30,31,52] hK ?_;clear hK K)|(with_reducible refine .done (hK _ ?_);clear hK K)|refine ae.of rfl ?_|(with_reducible refine az.aE (fun h =>?_) (fun h =>?_) <;>try simp only[h])) <;>try simp only[aG,R,simprocAttr])
   all_goals clear R
   refine ⟨(j+1,ys++[r]),⟨by simp only;omega,hjs.symm,by simp only[Z7,zw1];omega⟩,by simp only;omega,?_⟩;simp only[];clear hxs hsn ab hys hr hjs hk1;refine bm.cI ?_ ?_ ?_ ?_ <;>simp[*,b6,cD,cm,cn,aw,bZ,cY,I.only,I.cv,ao.only,eE,mR,b7]
  ·rw[q1,q2,Bool.not_true,Bool.and_false,if_neg (by decide),zx4] at hjs;have R:=y6 @hjc (y6 @hje (y6 @hjw (y6 @hlk (y6 @hst12 (y6 @hall3 (y6 @q1 (y6 @q2 (y6 @np (y6 @dH (y6 @cj (y6 @bh (y6 @bR (y6 @bB (y6 @bw aD))))))))))))))
   repeat' ((first |(with_reducible refine .guard (fun hb =>?_) (fun hb =>?_) <;>try simp only[hb])|refine ae.aF (by decide +kernel) rfl fun K hK =>?_|refine .flat _ (hK2) rfl ?_|(refine .ay [0,1,4,5,6,7,8,10,12,13,14,21,22,23,24,28,29,30,31,52] hK ?_;clear hK K)|(with_reducible refine .done (hK _ ?_);clear hK K)|refine ae.of rfl ?_|(with_reducible refine az.aE (fun h =>?_) (fun h =>?_) <;>try simp only[h])) <;>try simp only[aG,R,simprocAttr])
   all_goals clear R
   refine ⟨(j+1,ys),⟨by simp only;omega,hjs.symm,by simp only;omega⟩,by simp only;omega,?_⟩;simp only[];clear hxs hsn ab hys hr hjs hk1;refine bm.cI ?_ ?_ ?_ ?_ <;>simp[*,b6,cD,cm,cn,aw,bZ,cY,I.only,ao.only,eE,b7]
theorem dC.nP{s:aC}{t:ct}(hr:dC s t)(cP no:Int):Go.Proofs.YthbdbocionnfgaaGreatDoor.nP s ⟨cP,no⟩=gZ t cP no:=by
 simp only[Go.Proofs.YthbdbocionnfgaaGreatDoor.nP,gZ,hr.bq];generalize s.bq=l
 induction l with
 |nil=>rfl
 |cons x l ih =>
  simp only[Z3,List.find?_cons];by_cases e:eN x=⟨cP,no⟩
  ·have e2:(mi x).cP=cP∧(mi x).no=no:=⟨congrArg ji.cP e,congrArg ji.no e⟩
   rw[decide_eq_true e,decide_eq_true e2];rfl
  ·have e2:¬ ((mi x).cP=cP∧(mi x).no=no):=fun h=>e (by
    show (⟨x.other,x.no⟩:ji)=⟨cP,no⟩
    rw[show x.other=cP from h.1,show x.no=no from h.2])
   rw[decide_eq_false e,decide_eq_false e2];exact ih
theorem yB{α β:Type}(f:α→β)(g:β→Bool)(h:α→Bool):∀ (l:List α),(∀ x∈l,g (f x)=h x)→(l.map f).any g=l.any h
 | [],_=>rfl
 |x::l,bH=>by
  simp only[Z3,List.any_cons,bH x List.mem_cons_self,yB f g h l fun y hy=>bH y (List.mem_cons_of_mem _ hy)]
theorem YH{l:List bt}{f:bt→aC}(hr:∀ p∈l,cZ p=some (f p)∧dC (f p) (eh p)∧(f p).au=p.au)(b:Int){p:bt}(hp:p∈l):((bV (f p).bp).filter (kh (l.map f) b (f p))).map (kr (f p))=(eh p).br.filter (gJ l b p.au):=by
 obtain ⟨_,J,U⟩:=hr p hp;have hno:∀ i∈(f p).aQ,((f p).b9 i).no=(i:Int)+1:=fun i hi=>J.no i (J.ok.cE i hi);rw[J.bp,J.br];simp only[aC.bp,aC.br];revert hno;generalize (f p).aQ=L;intro hno
 induction L with
 |nil=>rfl
 |cons i L ih =>
  have ih':=ih fun j hj=>hno j (List.mem_cons_of_mem _ hj);have hi:=hno i List.mem_cons_self;have e1:kr (f p) ((i:Int)+1)=(f p).b9 i:=by
   show (f p).b9 (((i:Int)+1).toNat-1)=(f p).b9 i
   congr 1
  have hk:kh (l.map f) b (f p) ((i:Int)+1)=gJ l b p.au ((f p).b9 i):=by
   simp only[kh,gJ,e1]
   congr 2
   refine yB f _ _ l fun q hq =>?_;obtain ⟨_,g1,g2⟩:=hr q hq;simp only[j2,iV,g2,U,g1.nP,hi]
  simp only[Z3,zw4,hk];by_cases c:gJ l b p.au ((f p).b9 i)=true
  ·simp only[c,if_true,Z3,e1,ih']
  ·simp only[c,Z2,if_false,ih']
theorem EX(l:List bt)(b:Int):(l6 (dm l b).1 b (dm l b).1,(dm l b).2)=l5 l b:=by
 by_cases h:(dm l b).2=0
 ·obtain ⟨-,-,hall,-,hst⟩:=sR h;obtain ⟨f,hf,hr⟩:=Fs hall;rw[l5,if_pos h,h,hst,hf];refine Prod.ext ?_ rfl
  show l6 (l.map f) b (l.map f)=l4 l b l
  simp only[l6,l4,List.flatMap_map];have key:∀ m:List bt,(∀ p∈m,p∈l)→(m.flatMap fun p=>((bV (f p).bp).filter (kh (l.map f) b (f p))).map (kr (f p)))=m.flatMap fun p=>(eh p).br.filter (gJ l b p.au):=by
   intro m
   induction m with
   |nil=>intro _;rfl
   |cons p m ih =>
    intro hm;simp only[List.flatMap_cons];rw[YH hr b (hm p List.mem_cons_self),ih fun q hq=>hm q (List.mem_cons_of_mem _ hq)]
  exact key l fun _ hp=>hp
 ·rw[l5,if_neg h,yI h];rfl
theorem Gn(l:List bt)(b:Int):a8 Tryz.prog 6 [enc l,enc b] (enc true):=by
 refine a8.cd Tryz.func6 IE JH KY (u8 rfl) (fun hwf W0 bF E1 =>?_);simp only[zx,D8,bJ,Z1];clear hwf;have hc:∀ a:Int,(a==a)=true:=fun a=>beq_self_eq_true a;have h6:=F8;have hI:∀ l:List Int,a8 Tryz.prog 41 [enc l,enc l] (enc true):=fun l=>by
  have:=x9 l l
  rwa [decide_eq_true rfl] at this
 have hJ:∀ l:List cC,a8 Tryz.prog 42 [enc l,enc l] (enc true):=fun l=>by
  have:=Gg l l
  rwa [decide_eq_true rfl] at this
 have hR:=Ge l b;have e1:=congrArg Prod.fst (EX l b);have e2:=congrArg Prod.snd (EX l b);simp only at e1 e2;rw[e1,e2] at hR;have R:=y6 @hc (y6 @cj (y6 @bh aD))
 repeat' ((first |(with_reducible refine .guard (fun hb =>?_) (fun hb =>?_) <;>try simp only[hb])|refine ae.aF (by decide +kernel) rfl fun K hK =>?_|refine .lead _ (x8 l b) ?_|refine .lead _ (Gd l b) ?_|refine .lead _ (hR) ?_|refine .lead _ (Gf l b) ?_|refine .flat _ (hI _) rfl ?_|refine .flat _ (hJ _) rfl ?_|refine .flat _ (h6) rfl ?_|(refine .ay [0,1,4,5,6,7,8,9,10,11,12] hK ?_;clear hK K)|(with_reducible refine .done (hK _ ?_);clear hK K)|refine ae.of rfl ?_|(with_reducible refine az.aE (fun h =>?_) (fun h =>?_) <;>try simp only[h])) <;>try simp only[aG,R,simprocAttr])
 all_goals clear R
end Go.Proofs.YthbdbocionnfgaaGreatDoor
