/-
  A part of the proof that the law MarchTexts returns true for every input; seven variables of Go's library start as the text lays them (the card ties them); conditions: none beyond the statement's own. (part 6 of 7)
-/
import Derived.Test.YthbdbocionnfgaaGreatDoorNge
set_option linter.unusedSimpArgs false
set_option linter.unusedVariables false
set_option maxHeartbeats 16000000
set_option maxRecDepth 100000
namespace Go.Proofs.YthbdbocionnfgaaGreatDoor
open Go Go.Abs
open Go.Abs.Enc (enc)
def G6(o:Option aI):I:=match o with
 |some s=>.tuple [dP s,.bool true]
 |none=>.tuple [.nilp,.bool false]
theorem IZ(aD:Int)(l:List bn)(ao:l.length≤200):bd Tryz.prog 62 [enc aD,enc l] (G6 (ga aD l)):=by
 refine bd.b5 Tryz.func62 B3 Cl Cv (t7 rfl) (fun hwf W0 bH E1 =>?_);simp only[wE,yZ,bM,zz4];clear hwf;have R:=y6 @bw (y6 @bl (y6 @bj az))
 repeat' ((first |refine ae.aB (by decide +kernel) rfl fun K hK =>?_|refine aV.fk rfl (fun _ _ _=>rfl) ?_|(refine .au [0,1,4,5,6,8,11,12,13,14,20] hK ?_;clear hK K)|(with_reducible refine .done (hK _ ?_);clear hK K)|refine ae.of rfl ?_|(with_reducible refine av.aA (fun h =>?_) (fun h =>?_) <;>try simp only[h])) <;>try simp only[aC,R,simprocAttr])
 all_goals clear R
 refine ae.loop (s7 l) (fun t=>t.1≤l.length∧gA (fk aD) (l.take t.1)=some t.2) (fun t=>l.length-t.1) (0,fk aD) ⟨zw1 _,rfl⟩ ?_ ?_
 ·rw[zw4];refine bp.fn ?_ (fun n=>.inr rfl) ?_ (fun n x h=>(ma (lU aD) h).1)
  ·simp[b6,bY]
  ·have:=(dY (jl (fk aD).all.length) (n:=2000)).2 (.inl (by omega));simp[cn,I.only,b7,this]
 rintro ⟨i,s⟩ ⟨hi,hrun⟩;simp only at hi hrun;obtain ⟨hk,hme,hln⟩:=nN (lU aD) hrun;have hln2:s.all.length≤i:=by simpa[fk,hi] using hln
 have n8:ak (dE s) 8=none:=eV (.inl (by omega)) fun i _=>by simp[bJ];omega
 simp only[s7];by_cases hlt:i<l.length
 ·have hc:=fK hlt;have he:=fun A=>eK (A:=A) 4 hlt rfl;have hw:=fg (i:=i) (by omega);have hst:∀ A rest,c7 A (some 4) 8 [] (.agg [.int .i64 0,.int .i64 0,.int .i64 0,.int .i64 0]) (enc l[i]) rest (some (.agg [.int .i64 0,.int .i64 0,.int .i64 0,.int .i64 0]))=aE rest (A.aT 8 (.box (enc l[i]))):=fun A rest=>dI (eF _) (by rw[fB];rfl) (eX _);have how:∀ (a b:aq) m,2000≤m→ak [(8,a),(8,b)] m=none:=fun a b m hm=>by simp only[ak];rw[if_neg (by omega),if_neg (by omega)]
  have hsp:l=l.take i++l[i]::l.drop (i+1):=by simp
  cases hn:gW s l[i] with
  |none =>
   have ab:eB s l[i]=(s,false):=by simp[eB,hn]
   have R:=y6 @hc (y6 @he (y6 @hst (y6 @n8 (y6 @aZ (y6 @bw (y6 @bl (y6 @bj az)))))))
   repeat' ((first |refine ae.aB (by decide +kernel) rfl fun K hK =>?_|refine aV.sG (ow:=[(8,_),(8,_)]) hk (by omega) rfl (how _ _) ab ?_|(refine .au [0,1,4,5,6,8,11,12,13,14,20] hK ?_;clear hK K)|(with_reducible refine .done (hK _ ?_);clear hK K)|refine ae.of rfl ?_|(with_reducible refine av.aA (fun h =>?_) (fun h =>?_) <;>try simp only[h])) <;>try simp only[aC,R,simprocAttr])
   all_goals clear R
   have hno:ga aD l=none:=by
    rw[ga,hsp,qz,hrun];simp only[zv9,gA,hn]
   rw[hno];rfl
  |some s2 =>
   have ab:eB s l[i]=(s2,true):=by simp[eB,hn]
   have R:=y6 @hc (y6 @he (y6 @hst (y6 @hw (y6 @n8 (y6 @bw (y6 @bl (y6 @bj az)))))))
   repeat' ((first |refine ae.aB (by decide +kernel) rfl fun K hK =>?_|refine aV.sG (ow:=[(8,_),(8,_)]) hk (by omega) rfl (how _ _) ab ?_|(refine .au [0,1,4,5,6,8,11,12,13,14,20] hK ?_;clear hK K)|(with_reducible refine .done (hK _ ?_);clear hK K)|refine ae.of rfl ?_|(with_reducible refine av.aA (fun h =>?_) (fun h =>?_) <;>try simp only[h])) <;>try simp only[aC,R,simprocAttr])
   all_goals clear R
   obtain ⟨hk2,hme2,hln3⟩:=zJ hk hn;refine ⟨(i+1,s2),⟨by simp only;omega,?_⟩,by simp only;omega,?_⟩
   ·rw[zy0 hlt,qz,hrun];simp only[zv9,gA,hn]
   ·refine bp.fn ?_ (fun n =>?_) ?_ (fun n x h=>(ma hk2 h).1)
    ·simp[b6,bY]
    ·simp only[fY];cases ak (dE s2) n with
     |none=>exact .inl rfl
     |some y=>exact .inr rfl
    ·have:=(dY (jl s2.all.length) (n:=2000)).2 (.inl (by omega));simp[cn,I.only,b7,this]
 ·have hge:i=l.length:=by omega
  have hc:=fR hlt;subst hge;rw[zv5] at hrun;have hfin:∀ ts,c8 (aw ts (dE s)) 9 (.agg [.int .i64 s.aD,.mref 2001,.mref 2002,.int .i64 s.all.length,.mref 2003,.mref 2004])=some (gq s):=fun ts=>ib (ik (jl _) hk.cJ fun n _=>rfl) 4;have hla:ak (dE s) 2000=some (.box (.agg [.int .i64 s.aD,.mref 2001,.mref 2002,.int .i64 s.all.length,.mref 2003,.mref 2004])):=fN;have hrd:ga aD l=some s:=hrun;rw[hrd];have R:=y6 @hc (y6 @hfin (y6 @hla (y6 @yl (y6 @aZ (y6 @bw (y6 @bl (y6 @bj az)))))))
  repeat' ((first |refine ae.aB (by decide +kernel) rfl fun K hK =>?_|(refine .au [0,1,4,5,6,8,11,12,13,14,20] hK ?_;clear hK K)|(with_reducible refine .done (hK _ ?_);clear hK K)|refine ae.of rfl ?_|(with_reducible refine av.aA (fun h =>?_) (fun h =>?_) <;>try simp only[h])) <;>try simp only[aC,R,simprocAttr])
  all_goals clear R
  rfl
theorem I0(s:aI)(to:Int):bd Tryz.prog 63 [dP s,enc to] (.func 107 [.ref (dP s),.ref (enc to)]):=by
 refine bd.b5 Tryz.func63 Lg Mo NM (t7 rfl) (fun hwf W0 bH E1 =>?_);simp only[Bq,GC,bM,zz4];clear hwf;have hall:([I.ptr 2 [],I.ptr 3 []].all fun y=>y.bX)=true:=rfl;have hv:∀ k n,(I.int k n).bX=true:=fun _ _=>rfl;have R:=y6 @hall (y6 @hv (y6 @eU (y6 @aZ (y6 @bw (y6 @bl (y6 @bj az))))))
 repeat' ((first |refine ae.aB (by decide +kernel) rfl fun K hK =>?_|(refine .au [0,1,2,3,4] hK ?_;clear hK K)|(with_reducible refine .done (hK _ ?_);clear hK K)|refine ae.of rfl ?_|(with_reducible refine av.aA (fun h =>?_) (fun h =>?_) <;>try simp only[h])) <;>try simp only[aC,R,simprocAttr])
 all_goals clear R
theorem aaz{s:aI}(hk:cI s)(to:Int):(gH s to (cE s.bK).length).Nodup:=by
 have hn:s.bK.Nodup:=by
  simp only[aI.bK];exact List.Pairwise.map _ (fun a b h e=>h (by omega)) hk.jr
 have ab:(cE s.bK).Nodup:=(List.mergeSort_perm _ _).nodup_iff.2 hn;rw[gH,zv5];have hf:=ab.filter (qF s to);exact List.Pairwise.map _ (fun a b h e=>h (by simpa[oP] using congrArg er.no e)) hf
theorem xT{s:aI}{to:Int} : ∀ {k:Nat} {x:er},x∈il s to k→x.no≤k∧(x.kind=2∨x.kind=4)
 |0,x,h=>by simp[il] at h
 |k+1,x,h=>by
  rw[pY] at h;rcases zw0.1 h with h | h
  ·have:=xT h;omega
  ·simp only[l3] at h;split at h
   ·rw[zx1.1 h];refine ⟨by simp,?_⟩;simp only;split <;>simp
   ·cases h
theorem Er(s:aI)(to:Int):∀ k,(il s to k).Nodup
 |0=>by simp[il]
 |k+1=>by
  rw[pY];refine List.nodup_append.2 ⟨Er s to k,?_,fun a ha b hb e =>?_⟩
  ·simp only[l3];split <;>simp
  ·have J:=(xT ha).1;have U:b.no=(k:Int)+1:=by
    simp only[l3] at hb;split at hb
    ·rw[zx1.1 hb];simp
    ·cases hb
   rw[e] at J;omega
theorem adv{s:aI}(hk:cI s)(to:Int):(fM s to).Nodup:=by
 refine List.nodup_append.2 ⟨aaz hk to,Er s to 200,fun a ha b hb e =>?_⟩;have J:=(xT hb).2;rw[←e] at J;simp only[gH,zy9] at ha;obtain ⟨n,_,rfl⟩:=ha;simp only[oP] at J;split at J <;>omega
def my(p:bI):List bn:=p.j.take p.di.toNat
def qp(p:bI)(to:Int):List er×Int:=match dD p with
 |none=>([],91)
 |some _=>if dJ 0 5 to=false∨to=p.aD then ([],90) else match ga p.aD (my p) with
  |some s=>(fM s to,0)
  |none=>([],0)
theorem P7{p:bI}{s:aI}(ho:dD p=some s):0≤p.di∧p.di.toNat≤p.j.length∧∃ s2,ga p.aD (my p)=some s2∧cI s2∧s2.aU.length≤200:=by
 obtain ⟨_,_,_,ar,h5,h6⟩:=iJ ho;simp only[iG,dJ,zz0,decide_eq_true_eq] at h5;obtain ⟨_,_,h7,h8⟩:=h5;have hsp:p.j=my p++p.j.drop p.di.toNat:=by simp[my]
 rw[ga,hsp,qz] at h6;cases hr:gA (fk p.aD) (my p) with
 |none=>rw[hr] at h6;cases h6
 |some s2 =>
  refine ⟨h7,by omega,s2,hr,(nN (lU p.aD) hr).1,?_⟩;have:=zi hr;simp only[fk,List.length_nil,my,zx2] at this;omega
theorem adP{A:ai}{l:List bn}{i:Nat}(h:i≤l.length):jb A 4 none (some (.int .i64 i)) (some (.int .i64 i)) (enc l)=some (if i=0 then .c0 4 else enc (l.take i)):=by
 simp only[jb,hh,show Enc.sz bn=4 from rfl,if_true,iN,jf,zz6];rw[if_pos ⟨by omega,by omega,by omega,by omega⟩];by_cases aR:i=0
 ·simp[aR]
 ·rw[if_neg (by simp;omega),if_neg aR];simp
theorem mZ{i:Nat}(l:List bn)(aP:Bool)(A:ai):br aP A (if i=0 then .c0 4 else enc (l.take i))=some (enc (l.take i)):=by
 by_cases aR:i=0
 ·rw[if_pos aR,aR];simp only[br];rfl
 ·rw[if_neg aR,ml]
theorem Ep(s:aI)(to:Int):∀ k,(il s to k).length≤k
 |0=>by simp[il]
 |k+1=>by
  have J:=Ep s to k;have U:(l3 s to (k+1)).length≤1:=by simp only[l3];split <;>simp
  rw[pY,zz8];omega
theorem adu(s:aI)(to:Int):(fM s to).length≤s.aU.length+200:=by
 have J:=Ep s to 200;have U:(gH s to (cE s.bK).length).length≤s.aU.length:=by
  simp only[gH,zz6,zv5];refine zu0 (List.length_filter_le _ _) ?_;simp[cE,aI.bK]
 rw[fM,zz8];omega
def jA(xs:List er):List (Nat×aq):=[(1000009,.box (.own 1000080 xs.length)),(1000080,.bV 39 5 (xs.map enc))]
theorem ad3(xs ys:List er):fq (jA xs) (jA ys):=by
 refine ⟨fun n=>by simp only[jA,ay,ak];(repeat' split) <;>rfl,fun n x h =>?_,fun n h =>?_⟩
 ·simp only[jA,ak] at h
  repeat' split at h
  all_goals first | (cases h;done) | (simp only[v6] at h;subst h;exact ⟨by simp[jA,ay,ak,aq.only,I.only,e8],rfl⟩)
 ·simp only[jA,ay,ak] at h
  repeat' split at h
  all_goals first | omega | (simp at h;done)
theorem vH(p:bI)(to:Int):bd Tryz.prog 14 [enc p,enc to] (.tuple [enc (qp p to).1,enc (qp p to).2]):=by
 refine bd.b5 Tryz.func14 KV L3 Np (t7 rfl) (fun hwf W0 bH E1 =>?_);simp only[A8,Gf,bM,zz4];clear hwf;have hF:=sT p;simp only[iB] at hF;simp only[qp];cases ho:dD p with
 |none =>
  rw[ho] at hF;have R:=y6 @bE (y6 @aZ (y6 @bw (y6 @bl (y6 @bj az))))
  repeat' ((first |(with_reducible refine .guard (fun hb =>?_) (fun hb =>?_) <;>try simp only[hb])|refine ae.aB (by decide +kernel) rfl fun K hK =>?_|refine .lead _ (hF) ?_|(refine .au [0,1,2,4,5,6,7,9,10,14,24,40,41,54] hK ?_;clear hK K)|(with_reducible refine .done (hK _ ?_);clear hK K)|refine ae.of rfl ?_|(with_reducible refine av.aA (fun h =>?_) (fun h =>?_) <;>try simp only[h])) <;>try simp only[aC,R,simprocAttr])
  all_goals clear R
  all_goals rfl
 |some s =>
  obtain ⟨f1,f2,s2,hr,hk,hl2⟩:=P7 ho;have hjl:=(iJ ho).2.2.2.1;rw[ho] at hF
  dsimp only at hF ⊢
  have hT:=nd to;rcases q2:dJ 0 5 to
  ·rw[q2] at hT;simp only[true_or,if_true];have R:=y6 @bE (y6 @aZ (y6 @bw (y6 @bl (y6 @bj az))))
   repeat' ((first |(with_reducible refine .guard (fun hb =>?_) (fun hb =>?_) <;>try simp only[hb])|refine ae.aB (by decide +kernel) rfl fun K hK =>?_|refine .lead _ (hF) ?_|refine .flat _ (hT) rfl ?_|(refine .au [0,1,2,4,5,6,7,9,10,14,24,40,41,54] hK ?_;clear hK K)|(with_reducible refine .done (hK _ ?_);clear hK K)|refine ae.of rfl ?_|(with_reducible refine av.aA (fun h =>?_) (fun h =>?_) <;>try simp only[h])) <;>try simp only[aC,R,simprocAttr])
   all_goals clear R
   all_goals rfl
  rw[q2] at hT;rcases q3:(to==p.aD)
  case true =>
   have e:to=p.aD:=by simpa using q3
   simp only[Bool.true_eq_false,false_or,if_pos e];have R:=y6 @q3 (y6 @bE (y6 @aZ (y6 @bw (y6 @bl (y6 @bj az)))))
   repeat' ((first |(with_reducible refine .guard (fun hb =>?_) (fun hb =>?_) <;>try simp only[hb])|refine ae.aB (by decide +kernel) rfl fun K hK =>?_|refine .lead _ (hF) ?_|refine .flat _ (hT) rfl ?_|(refine .au [0,1,2,4,5,6,7,9,10,14,24,40,41,54] hK ?_;clear hK K)|(with_reducible refine .done (hK _ ?_);clear hK K)|refine ae.of rfl ?_|(with_reducible refine av.aA (fun h =>?_) (fun h =>?_) <;>try simp only[h])) <;>try simp only[aC,R,simprocAttr])
   all_goals clear R
   all_goals rfl
  have e:¬ to=p.aD:=by simpa using q3
  simp only[Bool.true_eq_false,false_or,if_neg e,hr];have hR:=IZ p.aD (my p) (by simp only[my,zx2];omega);rw[hr] at hR;simp only[G6] at hR;obtain ⟨w,hsl,hfw⟩:∃ w:I,(∀ A,jb A 4 none (some (.int .i64 p.di)) (some (.int .i64 p.di)) (enc p.j)=some w)∧∀ aP A,br aP A w=some (enc (my p)) :=
   ⟨_,fun A=>by
    have:=adP (A:=A) (l:=p.j) (i:=p.di.toNat) f2;rw[show ((p.di.toNat:Nat):Int)=p.di by omega] at this;exact this,fun aP A=>mZ p.j aP A⟩
  have h63:=I0 s2 to;have R:=y6 @q3 (y6 @hsl (y6 @hfw (y6 @eU (y6 @bE (y6 @aZ (y6 @bw (y6 @bl (y6 @bj az))))))))
  repeat' ((first |(with_reducible refine .guard (fun hb =>?_) (fun hb =>?_) <;>try simp only[hb])|refine ae.aB (by decide +kernel) rfl fun K hK =>?_|refine .lead _ (hF) ?_|refine .flat _ (hT) rfl ?_|refine .lead _ (hR) ?_|refine .lead _ (h63) ?_|(refine .au [0,1,2,4,5,6,7,9,10,14,24,40,41,54] hK ?_;clear hK K)|(with_reducible refine .done (hK _ ?_);clear hK K)|refine ae.of rfl ?_|(with_reducible refine av.aA (fun h =>?_) (fun h =>?_) <;>try simp only[h])) <;>try simp only[aC,R,zw5,simprocAttr])
  all_goals clear R
  have hcap:I.cv [.ref (dP s2),.ref (.int .i64 to)]=true:=by simp[I.cv,I.bG,o7]
  refine ae.sub (bp.vZ 9 80 39 5 5 [] _ rfl rfl rfl (B:=aw [(9,.ptr 9 []),(40,.func 107 [.ref (dP s2),.ref (.int .i64 to)])] [(9,.box (.own 80 0)),(80,.bV 39 5 [])]) ?_) ?_
  ·simp only[oZ];refine bp.cG ?_ ?_ ?_ ?_ <;>simp[*,b6,cF,cn,ct,ay,bY,cQ,I.only,I.b8,aq.only,o8]
  have hnd:=adv hk to;refine ae.mS (osb0:=jA []) (tsR:=[(9,.ptr 1000009 [])]) (ρ:=[(1999999,999999),(1000009,9),(1000080,80)])
   (fun k os=>os=jA ((fM s2 to).take k))
   (fun _ _=>False)
   ⟨rfl,rfl⟩ (t7 rfl) (by simp only[bF,simprocAttr]) hcap BM (Io s2 to (by omega)) (fun _=>rfl) rfl rfl rfl (fun o=>⟨?_,?_⟩) ?_ ?_ ?_ ?_ ?_ ?_ ?_
  ·intro n x hx;simp only[eI,jA,ak] at hx
   repeat' split at hx
   all_goals first | (cases hx;done) | (subst_vars;simp only[v6] at hx;subst hx;simp[eI,jA,ay,bP,ak,aq.bu,I.bu,I.ee,aq.only,I.only,I.b8,aq.eG])
  ·intro a b ha hb;simp only[eI,jA,ay,ak] at ha hb
   repeat' split at ha
   all_goals first | (simp at ha;done) | skip
   all_goals (repeat' split at hb)
   all_goals first | (simp at hb;done) | (subst_vars;simp[bP])
  ·simp[nR,bY,I.bu,bP,I.only,jA,ay,ak]
  ·rintro k os rfl;exact ad3 ..
  ·rintro e os h;exact h.elim
  ·simp[jA]
  ·rintro k osb hk' rfl W1 D1 E1 rM o1 o2;obtain ⟨r,hr0⟩:∃ r,r=(fM s2 to).getD k uY:=⟨_,rfl⟩
   have hri:(fM s2 to)[k]=r:=by rw[hr0];simp[zz1,hk']
   have hsu:(fM s2 to).take (k+1)=(fM s2 to).take k++[r]:=by rw[zy0 hk',hri]
   have hN2:(fM s2 to).length≤400:=by
    have J:=adu s2 to;omega
   have hk2:k<400:=Nat.lt_of_lt_of_le hk' hN2;have hlast:∀ j,j+1=k→∃ u,((fM s2 to).take k)[j]?=some u∧u≠r:=fun j hj=>by
    refine ⟨(fM s2 to)[j],by rw[List.getElem?_take_of_lt (by omega),zy2],fun e =>?_⟩;rw[←hri] at e;have:=(List.getElem_inj hnd).1 e;omega
   have hxl:((fM s2 to).take k).length=k:=by rw[zx2];omega
   generalize (fM s2 to).take k=xs at hsu hlast hxl ⊢;simp only[←hr0,uR,eI,jA];have hst:∀ A rest b x y z w u,c7 A (some 5) 10 [] b (enc r) rest (some (.agg [.int .i64 x,.int .i64 y,.int .i64 z,.int .i64 w,.int .i64 u]))=aE rest (A.aT 10 (.box (enc r))):=fun A rest b x y z w u=>nT.1 A 10 b rest r x y z w u;have R:=y6 @hst (y6 @bE (y6 @aZ (y6 @bw (y6 @bl (y6 @bj az)))))
   repeat' ((first |(with_reducible refine .guard (fun hb =>?_) (fun hb =>?_) <;>try simp only[hb])|refine ae.aB (by decide +kernel) rfl fun K hK =>?_|(refine .au [0,1,2,4,5,6,7,9,10,14,24,40,41,54] hK ?_;clear hK K)|(with_reducible refine .done (hK _ ?_);clear hK K)|refine ae.of rfl ?_|(with_reducible refine av.aA (fun h =>?_) (fun h =>?_) <;>try simp only[h])) <;>try simp only[aC,R,simprocAttr])
   all_goals clear R
   refine ⟨by simp[],?_⟩;have stOwn:∀ (A:ai) n b m k m' k' rest,c7 A none n [] b (.own m k) rest (some (.own m' k'))=aE rest (A.aT n (.box (.own m k))) :=
    fun _ _ _ m k m' k' _=>by rw[dI (s:=none) (v:=.own m k) (old:=.own m' k') rfl rfl rfl,oZ]
   have hbs:eW 5 (some [enc r])=some (enc [r]):=h2 5 r rfl;have hap:=fun (A:ai) d rest=>lD (A:=A) (d:=d) 39 5 40 1000080 (l:=xs.length) (es:=xs) (ys:=[r]) (rest:=rest) rfl rfl (by simp) (by simp[maxLen];omega) (by simp;omega);have je:∀ ts z1 z2 z3 z4 z5,Hp o2 (fun os=>os=[(1000009,.box (.own 1000080 ((fM s2 to).take (k+1)).length)),(1000080,.bV 39 5 (((fM s2 to).take (k+1)).map enc))]) (fun _ _=>False) .normal
     (aw ts [(1000009,.box (.own 1000080 (xs++[r]).length)),(1000080,.bV 39 5 ((xs++[r]).map enc)),(1999999,.dR o2),(10,z1),(10,z2),(1999999,z3),(1000009,z4),(1000080,z5)]):=fun ts z1 z2 z3 z4 z5=>by
    refine ⟨_,?_,rfl⟩;rw[hsu];intro n x hx;simp only[eI,ak] at hx
    (repeat' split at hx) <;>first
     |(cases hx;done)
     |(subst_vars;simp only[v6] at hx;subst hx;simp[eI,ay,aw,ak,aq.only,I.only,aq.eG,e8,-List.map_append])
   have hle:=fun (A:ai) (h:A.o 1000080=some (.bV 39 5 (xs.map enc)))=>aa2 A 1000080 xs.length 39 5 xs h rfl;by_cases aR:k=0
   ·have hz:((xs.length:Int)==0)=true:=by rw[beq_iff_eq];omega
    have R:=y6 @hle (y6 @hz (y6 @hbs (y6 @hap (y6 @stOwn (y6 @bE (y6 @aZ (y6 @bw (y6 @bl (y6 @bj az)))))))))
    repeat' ((first |(with_reducible refine .guard (fun hb =>?_) (fun hb =>?_) <;>try simp only[hb])|refine ae.aB (by decide +kernel) rfl fun K hK =>?_|(refine .au [0,1,2,4,5,6,7,9,10,14,24,40,41,54] hK ?_;clear hK K)|(with_reducible refine .done (hK _ ?_);clear hK K)|refine ae.of rfl ?_|(with_reducible refine av.aA (fun h =>?_) (fun h =>?_) <;>try simp only[h])) <;>try simp only[aC,R,simprocAttr])
    all_goals clear R
    exact je _ _ _ _ _ _
   ·have hz:((xs.length:Int)==0)=false:=by rw[beq_eq_false_iff_ne];omega
    obtain ⟨u,hu,hne⟩:=hlast (k-1) (by omega);have hw1:IntKind.i64.wrap ((xs.length:Int)-1)=((k-1:Nat):Int):=by rw[iy _ (by omega) (by omega)];omega
    have hq:=CM u r;rw[decide_eq_false hne] at hq;have hie:=fun (A:ai) (h:A.o 1000080=some (.bV 39 5 (xs.map enc)))=>(by
     have hu2:(xs.map (enc (α:=er)))[k-1]?=some (enc u):=by rw[zx4,hu];rfl
     have hc:xs.length=(xs.map (enc (α:=er))).length∧True∧(0:Int)≤((k-1:Nat):Int)∧((k-1:Nat):Int)<((xs.map (enc (α:=er))).length:Nat):=⟨by simp,trivial,by omega,by simp;omega⟩
     simp only[fi,h];rw[if_pos hc,Int.toNat_natCast,hu2];rfl:fi A 5 ((k-1:Nat):Int) (.own 1000080 xs.length)=some (.ref (enc u)))
    have R:=y6 @hle (y6 @hz (y6 @hw1 (y6 @hie (y6 @hq (y6 @hbs (y6 @hap (y6 @stOwn (y6 @bE (y6 @aZ (y6 @bw (y6 @bl (y6 @bj az))))))))))))
    repeat' ((first |(with_reducible refine .guard (fun hb =>?_) (fun hb =>?_) <;>try simp only[hb])|refine ae.aB (by decide +kernel) rfl fun K hK =>?_|(refine .au [0,1,2,4,5,6,7,9,10,14,24,40,41,54] hK ?_;clear hK K)|(with_reducible refine .done (hK _ ?_);clear hK K)|refine ae.of rfl ?_|(with_reducible refine av.aA (fun h =>?_) (fun h =>?_) <;>try simp only[h])) <;>try simp only[aC,R,simprocAttr])
    all_goals clear R
    all_goals exact je _ _ _ _ _ _
  ·rintro os rfl;rw[zv5];simp only[jA,dN,zz5,zx7,bP,aq.bu,I.bu,u3,ej,jF,reduceIte,Nat.reduceEqDiff,zy1,List.nil_append];have hfo:kl (fM s2 to).length (some (.bV 39 5 ((fM s2 to).map enc)))=some (enc (fM s2 to)):=ot 5 rfl rfl;have R:=y6 @hfo (y6 @bE (y6 @aZ (y6 @bw (y6 @bl (y6 @bj az)))))
   repeat' ((first |(with_reducible refine .guard (fun hb =>?_) (fun hb =>?_) <;>try simp only[hb])|refine ae.aB (by decide +kernel) rfl fun K hK =>?_|(refine .au [0,1,2,4,5,6,7,9,10,14,24,40,41,54] hK ?_;clear hK K)|(with_reducible refine .done (hK _ ?_);clear hK K)|refine ae.of rfl ?_|(with_reducible refine av.aA (fun h =>?_) (fun h =>?_) <;>try simp only[h])) <;>try simp only[aC,R,simprocAttr])
   all_goals clear R
  ·rintro e os h;exact h.elim
def w8:bI:=⟨0,[],0⟩
def w9:bI:=⟨0,[⟨1,7,0,0⟩],0⟩
def xa:bI:=⟨0,[⟨1,7,0,0⟩],1⟩
def oo:bI:=⟨0,[⟨1,7,0,0⟩,⟨3,7,1,1⟩],1⟩
def oq:bI:=⟨0,[⟨1,7,0,0⟩,⟨3,7,1,1⟩],2⟩
def xb:bI:=⟨0,[⟨1,7,0,0⟩,⟨3,7,1,1⟩,⟨5,7,1,1⟩],2⟩
def xc:bI:=⟨1,[],0⟩
def ri:bI:=⟨1,[⟨7,7,0,1⟩],0⟩
def xd:bI:=⟨1,[⟨7,7,0,1⟩],1⟩
def pM:er:=⟨1,0,1,7,1⟩
def pN:er:=⟨2,1,0,7,1⟩
def xe:aG:=⟨⟨#[112,111,117,110,100,32,48,32,49,10,112,111,117,110,100,32,55,10,115,101,110,100,32,55,32,49,32,49,10]⟩⟩
theorem PA:rY 0=(w8,0):=by decide +kernel
theorem PK:rY 1=(xc,0):=by decide +kernel
theorem PC:uc w8 7=(w9,0):=by decide +kernel
theorem PD:qE w9=(xa,0):=by decide +kernel
theorem PE:sy xa 7 1=(oo,⟨1,1,7,false⟩,0):=by decide +kernel
theorem PF:qp oo 1=([],0):=by decide +kernel
theorem PG:kY oo=(xe,0):=by decide +kernel
theorem PH:qE oo=(oq,0):=by decide +kernel
theorem PI:qp oq 1=([pM],0):=by decide +kernel
theorem PL:rA xc pM=(ri,0):=by decide +kernel
theorem PQ:vx [oq,ri] 7=([1],0):=by decide +kernel
theorem PM:qE ri=(xd,0):=by decide +kernel
theorem PN:qp xd 0=([pN],0):=by decide +kernel
theorem PJ:rA oq pN=(xb,0):=by decide +kernel
theorem PB:u5 xb=([],0):=by decide +kernel
theorem Ku(a b c d:Int):(dS [.int .i64 0,.int .i64 0,.int .i64 0,.int .i64 0,.int .i64 0] [(0,.int .i64 a),(2,.int .i64 b),(3,.int .i64 c),(4,.int .i64 d)]).map I.agg=some (enc (⟨a,0,b,c,d⟩:er)):=by simp[dS,I.bX,I.size];rfl
theorem Kv(a b c d:Int):(dS [.int .i64 0,.int .i64 0,.int .i64 0,.int .i64 0,.int .i64 0] [(0,.int .i64 a),(1,.int .i64 b),(3,.int .i64 c),(4,.int .i64 d)]).map I.agg=some (enc (⟨a,b,0,c,d⟩:er)):=by simp[dS,I.bX,I.size];rfl
theorem KB(r:er):eW 5 (some [enc r])=some (enc [r]):=h2 5 r rfl
theorem KC(a b:bI):eW 3 (some [enc a,enc b])=some (enc [a,b]):=qV (ys:=[a,b]) 3 rfl
theorem Pu(s:aG)(b:ByteArray)(h:s.b=b):cu .eql (enc s) (.bm b)=some (.bool true):=by
 subst h
 show cu .eql (.bm s.b) (.bm s.b)=_
 simp[cu]
theorem IJ:bd Tryz.prog 18 [] (enc true):=by
 have J:=z8 0;have U:=z8 1;have af:=IL w8 7;have ar:=vE w9;have h5:=IM xa 7 1;have h6:=vH oo 1;have h7:=Ac oo;have h8:=vE oo;have h9:=vH oq 1;have h10:=Ab xc pM;have h11:=IN [oq,ri] 7;have h12:=vE ri;have h13:=vH xd 0;have h14:=Ab oq pN;have h15:=IQ xb;rw[PA] at J;rw[PK] at U;rw[PC] at af;rw[PD] at ar;rw[PE] at h5;rw[PF] at h6;rw[PG] at h7;rw[PH] at h8;rw[PI] at h9;rw[PL] at h10;rw[PQ] at h11;rw[PM] at h12;rw[PN] at h13;rw[PJ] at h14;rw[PB] at h15;simp only at J U af ar h5 h6 h7 h8 h9 h10 h11 h12 h13 h14 h15;have h16:=z7 [pM] [pM];have h17:=z7 [pN] [pN];have h18:=IP [1] [1];rw[decide_eq_true rfl] at h16 h17 h18;refine bd.b5 Tryz.func18 KZ L7 Nu (t7 rfl) (fun hwf W0 bH E1 =>?_);simp only[Bc,Gk,bM];clear hwf;have q3:((0:Int)==0)=true:=rfl;have hst:∀ A n b rest x y z w (q:dB),c7 A (some 4) n [] b (enc q) rest (some (.agg [.int .i64 x,.int .i64 y,.int .i64 z,.bool w]))=aE rest (A.aT n (.box (enc q))):=fun A n b rest x y z w q=>nU.1 A n b rest q x y z w;have hst2:∀ A n b rest (q:er) x y z w u,c7 A (some 5) n [] b (enc q) rest (some (.agg [.int .i64 x,.int .i64 y,.int .i64 z,.int .i64 w,.int .i64 u]))=aE rest (A.aT n (.box (enc q))):=fun A n b rest q x y z w u=>nT.1 A n b rest q x y z w u;have eO:(⟨1,0,1,7,1⟩:er)=pM:=rfl;have eR:(⟨2,1,0,7,1⟩:er)=pN:=rfl;have hR:=Pt ⟨1,1,7,false⟩ ⟨1,1,7,false⟩;rw[decide_eq_true rfl] at hR;have hS:cu .eql (enc xe) (.bm ⟨#[112,111,117,110,100,32,48,32,49,10,112,111,117,110,100,32,55,10,115,101,110,100,32,55,32,49,32,49,10]⟩)=some (.bool true):=Pu xe _ rfl;have hL:∀ α:Type,((([]:List α).length:Nat):Int)=0:=fun _=>rfl;have R:=y6 @q3 (y6 @hL (y6 @hst (y6 @hst2 (y6 @Ku (y6 @Kv (y6 @eO (y6 @eR (y6 @tm (y6 @KB (y6 @KC (y6 @tq (y6 @hR (y6 @hS (y6 @bE (y6 @aZ (y6 @bw (y6 @bl (y6 @bj az))))))))))))))))))
 repeat' ((first |(with_reducible refine .guard (fun hb =>?_) (fun hb =>?_) <;>try simp only[hb])|refine ae.aB (by decide +kernel) rfl fun K hK =>?_|refine .lead _ (J) ?_|refine .lead _ (U) ?_|refine .lead _ (af) ?_|refine .lead _ (ar) ?_|refine .lead _ (h5) ?_|refine .lead _ (h6) ?_|refine .lead _ (h7) ?_|refine .lead _ (h8) ?_|refine .lead _ (h9) ?_|refine .lead _ (h10) ?_|refine .lead _ (h11) ?_|refine .lead _ (h12) ?_|refine .lead _ (h13) ?_|refine .lead _ (h14) ?_|refine .lead _ (h15) ?_|refine .flat _ (h16) rfl ?_|refine .flat _ (h17) rfl ?_|refine .flat _ (h18) rfl ?_|(refine .au [0,1,2,3,4,5,6,7,8,9,10,11,12,13,14,15,16,17,18,19,20,21,22,23,24,25,26] hK ?_;clear hK K)|(with_reducible refine .done (hK _ ?_);clear hK K)|refine ae.of rfl ?_|(with_reducible refine av.aA (fun h =>?_) (fun h =>?_) <;>try simp only[h])) <;>try simp only[aC,R,simprocAttr])
 all_goals clear R
theorem tO{xs:List bn} : kl xs.length (some (.bV 37 4 (xs.map enc)))=some (enc xs):=ot 4 rfl rfl
def ig(x:aG):List aG→Nat→Int
 | [],_=>-1
 |y::l,i=>if x=y then i else ig x l (i+1)
def sZ(l:List aG)(x:aG)(i:Nat):ai:=aw [(0,enc l),(1,enc x),(7,.int .i64 l.length),(8,.int .i64 i)] []
theorem pI{α:Type}{l:List α}{i:Nat}(h:i<l.length):l.drop i=l[i]::l.drop (i+1):=List.drop_eq_getElem_cons h
theorem zQ(l:List aG)(x:aG):bd Tryz.prog 100 [enc l,enc x] (enc (ig x l 0)):=by
 refine bd.b5 Tryz.func100 KF LN MY (t7 rfl) (fun hwf W0 bH E1 =>?_);simp only[AR,FR,bM,zz4];have hlen:l.length≤maxLen:=((kI l).1 hwf.1).1;clear hwf;simp only[maxLen] at hlen;have R:=y6 @cz az
 repeat' ((first |refine ae.aB (by decide +kernel) rfl fun K hK =>?_|(refine .au [0,1,4,5,7,8,9,16] hK ?_;clear hK K)|(with_reducible refine .done (hK _ ?_);clear hK K)|refine ae.of rfl ?_|(with_reducible refine av.aA (fun h =>?_) (fun h =>?_) <;>try simp only[h])) <;>try simp only[aC,R,simprocAttr])
 all_goals clear R
 refine ae.loop (sZ l x) (fun i=>i≤l.length∧ig x (l.drop i) i=ig x l 0) (fun i=>l.length-i) 0 ⟨zw1 _,rfl⟩ ?_ ?_
 ·simp only[sZ];refine bp.cG ?_ ?_ ?_ ?_ <;>simp[b6,cF,cn,ct,bY,I.only,b7]
 intro i ⟨hi,hx⟩;simp only[sZ];by_cases hlt:i<l.length
 ·have hlc:=fK hlt;have he:=fun A=>eK (A:=A) 1 hlt rfl;have hw:=fg (i:=i) (by omega);rw[pI hlt] at hx;simp only[ig] at hx;generalize l[i]=y at *;rcases q:decide (x=y)
  ·have hne:¬ x=y:=of_decide_eq_false q;rw[if_neg hne] at hx;have R:=y6 @hlc (y6 @he (y6 @hw (y6 @q (y6 @cz az))))
   repeat' ((first |refine ae.aB (by decide +kernel) rfl fun K hK =>?_|(refine .au [0,1,4,5,7,8,9,16] hK ?_;clear hK K)|(with_reducible refine .done (hK _ ?_);clear hK K)|refine ae.of rfl ?_|(with_reducible refine av.aA (fun h =>?_) (fun h =>?_) <;>try simp only[h])) <;>try simp only[aC,R,simprocAttr])
   all_goals clear R
   refine ⟨i+1,⟨by omega,hx⟩,by omega,?_⟩
   try simp only[sZ]
   clear hx;refine bp.cG ?_ ?_ ?_ ?_ <;>simp[b6,cF,cn,ct,bY,I.only,b7]
  ·have heq:x=y:=of_decide_eq_true q;rw[if_pos heq] at hx;rw[←hx];have R:=y6 @hlc (y6 @he (y6 @hw (y6 @q (y6 @cz az))))
   repeat' ((first |refine ae.aB (by decide +kernel) rfl fun K hK =>?_|(refine .au [0,1,4,5,7,8,9,16] hK ?_;clear hK K)|(with_reducible refine .done (hK _ ?_);clear hK K)|refine ae.of rfl ?_|(with_reducible refine av.aA (fun h =>?_) (fun h =>?_) <;>try simp only[h])) <;>try simp only[aC,R,simprocAttr])
   all_goals clear R
   all_goals rfl
 ·have hlc:=fR hlt;have hge:i=l.length:=by omega
  rw[hge,List.drop_length] at hx;rw[←hx];have R:=y6 @hlc (y6 @cz az)
  repeat' ((first |refine ae.aB (by decide +kernel) rfl fun K hK =>?_|(refine .au [0,1,4,5,7,8,9,16] hK ?_;clear hK K)|(with_reducible refine .done (hK _ ?_);clear hK K)|refine ae.of rfl ?_|(with_reducible refine av.aA (fun h =>?_) (fun h =>?_) <;>try simp only[h])) <;>try simp only[aC,R,simprocAttr])
  all_goals clear R
  all_goals rfl
theorem Fh(l:List (List UInt8))(w:List UInt8){xs:List Int}{n:Nat}(h:eY l=some xs)(hn:gz w=some n):eY (l++[w])=some (xs++[(n:Int)]):=by
 induction l generalizing xs with
 |nil =>
  simp only[eY,v6] at h;subst h;simp[eY,hn]
 |cons v l ih =>
  simp only[eY] at h;cases J:gz v with
  |none=>rw[J] at h;cases h
  |some m=>cases U:eY l with
   |none=>rw[J,U] at h;cases h
   |some ys =>
    rw[J,U] at h;simp only[v6] at h;subst h;simp[eY,J,ih U]
theorem lV{l:List (List UInt8)}{w:List UInt8}(h:w∈l)(hn:gz w=none):eY l=none:=by
 induction l with
 |nil=>cases h
 |cons v l ih =>
  simp only[eY];rcases zx3.1 h with rfl | h
  ·rw[hn]
  ·rw[ih h];cases gz v <;>rfl
theorem yw{l:List (List UInt8)}{xs:List Int}(h:eY l=some xs):xs.length=l.length:=by
 induction l generalizing xs with
 |nil=>simp only[eY,v6] at h;subst h;rfl
 |cons v l ih =>
  simp only[eY] at h;cases J:gz v with
  |none=>rw[J] at h;cases h
  |some m=>cases U:eY l with
   |none=>rw[J,U] at h;cases h
   |some ys =>
    rw[J,U] at h;simp only[v6] at h;subst h;simp[ih U]
def oK(l:List aG)(db:Int):List Int×Bool:=if (l.length:Int)=db+1 then (match eY ((l.drop 1).map aG.l) with
 |some n=>(n,true)
 |none=>([],false)) else ([],false)
theorem zD{α:Type}[Enc α](A:ai){l:List α}{esz:Nat}(ab:Enc.sz α=esz)(h:1≤l.length):jb A esz (some (.int .i64 1)) none none (enc l)=some (enc (l.drop 1)):=by
 simp only[jb,hh,ab,if_true,iN,jf,zz6];rw[if_pos (by omega)];simp only[Option.isSome_none,zz2,false_and,if_false,Int.toNat_natCast,Int.reduceToNat];rw[List.take_of_length_le (by simp),List.map_drop]
theorem yq{w:List UInt8}{n:Int}(h:Lib.atoiAll w=.ok n)(hb:¬ (0≤n∧w.length≤5∧Lib.itoa n=w)):gz w=none:=by
 cases hn:gz w with
 |none=>rfl
 |some m =>
  obtain ⟨J,U,af,_⟩:=yr hn;rw[h] at J;injection J with J
  subst J;exact absurd ⟨by omega,U,af⟩ hb
theorem Ff{w:List UInt8}(h:∀ n,Lib.atoiAll w≠.ok n):gz w=none:=by
 cases hn:gz w with
 |none=>rfl
 |some m=>exact absurd (yr hn).1 (h _)
theorem Et(n:Int)(s:aG):gI n=s↔Lib.itoa n=s.l:=by
 constructor
 ·rintro rfl;rfl
 ·intro h;exact aG.pO h
theorem zR(l:List aG)(db:Int)(hm:0≤db∧db≤3)(ao:∀ x∈l,x.l.length≤10000):bd Tryz.prog 101 [enc l,enc db] (.tuple [enc (oK l db).1,enc (oK l db).2]):=by
 refine bd.b5 Tryz.func101 KG LO MZ (t7 rfl) (fun hwf W0 bH E1 =>?_);simp only[AS,FT,bM,zz4];have hlen:l.length≤maxLen:=((kI l).1 hwf.1).1;clear hwf;simp only[maxLen] at hlen;have hw0:IntKind.i64.wrap (db+1)=db+1:=iy _ (by omega) (by omega);rcases q:((l.length:Int) != db+1)
 rotate_left
 ·have hne:¬ (l.length:Int)=db+1:=by simpa using q
  rw[show oK l db=([],false) by simp only[oK,if_neg hne]];have R:=y6 @hw0 (y6 @q (y6 @cz (y6 @bE (y6 @aZ az))))
  repeat' ((first |(with_reducible refine .guard (fun hb =>?_) (fun hb =>?_) <;>try simp only[hb])|refine ae.aB (by decide +kernel) rfl fun K hK =>?_|(refine .au [0,1,4,5,6,8,9,10,15,17,18,19,20,44] hK ?_;clear hK K)|(with_reducible refine .done (hK _ ?_);clear hK K)|refine ae.of rfl ?_|(with_reducible refine av.aA (fun h =>?_) (fun h =>?_) <;>try simp only[h])) <;>try simp only[aC,R,simprocAttr])
  all_goals clear R
  all_goals rfl
 have heq:(l.length:Int)=db+1:=by simpa using q
 have hsl:=fun A=>zD A (l:=l) (esz:=1) rfl (by omega);have hdl:(l.drop 1).length≤3:=by rw[zw9];omega
 have hml:∀ x∈l.drop 1,x.l.length≤10000:=fun x hx=>ao x (List.mem_of_mem_drop hx);simp only[oK,if_pos heq];have R:=y6 @hw0 (y6 @q (y6 @hsl (y6 @cz (y6 @bE (y6 @aZ az)))))
 repeat' ((first |(with_reducible refine .guard (fun hb =>?_) (fun hb =>?_) <;>try simp only[hb])|refine ae.aB (by decide +kernel) rfl fun K hK =>?_|(refine .au [0,1,4,5,6,8,9,10,15,17,18,19,20,44] hK ?_;clear hK K)|(with_reducible refine .done (hK _ ?_);clear hK K)|refine ae.of rfl ?_|(with_reducible refine av.aA (fun h =>?_) (fun h =>?_) <;>try simp only[h])) <;>try simp only[aC,R,zw5,simprocAttr])
 all_goals clear R
 generalize l.drop 1=r at *;have hbs:∀ y:Int,eW 1 (some [.int .i64 y])=some (enc [y]):=fun y=>h2 1 y rfl;refine ae.loop (fun t:Nat×List Int=>aw [(6,.own 905 t.2.length),(17,enc r),(18,.int .i64 r.length),(19,.int .i64 t.1)] [(905,.bV 3 1 (t.2.map enc))]) (fun t=>t.1≤r.length∧eY ((r.take t.1).map aG.l)=some t.2) (fun t=>r.length-t.1) (0,[]) ⟨zw1 _,rfl⟩ ?_ ?_
 ·refine bp.n5 6 905 3 1 1 rfl rfl ?_;refine bp.cG ?_ ?_ ?_ ?_ <;>simp[b6,cF,cn,ct,ay,bY,cQ,I.only,I.b8,aq.only,b7]
 rintro ⟨i,xs⟩ ⟨hi,hxs⟩;simp only at hi hxs;have hxl:=yw hxs;simp only[zz6,zx2] at hxl;by_cases hlt:i<r.length
 ·have hlc:=fK hlt;have he:=fun A=>eK (A:=A) 1 hlt rfl;have hw:=fg (i:=i) (by omega);have hbig:=hml _ (zw7 hlt);have hF:=Ir r[i] (by omega);have hap:=fun (A:ai) d rest y=>lD (A:=A) (d:=d) 3 1 8 905 (l:=xs.length) (es:=xs) (ys:=[y]) (rest:=rest) rfl rfl (by simp) (by simp[maxLen];omega) (by simp;omega);have hmem:(r[i]).l∈r.map aG.l:=zy9.2 ⟨_,zw7 hlt,rfl⟩;have hsn:∀ n:Nat,gz (r[i]).l=some n→eY ((r.take (i+1)).map aG.l)=some (xs++[(n:Int)]):=fun n hn=>by
   rw[zy0 hlt,zy5];exact Fh _ _ hxs hn
  generalize r[i]=x at *;simp only[kM] at hF;cases hr:Lib.atoiAll x.l with
  | «syntax» =>
   rw[hr] at hF;rw[lV hmem (Ff (by intro n;rw[hr];intro h;cases h))];have R:=y6 @hlc (y6 @he (y6 @hw (y6 @cz (y6 @bE (y6 @aZ az)))))
   repeat' ((first |(with_reducible refine .guard (fun hb =>?_) (fun hb =>?_) <;>try simp only[hb])|refine ae.aB (by decide +kernel) rfl fun K hK =>?_|refine .lead _ (hF) ?_|(refine .au [0,1,4,5,6,8,9,10,15,17,18,19,20,44] hK ?_;clear hK K)|(with_reducible refine .done (hK _ ?_);clear hK K)|refine ae.of rfl ?_|(with_reducible refine av.aA (fun h =>?_) (fun h =>?_) <;>try simp only[h])) <;>try simp only[aC,R,simprocAttr])
   all_goals clear R
   all_goals rfl
  |range =>
   rw[hr] at hF;rw[lV hmem (Ff (by intro n;rw[hr];intro h;cases h))];have R:=y6 @hlc (y6 @he (y6 @hw (y6 @cz (y6 @bE (y6 @aZ az)))))
   repeat' ((first |(with_reducible refine .guard (fun hb =>?_) (fun hb =>?_) <;>try simp only[hb])|refine ae.aB (by decide +kernel) rfl fun K hK =>?_|refine .lead _ (hF) ?_|(refine .au [0,1,4,5,6,8,9,10,15,17,18,19,20,44] hK ?_;clear hK K)|(with_reducible refine .done (hK _ ?_);clear hK K)|refine ae.of rfl ?_|(with_reducible refine av.aA (fun h =>?_) (fun h =>?_) <;>try simp only[h])) <;>try simp only[aC,R,simprocAttr])
   all_goals clear R
   all_goals rfl
  |ok n =>
   rw[hr] at hF;rcases q1:decide (n<0)
   rotate_left
   ·have J:n<0:=of_decide_eq_true q1;rw[lV hmem (yq hr (fun h=>by omega))];have R:=y6 @hlc (y6 @he (y6 @hw (y6 @q1 (y6 @cz (y6 @bE (y6 @aZ az))))))
    repeat' ((first |(with_reducible refine .guard (fun hb =>?_) (fun hb =>?_) <;>try simp only[hb])|refine ae.aB (by decide +kernel) rfl fun K hK =>?_|refine .lead _ (hF) ?_|(refine .au [0,1,4,5,6,8,9,10,15,17,18,19,20,44] hK ?_;clear hK K)|(with_reducible refine .done (hK _ ?_);clear hK K)|refine ae.of rfl ?_|(with_reducible refine av.aA (fun h =>?_) (fun h =>?_) <;>try simp only[h])) <;>try simp only[aC,R,simprocAttr])
    all_goals clear R
    all_goals rfl
   have J:¬ n<0:=of_decide_eq_false q1;rcases q2:decide ((x.l.length:Int)>5)
   rotate_left
   ·have U:(x.l.length:Int)>5:=of_decide_eq_true q2;rw[lV hmem (yq hr (fun h=>by omega))];have R:=y6 @hlc (y6 @he (y6 @hw (y6 @q1 (y6 @q2 (y6 @cz (y6 @bE (y6 @aZ az)))))))
    repeat' ((first |(with_reducible refine .guard (fun hb =>?_) (fun hb =>?_) <;>try simp only[hb])|refine ae.aB (by decide +kernel) rfl fun K hK =>?_|refine .lead _ (hF) ?_|(refine .au [0,1,4,5,6,8,9,10,15,17,18,19,20,44] hK ?_;clear hK K)|(with_reducible refine .done (hK _ ?_);clear hK K)|refine ae.of rfl ?_|(with_reducible refine av.aA (fun h =>?_) (fun h =>?_) <;>try simp only[h])) <;>try simp only[aC,R,simprocAttr])
    all_goals clear R
    all_goals rfl
   have U:¬ (x.l.length:Int)>5:=of_decide_eq_false q2;rcases q3:decide (gI n=x)
   ·have af:¬ gI n=x:=of_decide_eq_false q3;rw[lV hmem (yq hr (fun h=>af ((Et n x).2 h.2.2)))];have R:=y6 @hlc (y6 @he (y6 @hw (y6 @q1 (y6 @q2 (y6 @q3 (y6 @cz (y6 @bE (y6 @aZ az))))))))
    repeat' ((first |(with_reducible refine .guard (fun hb =>?_) (fun hb =>?_) <;>try simp only[hb])|refine ae.aB (by decide +kernel) rfl fun K hK =>?_|refine .lead _ (hF) ?_|refine .flat _ (vG n) rfl ?_|(refine .au [0,1,4,5,6,8,9,10,15,17,18,19,20,44] hK ?_;clear hK K)|(with_reducible refine .done (hK _ ?_);clear hK K)|refine ae.of rfl ?_|(with_reducible refine av.aA (fun h =>?_) (fun h =>?_) <;>try simp only[h])) <;>try simp only[aC,R,simprocAttr])
    all_goals clear R
    all_goals rfl
   have af:gI n=x:=of_decide_eq_true q3;have hn:=abA hr (by omega) (by omega) ((Et n x).1 af);have ab:=hsn _ hn;rw[show ((n.toNat:Nat):Int)=n by omega] at ab;have R:=y6 @hlc (y6 @he (y6 @hw (y6 @q1 (y6 @q2 (y6 @q3 (y6 @hbs (y6 @hap (y6 @cz (y6 @bE (y6 @aZ az))))))))))
   repeat' ((first |(with_reducible refine .guard (fun hb =>?_) (fun hb =>?_) <;>try simp only[hb])|refine ae.aB (by decide +kernel) rfl fun K hK =>?_|refine .lead _ (hF) ?_|refine .flat _ (vG n) rfl ?_|(refine .au [0,1,4,5,6,8,9,10,15,17,18,19,20,44] hK ?_;clear hK K)|(with_reducible refine .done (hK _ ?_);clear hK K)|refine ae.of rfl ?_|(with_reducible refine av.aA (fun h =>?_) (fun h =>?_) <;>try simp only[h])) <;>try simp only[aC,R,simprocAttr])
   all_goals clear R
   refine ⟨(i+1,xs++[n]),⟨by simp only;omega,ab⟩,by simp only;omega,?_⟩;clear hxs ab hsn hmem hF hr hn;refine bp.cG ?_ ?_ ?_ ?_ <;>simp[b6,cF,cn,ct,ay,bY,cQ,I.only,I.b8,aq.only,e8,kz,b7,eP]
 ·have hlc:=fR hlt;have hge:i=r.length:=by omega
  rw[hge,zv5] at hxs;rw[hxs];have R:=y6 @hlc (y6 @tM (y6 @cz (y6 @bE (y6 @aZ az))))
  repeat' ((first |(with_reducible refine .guard (fun hb =>?_) (fun hb =>?_) <;>try simp only[hb])|refine ae.aB (by decide +kernel) rfl fun K hK =>?_|(refine .au [0,1,4,5,6,8,9,10,15,17,18,19,20,44] hK ?_;clear hK K)|(with_reducible refine .done (hK _ ?_);clear hK K)|refine ae.of rfl ?_|(with_reducible refine av.aA (fun h =>?_) (fun h =>?_) <;>try simp only[h])) <;>try simp only[aC,R,simprocAttr])
  all_goals clear R
  all_goals rfl
theorem H5{l:List UInt8}{a i:Nat}(J:a≤i)(U:i<l.length):(l.drop a).take (i+1-a)=(l.drop a).take (i-a)++[l[i]]:=by
 have ao:i-a<(l.drop a).length:=by rw[zw9];omega
 rw[show i+1-a=i-a+1 by omega,zy0 ao]
 congr 2
 rw[List.getElem_drop]
 congr 1;omega
theorem CI{l:List UInt8}{a i:Nat}(J:a≤i)(U:i<l.length):l.drop a=(l.drop a).take (i-a)++l[i]::l.drop (i+1):=by
 conv=>lhs;rw[←zv0 (i-a) (l.drop a)]
 congr 1
 rw[List.drop_drop,show a+(i-a)=i by omega];exact pI U
theorem zN{b c:UInt8} : ((b.toNat:Int)==(c.toNat:Int))=decide (b=c):=by
 by_cases h:b=c
 ·subst h;simp
 ·have:¬ b.toNat=c.toNat:=fun e=>h (UInt8.toNat_inj.1 e);simp[h];omega
def kg(c:UInt8)(l:List UInt8)(t:Nat×Nat×List aG):Prop :=
 (t.2.1≤t.1∧t.1≤l.length∧(∀ b∈(l.drop t.2.1).take (t.1-t.2.1),b≠c)∧t.2.2++(dz c false (l.drop t.2.1)).map aG.of=(dz c false l).map aG.of)∨(t.1=l.length+1∧t.2.2=(dz c false l).map aG.of)
theorem kg.len{c:UInt8}{l:List UInt8}{t:Nat×Nat×List aG}(h:kg c l t):t.2.2.length≤l.length+1:=by
 have ao:=wR c false l;have hc:=List.count_le_length (a:=c) (l:=l);rcases h with ⟨_,_,_,h⟩ | ⟨_,h⟩
 ·have:=congrArg List.length h;rw[zz8,zz6,zz6] at this;omega
 ·rw[h,zz6];omega
theorem kg.end{c:UInt8}{l:List UInt8}{a:Nat}{xs:List aG}(h:kg c l (l.length,a,xs)):a≤l.length∧kg c l (l.length+1,l.length+1,xs++[aG.of ((l.drop a).take (l.length-a))]):=by
 rcases h with ⟨J,_,af,ar⟩ | ⟨h,_⟩
 ·simp only at J af ar;refine ⟨J,.inr ⟨rfl,?_⟩⟩;have e:(l.drop a).take (l.length-a)=l.drop a:=List.take_of_length_le (by simp);rw[e] at af;rw[tB af] at ar;simp only[e];exact ar
 ·simp at h
theorem kg.lR{c:UInt8}{l:List UInt8}{i a:Nat}{xs:List aG}(h:kg c l (i,a,xs))(hi:i<l.length)(hc:l[i]=c):a≤i∧kg c l (i+1,i+1,xs++[aG.of ((l.drop a).take (i-a))]):=by
 rcases h with ⟨J,_,af,ar⟩ | ⟨h,_⟩
 ·simp only at J af ar;refine ⟨J,.inl ⟨zz3 _,by simp only;omega,by simp,?_⟩⟩;rw[CI J hi,hc,pH _ af] at ar;simp only[zz5,zz2,if_false,zw4] at ar;simp only[zy3,List.singleton_append];exact ar
 ·simp only at h;omega
theorem kg.yf{c:UInt8}{l:List UInt8}{i a:Nat}{xs:List aG}(h:kg c l (i,a,xs))(hi:i<l.length)(hc:l[i]≠c):kg c l (i+1,a,xs):=by
 rcases h with ⟨J,_,af,ar⟩ | ⟨h,_⟩
 ·simp only at J af ar;refine .inl ⟨by simp only;omega,by simp only;omega,?_,ar⟩;simp only;rw[H5 J hi];intro b hb;rcases zw0.1 hb with hb | hb
  ·exact af b hb
  ·rw[zx1.1 hb];exact hc
 ·simp only at h;omega
def vO(s:aG)(t:Nat×Nat×List aG):ai:=aw [(0,enc s),(3,.own 905 t.2.2.length),(4,.int .i64 t.2.1),(5,.int .i64 t.1)] [(905,.bV 9 1 (t.2.2.map enc))]
theorem PV{xs:List aG} : kl xs.length (some (.bV 9 1 (xs.map enc)))=some (enc xs):=ot 1 rfl rfl
theorem zS(s:aG)(ab:s.l.length≤10000):bd Tryz.prog 102 [enc s] (enc (cH 32 false s)):=by
 refine bd.b5 Tryz.func102 KH LP M0 (t7 rfl) (fun hwf W0 bH E1 =>?_);simp only[AT,FU,bM];clear hwf;have R:=y6 @cz (y6 @bE (y6 @aZ az))
 repeat' ((first |(with_reducible refine .guard (fun hb =>?_) (fun hb =>?_) <;>try simp only[hb])|refine ae.aB (by decide +kernel) rfl fun K hK =>?_|(refine .au [0,2,3,4,5,9,21] hK ?_;clear hK K)|(with_reducible refine .done (hK _ ?_);clear hK K)|refine ae.of rfl ?_|(with_reducible refine av.aA (fun h =>?_) (fun h =>?_) <;>try simp only[h])) <;>try simp only[aC,R,simprocAttr])
 all_goals clear R
 have hbs:∀ y:aG,eW 1 (some [enc y])=some (enc [y]):=fun y=>h2 1 y rfl;refine ae.loop (vO s) (kg 32 s.l) (fun t=>s.l.length+1-t.1) (0,0,[]) (.inl ⟨zz3 _,zw1 _,by simp,rfl⟩) ?_ ?_
 ·refine bp.n5 3 905 9 1 1 rfl rfl ?_;simp only[vO];refine bp.cG ?_ ?_ ?_ ?_ <;>simp[b6,cF,cn,ct,ay,bY,cQ,I.only,I.b8,aq.only,b7]
 rintro ⟨i,a,xs⟩ hC;have hlen:=hC.len;simp only at hlen;simp only[vO];have hap:=fun (A:ai) d rest y=>lD (A:=A) (d:=d) 9 1 16 905 (l:=xs.length) (es:=xs) (ys:=[y]) (rest:=rest) rfl rfl (by simp) (by simp[maxLen];omega) (by simp;omega);by_cases hle:i≤s.l.length
 ·have hlc:decide ((i:Int)≤(s.l.length:Int))=true:=by simp;omega
  have hw:=fg (i:=i) (by omega);by_cases hlt:i<s.l.length
  ·have hq:((i:Int)==(s.l.length:Int))=false:=by simp;omega
   have hsi:=vf s hlt;by_cases hb:s.l[i]=32
   ·have hq2:(((s.l[i]).toNat:Int)==32)=true:=by rw[hb];rfl
    obtain ⟨hai,hC'⟩:=hC.lR hlt hb;have hss:=zq s hai (show i≤s.l.length by omega);have R:=y6 @hlc (y6 @hw (y6 @hq (y6 @hsi (y6 @hq2 (y6 @hss (y6 @hbs (y6 @hap (y6 @cz (y6 @bE (y6 @aZ az))))))))))
    repeat' ((first |(with_reducible refine .guard (fun hb =>?_) (fun hb =>?_) <;>try simp only[hb])|refine ae.aB (by decide +kernel) rfl fun K hK =>?_|(refine .au [0,2,3,4,5,9,21] hK ?_;clear hK K)|(with_reducible refine .done (hK _ ?_);clear hK K)|refine ae.of rfl ?_|(with_reducible refine av.aA (fun h =>?_) (fun h =>?_) <;>try simp only[h])) <;>try simp only[aC,R,simprocAttr])
    all_goals clear R
    refine ⟨(i+1,i+1,xs++[aG.of ((s.l.drop a).take (i-a))]),hC',by simp only;omega,?_⟩
    try simp only[]
    clear hC hC';refine bp.cG ?_ ?_ ?_ ?_ <;>simp[b6,cF,cn,ct,ay,bY,cQ,I.only,I.b8,aq.only,e8,kz,b7]
   ·have hq2:(((s.l[i]).toNat:Int)==32)=false:=by
     have:=zN (b:=s.l[i]) (c:=32);rw[decide_eq_false hb] at this;exact this
    have hC':=hC.yf hlt hb;have R:=y6 @hlc (y6 @hw (y6 @hq (y6 @hsi (y6 @hq2 (y6 @cz (y6 @bE (y6 @aZ az)))))))
    repeat' ((first |(with_reducible refine .guard (fun hb =>?_) (fun hb =>?_) <;>try simp only[hb])|refine ae.aB (by decide +kernel) rfl fun K hK =>?_|(refine .au [0,2,3,4,5,9,21] hK ?_;clear hK K)|(with_reducible refine .done (hK _ ?_);clear hK K)|refine ae.of rfl ?_|(with_reducible refine av.aA (fun h =>?_) (fun h =>?_) <;>try simp only[h])) <;>try simp only[aC,R,simprocAttr])
    all_goals clear R
    refine ⟨(i+1,a,xs),hC',by simp only;omega,?_⟩
    try simp only[]
    clear hC hC';refine bp.cG ?_ ?_ ?_ ?_ <;>simp[b6,cF,cn,ct,ay,bY,cQ,I.only,aq.only,e8,b7]
  ·obtain rfl:i=s.l.length:=by omega
   have hq:((s.l.length:Int)==(s.l.length:Int))=true:=by simp
   obtain ⟨hai,hC'⟩:=hC.end;have hss:=zq s hai (zz3 _);have R:=y6 @hlc (y6 @hw (y6 @hq (y6 @hss (y6 @hbs (y6 @hap (y6 @cz (y6 @bE (y6 @aZ az))))))))
   repeat' ((first |(with_reducible refine .guard (fun hb =>?_) (fun hb =>?_) <;>try simp only[hb])|refine ae.aB (by decide +kernel) rfl fun K hK =>?_|(refine .au [0,2,3,4,5,9,21] hK ?_;clear hK K)|(with_reducible refine .done (hK _ ?_);clear hK K)|refine ae.of rfl ?_|(with_reducible refine av.aA (fun h =>?_) (fun h =>?_) <;>try simp only[h])) <;>try simp only[aC,R,simprocAttr])
   all_goals clear R
   refine ⟨(s.l.length+1,s.l.length+1,xs++[aG.of ((s.l.drop a).take (s.l.length-a))]),hC',by simp only;omega,?_⟩
   try simp only[]
   clear hC hC';refine bp.cG ?_ ?_ ?_ ?_ <;>simp[b6,cF,cn,ct,ay,bY,cQ,I.only,I.b8,aq.only,e8,kz,b7]
 ·have hlc:decide ((i:Int)≤(s.l.length:Int))=false:=by simp;omega
  have hx:xs=cH 32 false s:=by
   rcases hC with ⟨_,h,_⟩ | ⟨_,h⟩
   ·simp only at h;omega
   ·exact h
  rw[←hx];have R:=y6 @hlc (y6 @PV (y6 @cz (y6 @bE (y6 @aZ az))))
  repeat' ((first |(with_reducible refine .guard (fun hb =>?_) (fun hb =>?_) <;>try simp only[hb])|refine ae.aB (by decide +kernel) rfl fun K hK =>?_|(refine .au [0,2,3,4,5,9,21] hK ?_;clear hK K)|(with_reducible refine .done (hK _ ?_);clear hK K)|refine ae.of rfl ?_|(with_reducible refine av.aA (fun h =>?_) (fun h =>?_) <;>try simp only[h])) <;>try simp only[aC,R,simprocAttr])
  all_goals clear R
def r0(l:List aG):List Int×Bool:=match eY (l.map aG.l) with
 |some n=>(n,true)
 |none=>([],false)
def vP(l:List aG)(t:Nat×List Int):ai:=aw [(4,.own 905 t.2.length),(9,enc l),(10,.int .i64 l.length),(11,.int .i64 t.1)] [(905,.bV 3 1 (t.2.map enc))]
def vQ(l:List aG)(i:Nat)(xs:List Int)(w:aG)(t:Nat×Nat):ai:=aw [(4,.own 905 xs.length),(6,enc w),(7,.int .i64 t.2),(8,.int .i64 t.1),(9,enc l),(10,.int .i64 l.length),(11,.int .i64 i)] [(905,.bV 3 1 (xs.map enc))]
theorem O1{l:List UInt8}{j:Nat}(h:j<l.length)(hb:iQ l[j]=false):fb 0 l=none:=by
 conv=>lhs;rw[←zv0 j l,pI h]
 rw[tF];cases fb 0 (l.take j) with
 |none=>rfl
 |some n=>simp only[zv9,fb,hb,zz2,if_false]
theorem O0{l:List UInt8}{j n:Nat}(h:j<l.length)(hn:fb 0 (l.take j)=some n)(hb:iQ l[j]=true):fb 0 (l.take (j+1))=some (n*10+(l[j].toNat-48)):=by
 rw[zy0 h,tF,hn];simp only[zv9,fb,hb,if_true]
theorem zT(l:List aG)(ao:l.length≤10000):bd Tryz.prog 103 [enc l] (.tuple [enc (r0 l).1,enc (r0 l).2]):=by
 refine bd.b5 Tryz.func103 KI LQ M2 (t7 rfl) (fun hwf W0 bH E1 =>?_);simp only[AU,FV,bM];clear hwf;simp only[r0];have e0:(I.bm ⟨#[]⟩)=enc c6:=rfl;have R:=y6 @cz (y6 @bE (y6 @aZ az))
 repeat' ((first |(with_reducible refine .guard (fun hb =>?_) (fun hb =>?_) <;>try simp only[hb])|refine ae.aB (by decide +kernel) rfl fun K hK =>?_|(refine .au [0,2,3,4,6,7,8,9,10,11,12,31,35,47] hK ?_;clear hK K)|(with_reducible refine .done (hK _ ?_);clear hK K)|refine ae.of rfl ?_|(with_reducible refine av.aA (fun h =>?_) (fun h =>?_) <;>try simp only[h])) <;>try simp only[aC,R,simprocAttr])
 all_goals clear R
 have hbs:∀ y:Int,eW 1 (some [.int .i64 y])=some (enc [y]):=fun y=>h2 1 y rfl;refine ae.loop (vP l) (fun t=>t.1≤l.length∧eY ((l.take t.1).map aG.l)=some t.2) (fun t=>l.length-t.1) (0,[]) ⟨zw1 _,rfl⟩ ?_ ?_
 ·refine bp.n5 4 905 3 1 1 rfl rfl ?_;simp only[vP];refine bp.cG ?_ ?_ ?_ ?_ <;>simp[b6,cF,cn,ct,ay,bY,cQ,I.only,I.b8,aq.only,b7]
 rintro ⟨i,xs⟩ ⟨hi,hxs⟩;simp only at hi hxs;simp only[vP];have hxl:=yw hxs;simp only[zz6,zx2] at hxl;by_cases hlt:i<l.length
 rotate_left
 ·have hlc:=fR hlt;have hge:i=l.length:=by omega
  rw[hge,zv5] at hxs;rw[hxs];have R:=y6 @hlc (y6 @tM (y6 @cz (y6 @bE (y6 @aZ az))))
  repeat' ((first |(with_reducible refine .guard (fun hb =>?_) (fun hb =>?_) <;>try simp only[hb])|refine ae.aB (by decide +kernel) rfl fun K hK =>?_|(refine .au [0,2,3,4,6,7,8,9,10,11,12,31,35,47] hK ?_;clear hK K)|(with_reducible refine .done (hK _ ?_);clear hK K)|refine ae.of rfl ?_|(with_reducible refine av.aA (fun h =>?_) (fun h =>?_) <;>try simp only[h])) <;>try simp only[aC,R,simprocAttr])
  all_goals clear R
  all_goals rfl
 have hlc:=fK hlt;have he:=fun A=>eK (A:=A) 1 hlt rfl;have hap:=fun (A:ai) d rest y=>lD (A:=A) (d:=d) 3 1 8 905 (l:=xs.length) (es:=xs) (ys:=[y]) (rest:=rest) rfl rfl (by simp) (by simp[maxLen];omega) (by simp;omega);have hmem:(l[i]).l∈l.map aG.l:=zy9.2 ⟨_,zw7 hlt,rfl⟩;have hsn:∀ n:Nat,gz (l[i]).l=some n→eY ((l.take (i+1)).map aG.l)=some (xs++[(n:Int)]):=fun n hn=>by
  rw[zy0 hlt,zy5];exact Fh _ _ hxs hn
 generalize l[i]=w at *;rcases q0:decide (w=c6)
 rotate_left
 ·have aR:w=c6:=of_decide_eq_true q0;rw[lV hmem (by rw[aR];rfl)];have R:=y6 @e0 (y6 @hlc (y6 @he (y6 @q0 (y6 @cz (y6 @bE (y6 @aZ az))))))
  repeat' ((first |(with_reducible refine .guard (fun hb =>?_) (fun hb =>?_) <;>try simp only[hb])|refine ae.aB (by decide +kernel) rfl fun K hK =>?_|(refine .au [0,2,3,4,6,7,8,9,10,11,12,31,35,47] hK ?_;clear hK K)|(with_reducible refine .done (hK _ ?_);clear hK K)|refine ae.of rfl ?_|(with_reducible refine av.aA (fun h =>?_) (fun h =>?_) <;>try simp only[h])) <;>try simp only[aC,R,simprocAttr])
  all_goals clear R
  all_goals rfl
 have aR:¬ w=c6:=of_decide_eq_false q0;have h0':w.l≠[]:=fun e=>aR (aG.pO e);have hpos:=zv4.2 h0';rcases q1:decide ((w.l.length:Int)>5)
 rotate_left
 ·have J:(w.l.length:Int)>5:=of_decide_eq_true q1;rw[lV hmem (by simp only[gz];rw[if_pos (.inr (.inl (by omega)))])];have R:=y6 @e0 (y6 @hlc (y6 @he (y6 @q0 (y6 @q1 (y6 @cz (y6 @bE (y6 @aZ az)))))))
  repeat' ((first |(with_reducible refine .guard (fun hb =>?_) (fun hb =>?_) <;>try simp only[hb])|refine ae.aB (by decide +kernel) rfl fun K hK =>?_|(refine .au [0,2,3,4,6,7,8,9,10,11,12,31,35,47] hK ?_;clear hK K)|(with_reducible refine .done (hK _ ?_);clear hK K)|refine ae.of rfl ?_|(with_reducible refine av.aA (fun h =>?_) (fun h =>?_) <;>try simp only[h])) <;>try simp only[aC,R,simprocAttr])
  all_goals clear R
  all_goals rfl
 have J:¬ (w.l.length:Int)>5:=of_decide_eq_false q1;have hsi:iv .eZ [enc w,.int .i64 0]=some (.int .u8 (w.l[0].toNat:Int)):=vf w hpos;have hhd:w.l.head?=some w.l[0]:=by rw[List.head?_eq_getElem?,zy2 hpos]
 by_cases qX:w.l[0]=48∧1<w.l.length
 ·have q2:((w.l[0].toNat:Int)==48)=true:=by rw[qX.1];rfl
  have q3:decide ((w.l.length:Int)>1)=true:=by simp;omega
  rw[lV hmem (by simp only[gz];rw[if_pos (.inr (.inr ⟨by rw[hhd,qX.1],qX.2⟩))])];have R:=y6 @e0 (y6 @hlc (y6 @he (y6 @q0 (y6 @q1 (y6 @hsi (y6 @q2 (y6 @q3 (y6 @cz (y6 @bE (y6 @aZ az))))))))))
  repeat' ((first |(with_reducible refine .guard (fun hb =>?_) (fun hb =>?_) <;>try simp only[hb])|refine ae.aB (by decide +kernel) rfl fun K hK =>?_|(refine .au [0,2,3,4,6,7,8,9,10,11,12,31,35,47] hK ?_;clear hK K)|(with_reducible refine .done (hK _ ?_);clear hK K)|refine ae.of rfl ?_|(with_reducible refine av.aA (fun h =>?_) (fun h =>?_) <;>try simp only[h])) <;>try simp only[aC,R,simprocAttr])
  all_goals clear R
  all_goals rfl
 have hnum:gz w.l=fb 0 w.l:=by
  simp only[gz];rw[if_neg];rintro (h | h | ⟨h,h'⟩)
  ·exact h0' h
  ·omega
  ·rw[hhd] at h;exact qX ⟨Option.some.inj h,h'⟩
 rw[hnum] at hsn;have hstep:∀ (q2 q3:Bool),((w.l[0].toNat:Int)==48)=q2→decide ((w.l.length:Int)>1)=q3→(q2&&q3)=false:=by
  intro q2 q3 e2 e3;cases q2 <;>cases q3 <;>try rfl
  exfalso
  refine qX ⟨?_,by simp at e3;omega⟩;have:=zN (b:=w.l[0]) (c:=48);rw[show (((48:UInt8).toNat:Nat):Int)=48 from rfl,e2] at this;exact of_decide_eq_true this.symm
 rcases q2:((w.l[0].toNat:Int)==48) <;>rcases q3:decide ((w.l.length:Int)>1) <;>(have hq:=hstep _ _ q2 q3) <;>(try (cases hq;done)) <;>clear hq hstep
 all_goals
  have R:=y6 @e0 (y6 @hlc (y6 @he (y6 @q0 (y6 @q1 (y6 @hsi (y6 @q2 (y6 @q3 (y6 @cz (y6 @bE (y6 @aZ az))))))))))
  repeat' ((first |(with_reducible refine .guard (fun hb =>?_) (fun hb =>?_) <;>try simp only[hb])|refine ae.aB (by decide +kernel) rfl fun K hK =>?_|(refine .au [0,2,3,4,6,7,8,9,10,11,12,31,35,47] hK ?_;clear hK K)|(with_reducible refine .done (hK _ ?_);clear hK K)|refine ae.of rfl ?_|(with_reducible refine av.aA (fun h =>?_) (fun h =>?_) <;>try simp only[h])) <;>try simp only[aC,R,simprocAttr])
  all_goals clear R
  refine ae.loop (vQ l i xs w) (fun t=>t.1≤w.l.length∧fb 0 (w.l.take t.1)=some t.2) (fun t=>w.l.length-t.1) (0,0) ⟨zw1 _,rfl⟩ ?_ ?_
  ·simp only[vQ];clear hxs hsn hmem hnum;refine bp.cG ?_ ?_ ?_ ?_ <;>simp[b6,cF,cn,ct,ay,bY,cQ,I.only,aq.only,e8,b7]
  rintro ⟨j,n⟩ ⟨hj,hn⟩;simp only at hj hn;simp only[vQ];by_cases hjl:j<w.l.length
  ·have hjc:=fK hjl;have hsj:=vf w hjl;have hwj:=fg (i:=j) (by omega);have hn5:=CB hn (by rw[zx2];omega);have hstop:=O1 hjl;have hnext:=O0 hjl hn;have hb256:=(w.l[j]).toNat_lt;generalize w.l[j]=b at *;rcases d1:decide ((b.toNat:Int)<48)
   rotate_left
   ·have k1:(b.toNat:Int)<48:=of_decide_eq_true d1;rw[lV hmem (by rw[hnum];exact hstop (by simp[iQ];omega))];have R:=y6 @hjc (y6 @hsj (y6 @d1 (y6 @cz (y6 @bE (y6 @aZ az)))))
    repeat' ((first |(with_reducible refine .guard (fun hb =>?_) (fun hb =>?_) <;>try simp only[hb])|refine ae.aB (by decide +kernel) rfl fun K hK =>?_|(refine .au [0,2,3,4,6,7,8,9,10,11,12,31,35,47] hK ?_;clear hK K)|(with_reducible refine .done (hK _ ?_);clear hK K)|refine ae.of rfl ?_|(with_reducible refine av.aA (fun h =>?_) (fun h =>?_) <;>try simp only[h])) <;>try simp only[aC,R,simprocAttr])
    all_goals clear R
    all_goals rfl
   have k1:¬ (b.toNat:Int)<48:=of_decide_eq_false d1;rcases d2:decide ((b.toNat:Int)>57)
   rotate_left
   ·have k2:(b.toNat:Int)>57:=of_decide_eq_true d2;rw[lV hmem (by rw[hnum];exact hstop (by simp[iQ];omega))];have R:=y6 @hjc (y6 @hsj (y6 @d1 (y6 @d2 (y6 @cz (y6 @bE (y6 @aZ az))))))
    repeat' ((first |(with_reducible refine .guard (fun hb =>?_) (fun hb =>?_) <;>try simp only[hb])|refine ae.aB (by decide +kernel) rfl fun K hK =>?_|(refine .au [0,2,3,4,6,7,8,9,10,11,12,31,35,47] hK ?_;clear hK K)|(with_reducible refine .done (hK _ ?_);clear hK K)|refine ae.of rfl ?_|(with_reducible refine av.aA (fun h =>?_) (fun h =>?_) <;>try simp only[h])) <;>try simp only[aC,R,simprocAttr])
    all_goals clear R
    all_goals rfl
   have k2:¬ (b.toNat:Int)>57:=of_decide_eq_false d2;have hn':=hnext (by simp[iQ];omega);have w1:IntKind.u8.wrap ((b.toNat:Int)-48)=(b.toNat:Int)-48:=zM (by omega);have w2:IntKind.i64.wrap ((b.toNat:Int)-48)=(b.toNat:Int)-48:=iy _ (by omega) (by omega);have w3:IntKind.i64.wrap (10*(n:Int))=10*(n:Int):=iy _ (by omega) (by omega);have w4:IntKind.i64.wrap (10*(n:Int)+((b.toNat:Int)-48))=((n*10+(b.toNat-48):Nat):Int):=by
    rw[iy _ (by omega) (by omega)];omega
   have R:=y6 @hjc (y6 @hsj (y6 @d1 (y6 @d2 (y6 @w1 (y6 @w2 (y6 @w3 (y6 @w4 (y6 @hwj (y6 @cz (y6 @bE (y6 @aZ az)))))))))))
   repeat' ((first |(with_reducible refine .guard (fun hb =>?_) (fun hb =>?_) <;>try simp only[hb])|refine ae.aB (by decide +kernel) rfl fun K hK =>?_|(refine .au [0,2,3,4,6,7,8,9,10,11,12,31,35,47] hK ?_;clear hK K)|(with_reducible refine .done (hK _ ?_);clear hK K)|refine ae.of rfl ?_|(with_reducible refine av.aA (fun h =>?_) (fun h =>?_) <;>try simp only[h])) <;>try simp only[aC,R,simprocAttr])
   all_goals clear R
   refine ⟨(j+1,n*10+(b.toNat-48)),⟨by simp only;omega,hn'⟩,by simp only;omega,?_⟩
   try simp only[]
   clear hxs hsn hmem hnum hn hnext hn' hstop;refine bp.cG ?_ ?_ ?_ ?_ <;>simp[b6,cF,cn,ct,ay,bY,cQ,I.only,aq.only,e8,b7]
  ·have hjc:=fR hjl;have hje:j=w.l.length:=by omega
   rw[hje,zv5] at hn;have ab:=hsn _ hn;have hw:=fg (i:=i) (by omega);have R:=y6 @hjc (y6 @hw (y6 @hbs (y6 @hap (y6 @cz (y6 @bE (y6 @aZ az))))))
   repeat' ((first |(with_reducible refine .guard (fun hb =>?_) (fun hb =>?_) <;>try simp only[hb])|refine ae.aB (by decide +kernel) rfl fun K hK =>?_|(refine .au [0,2,3,4,6,7,8,9,10,11,12,31,35,47] hK ?_;clear hK K)|(with_reducible refine .done (hK _ ?_);clear hK K)|refine ae.of rfl ?_|(with_reducible refine av.aA (fun h =>?_) (fun h =>?_) <;>try simp only[h])) <;>try simp only[aC,R,simprocAttr])
   all_goals clear R
   refine ⟨(i+1,xs++[(n:Int)]),⟨by simp only;omega,ab⟩,by simp only;omega,?_⟩
   try simp only[]
   clear hxs ab hsn hmem hnum hn;refine bp.cG ?_ ?_ ?_ ?_ <;>simp[b6,cF,cn,ct,ay,bY,cQ,I.only,I.b8,aq.only,e8,kz,b7,eP]
def z0:bn:=⟨0,0,0,0⟩
def kS(x:aG):Int:=ig x (dU.drop 1) 1
def oF(k:Int)(n:List Int):Option bn:=if k≤2 then (if n.length=1 then some ⟨k,n.getD 0 0,0,0⟩ else none) else (if n.length=3 then some ⟨k,n.getD 0 0,n.getD 1 0,n.getD 2 0⟩ else none)
def nq(w:List aG):Option bn:=match eY ((w.drop 1).map aG.l) with
 |none=>none
 |some n=>if kS (w.headD c6)≤0 then none else oF (kS (w.headD c6)) n
def tI(s:aG):bn×Bool:=match nq (cH 32 false s) with
 |some x=>(x,true)
 |none=>(z0,false)
theorem mh:(dS [.int .i64 0,.int .i64 0,.int .i64 0,.int .i64 0] []).map I.agg=some (enc z0):=by
 simp[dS];rfl
theorem aet:∀ k:Fin dU.length,1≤k.val→dU[k]≠c6:=by decide
theorem aes{k:Nat}(h:k<dU.length)(J:1≤k):dU[k]≠c6:=by
 exact aet ⟨k,h⟩ J
theorem tE(c:UInt8)(df:Bool)(s:aG):cH c df s≠[]:=by
 simp only[cH,ne_eq,List.map_eq_nil_iff];exact oh _ _ _
theorem tD(c:UInt8)(df:Bool)(s:aG):(cH c df s).length≤s.l.length+1:=by
 simp only[cH,zz6,wR];have:=List.count_le_length (a:=c) (l:=s.l);omega
theorem Cy(c:UInt8)(df:Bool)(s:aG):∀ x∈cH c df s,x.l.length≤s.l.length:=fun x hx=>by
 obtain ⟨y,hy,rfl⟩:=zy9.1 hx;exact wQ c df _ y hy
theorem iT{α:Type}[Enc α][Inhabited α](A:ai){n:List α}{k esz:Nat}(ab:Enc.sz α=esz)(h:k<n.length)(d:α):fi A esz (k:Int) (enc n)=some (.ref (enc (n.getD k d))):=by
 rw[eK esz h ab,zz1,zy2 h];rfl
def qO(w:List aG)(n:List Int)(k:Nat):ai:=aw [(2,.ptr 2 []),(4,enc w),(5,enc n),(20,enc dU),(21,.int .i64 dU.length),(22,.int .i64 k)] [(2,.box (.agg [.int .i64 0,.int .i64 0,.int .i64 0,.int .i64 0]))]
theorem Il(s:aG)(ab:s.l.length≤9000):bd Tryz.prog 104 [enc s] (.tuple [enc (tI s).1,enc (tI s).2]):=by
 refine bd.b5 Tryz.func104 KJ LR M3 (t7 rfl) (fun hwf W0 bH E1 =>?_);simp only[AV,FW,bM];clear hwf;have hF1:=zS s (by omega);simp only[tI];have hwl:=tD 32 false s;have hwn:=zv4.2 (tE 32 false s);generalize cH 32 false s=w at *;have hF2:=zT (w.drop 1) (by rw[zw9];omega);have hsl:=fun A=>zD A (l:=w) (esz:=1) rfl hwn;simp only[r0] at hF2;have e0:(I.bm ⟨#[]⟩)=enc c6:=rfl;simp only[nq];cases hn:eY ((w.drop 1).map aG.l) with
 |none =>
  rw[hn] at hF2;have R:=y6 @mh (y6 @ln (y6 @hsl (y6 @cz (y6 @bE (y6 @aZ (y6 @bw (y6 @bl (y6 @bj az))))))))
  repeat' ((first |(with_reducible refine .guard (fun hb =>?_) (fun hb =>?_) <;>try simp only[hb])|refine ae.aB (by decide +kernel) rfl fun K hK =>?_|refine .lead _ (hF1) ?_|refine .lead _ (hF2) ?_|(refine .au [0,2,3,4,5,6,7,8,18,20,21,22,23,35,37,40,49] hK ?_;clear hK K)|(with_reducible refine .done (hK _ ?_);clear hK K)|refine ae.of rfl ?_|(with_reducible refine av.aA (fun h =>?_) (fun h =>?_) <;>try simp only[h])) <;>try simp only[aC,R,zw5,simprocAttr])
  all_goals clear R
  all_goals rfl
 |some n =>
  rw[hn] at hF2;have R:=y6 @mh (y6 @ln (y6 @hsl (y6 @cz (y6 @bE (y6 @aZ (y6 @bw (y6 @bl (y6 @bj az))))))))
  repeat' ((first |(with_reducible refine .guard (fun hb =>?_) (fun hb =>?_) <;>try simp only[hb])|refine ae.aB (by decide +kernel) rfl fun K hK =>?_|refine .lead _ (hF1) ?_|refine .lead _ (hF2) ?_|refine .lead _ (sR) ?_|(refine .au [0,2,3,4,5,6,7,8,18,20,21,22,23,35,37,40,49] hK ?_;clear hK K)|(with_reducible refine .done (hK _ ?_);clear hK K)|refine ae.of rfl ?_|(with_reducible refine av.aA (fun h =>?_) (fun h =>?_) <;>try simp only[h])) <;>try simp only[aC,R,zw5,simprocAttr])
  all_goals clear R
  refine ae.loop (qO w n) (fun k=>k≤dU.length∧ig (w.headD c6) (dU.drop (max k 1)) (max k 1)=kS (w.headD c6)) (fun k=>dU.length-k) 0 ⟨zw1 _,rfl⟩ ?_ ?_
  ·simp only[qO];refine bp.cG ?_ ?_ ?_ ?_ <;>simp[b6,cF,cn,ct,ay,bY,cQ,I.only,I.b8,aq.only,b7]
   all_goals rfl
  rintro k ⟨hk,hx⟩;simp only[qO];by_cases hlt:k<dU.length
  rotate_left
  ·have hlc:=fR hlt;have hge:k=dU.length:=by omega
   have hw9:dU.length=9:=rfl;rw[hge,show max dU.length 1=dU.length from rfl,List.drop_length] at hx;have hk0:kS (w.headD c6)≤0:=by rw[←hx];simp[ig]
   rw[if_pos hk0];have R:=y6 @hlc (y6 @mh (y6 @ln (y6 @cz (y6 @bE (y6 @aZ (y6 @bw (y6 @bl (y6 @bj az))))))))
   repeat' ((first |(with_reducible refine .guard (fun hb =>?_) (fun hb =>?_) <;>try simp only[hb])|refine ae.aB (by decide +kernel) rfl fun K hK =>?_|(refine .au [0,2,3,4,5,6,7,8,18,20,21,22,23,35,37,40,49] hK ?_;clear hK K)|(with_reducible refine .done (hK _ ?_);clear hK K)|refine ae.of rfl ?_|(with_reducible refine av.aA (fun h =>?_) (fun h =>?_) <;>try simp only[h])) <;>try simp only[aC,R,simprocAttr])
   all_goals clear R
   all_goals rfl
  have hlc:=fK hlt;have he:=fun A=>eK (A:=A) 1 hlt rfl;have hw9:dU.length=9:=rfl;have hw:=fg (i:=k) (by omega);rcases Nat.eq_zero_or_pos k with hk0 | hpos
  ·have q0:decide (dU[k]=c6)=true:=by subst hk0;exact decide_eq_true rfl
   have R:=y6 @e0 (y6 @hlc (y6 @he (y6 @hw (y6 @q0 (y6 @mh (y6 @ln (y6 @cz (y6 @bE (y6 @aZ (y6 @bw (y6 @bl (y6 @bj az))))))))))))
   repeat' ((first |(with_reducible refine .guard (fun hb =>?_) (fun hb =>?_) <;>try simp only[hb])|refine ae.aB (by decide +kernel) rfl fun K hK =>?_|(refine .au [0,2,3,4,5,6,7,8,18,20,21,22,23,35,37,40,49] hK ?_;clear hK K)|(with_reducible refine .done (hK _ ?_);clear hK K)|refine ae.of rfl ?_|(with_reducible refine av.aA (fun h =>?_) (fun h =>?_) <;>try simp only[h])) <;>try simp only[aC,R,simprocAttr])
   all_goals clear R
   refine ⟨k+1,⟨by omega,by rw[show max (k+1) 1=max k 1 by omega];exact hx⟩,by omega,?_⟩
   try simp only[qO]
   clear hx;refine bp.cG ?_ ?_ ?_ ?_ <;>simp[b6,cF,cn,ct,ay,bY,cQ,I.only,I.b8,aq.only,b7]
   all_goals rfl
  ·have q0:decide (dU[k]=c6)=false:=decide_eq_false (aes hlt hpos);have hw0:∀ A,fi A 1 0 (enc w)=some (.ref (enc (w.headD c6))):=fun A=>by
    have:=iT (α:=aG) A (n:=w) (k:=0) (esz:=1) rfl hwn c6;rw[show w.getD 0 c6=w.headD c6 by cases w <;>rfl] at this;exact this
   rw[show max k 1=k by omega,pI hlt] at hx;simp only[ig] at hx;generalize w.headD c6=x at *;rcases q1:decide (dU[k]=x)
   ·have hne:¬ x=dU[k]:=fun e=>of_decide_eq_false q1 e.symm;rw[if_neg hne] at hx;have R:=y6 @e0 (y6 @hlc (y6 @he (y6 @hw (y6 @q0 (y6 @hw0 (y6 @q1 (y6 @mh (y6 @ln (y6 @cz (y6 @bE (y6 @aZ (y6 @bw (y6 @bl (y6 @bj az))))))))))))))
    repeat' ((first |(with_reducible refine .guard (fun hb =>?_) (fun hb =>?_) <;>try simp only[hb])|refine ae.aB (by decide +kernel) rfl fun K hK =>?_|(refine .au [0,2,3,4,5,6,7,8,18,20,21,22,23,35,37,40,49] hK ?_;clear hK K)|(with_reducible refine .done (hK _ ?_);clear hK K)|refine ae.of rfl ?_|(with_reducible refine av.aA (fun h =>?_) (fun h =>?_) <;>try simp only[h])) <;>try simp only[aC,R,simprocAttr])
    all_goals clear R
    refine ⟨k+1,⟨by omega,by rw[show max (k+1) 1=k+1 by omega];exact hx⟩,by omega,?_⟩
    try simp only[qO]
    clear hx;refine bp.cG ?_ ?_ ?_ ?_ <;>simp[b6,cF,cn,ct,ay,bY,cQ,I.only,I.b8,aq.only,b7]
    all_goals rfl
   ·have heq:x=dU[k]:=(of_decide_eq_true q1).symm;rw[if_pos heq] at hx;rw[←hx,if_neg (by omega)];clear hx;simp only[oF];rcases q2:decide ((k:Int)≤2)
    ·have U:¬ (k:Int)≤2:=of_decide_eq_false q2;rw[if_neg U];by_cases af:n.length=3
     ·have q3:((n.length:Int) != 3)=false:=by simp;omega
      have x0:∀ A,fi A 1 0 (enc n)=some (.ref (enc (n.getD 0 0))):=fun A=>iT (α:=Int) A (k:=0) rfl (by omega) 0;have x1:∀ A,fi A 1 1 (enc n)=some (.ref (enc (n.getD 1 0))):=fun A=>iT (α:=Int) A (k:=1) rfl (by omega) 0;have x2:∀ A,fi A 1 2 (enc n)=some (.ref (enc (n.getD 2 0))):=fun A=>iT (α:=Int) A (k:=2) rfl (by omega) 0;rw[if_pos af];generalize n.getD 0 0=a0 at *;generalize n.getD 1 0=a1 at *;generalize n.getD 2 0=a2 at *;have R:=y6 @e0 (y6 @hlc (y6 @he (y6 @hw (y6 @q0 (y6 @hw0 (y6 @q1 (y6 @q2 (y6 @q3 (y6 @x0 (y6 @x1 (y6 @x2 (y6 @mh (y6 @qU (y6 @ln (y6 @cz (y6 @bE (y6 @aZ (y6 @bw (y6 @bl (y6 @bj az))))))))))))))))))))
      repeat' ((first |(with_reducible refine .guard (fun hb =>?_) (fun hb =>?_) <;>try simp only[hb])|refine ae.aB (by decide +kernel) rfl fun K hK =>?_|(refine .au [0,2,3,4,5,6,7,8,18,20,21,22,23,35,37,40,49] hK ?_;clear hK K)|(with_reducible refine .done (hK _ ?_);clear hK K)|refine ae.of rfl ?_|(with_reducible refine av.aA (fun h =>?_) (fun h =>?_) <;>try simp only[h])) <;>try simp only[aC,R,simprocAttr])
      all_goals clear R
      all_goals rfl
     ·have q3:((n.length:Int) != 3)=true:=by simp;omega
      rw[if_neg af];have R:=y6 @e0 (y6 @hlc (y6 @he (y6 @hw (y6 @q0 (y6 @hw0 (y6 @q1 (y6 @q2 (y6 @q3 (y6 @mh (y6 @ln (y6 @cz (y6 @bE (y6 @aZ (y6 @bw (y6 @bl (y6 @bj az))))))))))))))))
      repeat' ((first |(with_reducible refine .guard (fun hb =>?_) (fun hb =>?_) <;>try simp only[hb])|refine ae.aB (by decide +kernel) rfl fun K hK =>?_|(refine .au [0,2,3,4,5,6,7,8,18,20,21,22,23,35,37,40,49] hK ?_;clear hK K)|(with_reducible refine .done (hK _ ?_);clear hK K)|refine ae.of rfl ?_|(with_reducible refine av.aA (fun h =>?_) (fun h =>?_) <;>try simp only[h])) <;>try simp only[aC,R,simprocAttr])
      all_goals clear R
      all_goals rfl
    ·have U:(k:Int)≤2:=of_decide_eq_true q2;rw[if_pos U];by_cases af:n.length=1
     ·have q3:((n.length:Int) != 1)=false:=by simp;omega
      have x0:∀ A,fi A 1 0 (enc n)=some (.ref (enc (n.getD 0 0))):=fun A=>iT (α:=Int) A (k:=0) rfl (by omega) 0;rw[if_pos af];generalize n.getD 0 0=a0 at *;have R:=y6 @e0 (y6 @hlc (y6 @he (y6 @hw (y6 @q0 (y6 @hw0 (y6 @q1 (y6 @q2 (y6 @q3 (y6 @x0 (y6 @mh (y6 @tk (y6 @ln (y6 @cz (y6 @bE (y6 @aZ (y6 @bw (y6 @bl (y6 @bj az))))))))))))))))))
      repeat' ((first |(with_reducible refine .guard (fun hb =>?_) (fun hb =>?_) <;>try simp only[hb])|refine ae.aB (by decide +kernel) rfl fun K hK =>?_|(refine .au [0,2,3,4,5,6,7,8,18,20,21,22,23,35,37,40,49] hK ?_;clear hK K)|(with_reducible refine .done (hK _ ?_);clear hK K)|refine ae.of rfl ?_|(with_reducible refine av.aA (fun h =>?_) (fun h =>?_) <;>try simp only[h])) <;>try simp only[aC,R,simprocAttr])
      all_goals clear R
      all_goals rfl
     ·have q3:((n.length:Int) != 1)=true:=by simp;omega
      rw[if_neg af];have R:=y6 @e0 (y6 @hlc (y6 @he (y6 @hw (y6 @q0 (y6 @hw0 (y6 @q1 (y6 @q2 (y6 @q3 (y6 @mh (y6 @ln (y6 @cz (y6 @bE (y6 @aZ (y6 @bw (y6 @bl (y6 @bj az))))))))))))))))
      repeat' ((first |(with_reducible refine .guard (fun hb =>?_) (fun hb =>?_) <;>try simp only[hb])|refine ae.aB (by decide +kernel) rfl fun K hK =>?_|(refine .au [0,2,3,4,5,6,7,8,18,20,21,22,23,35,37,40,49] hK ?_;clear hK K)|(with_reducible refine .done (hK _ ?_);clear hK K)|refine ae.of rfl ?_|(with_reducible refine av.aA (fun h =>?_) (fun h =>?_) <;>try simp only[h])) <;>try simp only[aC,R,simprocAttr])
      all_goals clear R
      all_goals rfl
def hU:bI:=⟨0,[],0⟩
def kU(first:Bool)(p:bI)(s:aG):Option bI:=if first then (match eY (((cH 32 false s).drop 1).map aG.l) with
  |some n=>if (cH 32 false s).headD c6=fS∧n.length=2 then some ⟨n.getD 0 0,p.j,n.getD 1 0⟩ else none
  |none=>none)
 else (nq (cH 32 false s)).map fun x=>⟨p.aD,p.j++[x],p.di⟩
def gM:Nat→bI→List (List UInt8)→bI×Int×Int
 |db,_,[]=>(hU,db+1,5)
 |db,p,s::t=>if t=[] then (if s≠[]∨db=0 then (hU,db+1,5) else if iB p=0 then (p,0,0) else (hU,0,91)) else (match kU (decide (db=0)) p (aG.of s) with
  |none=>(hU,db+1,5)
  |some p'=>gM (db+1) p' t)
def lW(s:aG):bI×Int×Int:=if 8000<s.l.length then (hU,0,2) else gM 0 hU (dz 10 false s.l)
theorem uD(m k:Nat)(a b:Int):(∀ v,du [.int .i64 a,.own m k,.int .i64 b] 0 0 v=some v)∧(∀ v,du [.int .i64 a,.own m k,.int .i64 b] 1 1 v=some v)∧(∀ v,du [.int .i64 a,.own m k,.int .i64 b] 2 2 v=some v)∧ca (some 3) (.agg [.int .i64 a,.own m k,.int .i64 b])=true∧(∀ m k,ca none (.own m k)=true) :=
 ⟨fun _=>rfl,fun _=>rfl,fun _=>rfl,rfl,fun _ _=>rfl⟩
theorem vk(A:ai)(n m:Nat)(rest:List aJ):(∀ k x f u v,c7 A none n [0] (.agg [.int .i64 x,.own m k,.int .i64 f]) (.int .i64 v) rest (some (.int .i64 u))=aE rest (A.aT n (.box (.agg [.int .i64 v,.own m k,.int .i64 f])))) ∧
  (∀ k x f u v,c7 A none n [2] (.agg [.int .i64 x,.own m k,.int .i64 f]) (.int .i64 v) rest (some (.int .i64 u))=aE rest (A.aT n (.box (.agg [.int .i64 x,.own m k,.int .i64 v])))) ∧
  (∀ k x f k1 k2,c7 A none n [1] (.agg [.int .i64 x,.own m k,.int .i64 f]) (.own m k1) rest (some (.own m k2))=aE rest (A.aT n (.box (.agg [.int .i64 x,.own m k1,.int .i64 f])))) ∧
  (∀ b k x f u v,c7 A (some 3) n [] b (.agg [.int .i64 x,.own m k,.int .i64 f]) rest (some (.agg [.int .i64 u,.nils 4,.int .i64 v]))=aE rest (A.aT n (.box (.agg [.int .i64 x,.own m k,.int .i64 f])))) :=
 ⟨fun _ _ _ _ _=>dI rfl rfl rfl,fun _ _ _ _ _=>dI rfl rfl rfl,fun _ _ _ _ _=>dI rfl rfl rfl,fun _ _ _ _ _ _=>dI rfl rfl rfl⟩
theorem fE:(∀ A n m rest k x f u v,c7 A none n [0] (.agg [.int .i64 x,.own m k,.int .i64 f]) (.int .i64 v) rest (some (.int .i64 u))=aE rest (A.aT n (.box (.agg [.int .i64 v,.own m k,.int .i64 f])))) ∧
  (∀ A n m rest k x f u v,c7 A none n [2] (.agg [.int .i64 x,.own m k,.int .i64 f]) (.int .i64 v) rest (some (.int .i64 u))=aE rest (A.aT n (.box (.agg [.int .i64 x,.own m k,.int .i64 v])))) ∧
  (∀ A n m rest k x f k1 k2,c7 A none n [1] (.agg [.int .i64 x,.own m k,.int .i64 f]) (.own m k1) rest (some (.own m k2))=aE rest (A.aT n (.box (.agg [.int .i64 x,.own m k1,.int .i64 f])))) ∧
  (∀ A n m rest b k x f u v,c7 A (some 3) n [] b (.agg [.int .i64 x,.own m k,.int .i64 f]) rest (some (.agg [.int .i64 u,.nils 4,.int .i64 v]))=aE rest (A.aT n (.box (.agg [.int .i64 x,.own m k,.int .i64 f])))) ∧
  (∀ m k a b v,du [.int .i64 a,.own m k,.int .i64 b] 0 0 v=some v)∧(∀ m k a b v,du [.int .i64 a,.own m k,.int .i64 b] 1 1 v=some v)∧(∀ m k a b v,du [.int .i64 a,.own m k,.int .i64 b] 2 2 v=some v)∧(∀ m k a b,ca (some 3) (.agg [.int .i64 a,.own m k,.int .i64 b])=true)∧(∀ m k,ca none (.own m k)=true) :=
 ⟨fun A n m rest=>(vk A n m rest).1,fun A n m rest=>(vk A n m rest).2.1,fun A n m rest=>(vk A n m rest).2.2.1,fun A n m rest=>(vk A n m rest).2.2.2,fun m k a b=>(uD m k a b).1,fun m k a b=>(uD m k a b).2.1,fun m k a b=>(uD m k a b).2.2.1,fun m k a b=>(uD m k a b).2.2.2.1,fun _ _=>rfl⟩
def kK(l:List UInt8)(t:Nat×Nat×Nat×bI):Prop :=
 t.2.1≤t.1∧t.1≤l.length∧t.2.2.1≤t.2.1∧t.2.2.2.j.length≤t.2.2.1∧(∀ b∈(l.drop t.2.1).take (t.1-t.2.1),b≠10)∧gM t.2.2.1 t.2.2.2 (dz 10 false (l.drop t.2.1))=gM 0 hU (dz 10 false l)
theorem kK.yf{l:List UInt8}{i a m:Nat}{p:bI}(h:kK l (i,a,m,p))(hi:i<l.length)(hb:l[i]≠10):kK l (i+1,a,m,p):=by
 obtain ⟨J,U,af,ar,h5,h6⟩:=h;simp only at J U af ar h5 h6;refine ⟨by simp only;omega,by simp only;omega,af,ar,?_,h6⟩;simp only;rw[H5 J hi];intro b hb';rcases zw0.1 hb' with hb' | hb'
 ·exact h5 b hb'
 ·rw[zx1.1 hb'];exact hb
theorem kK.lR{l:List UInt8}{i a m:Nat}{p:bI}(h:kK l (i,a,m,p))(hi:i<l.length)(hb:l[i]=10) :
  gM 0 hU (dz 10 false l)=(match kU (decide (m=0)) p (aG.of ((l.drop a).take (i-a))) with
   |none=>(hU,m+1,5)
   |some p'=>gM (m+1) p' (dz 10 false (l.drop (i+1)))):=by
 obtain ⟨J,U,af,ar,h5,h6⟩:=h;simp only at J U af ar h5 h6;rw[←h6]
 conv=>lhs;rw[CI J hi,hb,pH _ h5]
 simp only[zz2,if_false,zw4,gM,if_neg (oh 10 false _)]
theorem kK.next{l:List UInt8}{i a m:Nat}{p p':bI}(h:kK l (i,a,m,p))(hi:i<l.length)(hb:l[i]=10)(hp:kU (decide (m=0)) p (aG.of ((l.drop a).take (i-a)))=some p')(hj:p'.j.length≤m+1):kK l (i+1,i+1,m+1,p'):=by
 have:=h.lR hi hb;rw[hp] at this;obtain ⟨J,U,af,ar,h5,h6⟩:=h;simp only at J U af ar h5 h6;exact ⟨zz3 _,by simp only;omega,by simp only;omega,hj,by simp,this.symm⟩
theorem kK.stop{l:List UInt8}{a m:Nat}{p:bI}(h:kK l (l.length,a,m,p)) :
  gM 0 hU (dz 10 false l)=if a<l.length∨m=0 then (hU,(m:Int)+1,5) else if iB p=0 then (p,0,0) else (hU,0,91):=by
 obtain ⟨J,U,af,ar,h5,h6⟩:=h;simp only at J U af ar h5 h6;have e:(l.drop a).take (l.length-a)=l.drop a:=List.take_of_length_le (by simp);rw[e] at h5;rw[←h6,tB h5];simp only[gM,if_true];have:(l.drop a≠[]∨m=0)↔(a<l.length∨m=0):=by
  rw[Ne,List.drop_eq_nil_iff];omega
 by_cases c:a<l.length∨m=0
 ·rw[if_pos (this.2 c),if_pos c]
 ·rw[if_neg (fun k=>c (this.1 k)),if_neg c]
def vV(s:aG)(t:Nat×Nat×Nat×bI):ai:=aw [(0,enc s),(2,.ptr 2 []),(5,.ptr 5 []),(6,.int .i64 t.2.1),(7,.int .i64 t.2.2.1),(8,.int .i64 t.1)]
 [(905,.bV 37 4 (t.2.2.2.j.map enc)),(2,.box (.agg [.int .i64 0,.nils 4,.int .i64 0])),(5,.box (.agg [.int .i64 t.2.2.2.aD,.own 905 t.2.2.2.j.length,.int .i64 t.2.2.2.di]))]
theorem aee{l:List UInt8}{a n:Nat} : ((l.drop a).take n).length≤l.length:=by
 rw[zx2,zw9];omega
theorem IU(s:aG):bd Tryz.prog 56 [enc s] (.tuple [enc (lW s).1,enc (lW s).2.1,enc (lW s).2.2]):=by
 refine bd.b5 Tryz.func56 Le Mm NK (t7 rfl) (fun hwf W0 bH E1 =>?_);simp only[Bo,GA,bM];clear hwf;simp only[lW];rcases q:decide ((s.l.length:Int)>8000)
 rotate_left
 ·have J:(s.l.length:Int)>8000:=of_decide_eq_true q;rw[if_pos (by omega)];have R:=y6 @q (y6 @cz (y6 @bE (y6 @aZ (y6 @bw (y6 @bl (y6 @bj az))))))
  repeat' ((first |(with_reducible refine .guard (fun hb =>?_) (fun hb =>?_) <;>try simp only[hb])|refine ae.aB (by decide +kernel) rfl fun K hK =>?_|(refine .au [0,2,3,4,5,6,7,8,9,10,11,12,13,14,17,22,28,38,59,75,91,97] hK ?_;clear hK K)|(with_reducible refine .done (hK _ ?_);clear hK K)|refine ae.of rfl ?_|(with_reducible refine av.aA (fun h =>?_) (fun h =>?_) <;>try simp only[h])) <;>try simp only[aC,R,simprocAttr])
  all_goals clear R
  all_goals rfl
 have J:¬ (s.l.length:Int)>8000:=of_decide_eq_false q;rw[if_neg (by omega)];have R:=y6 @q (y6 @cz (y6 @bE (y6 @aZ (y6 @bw (y6 @bl (y6 @bj az))))))
 repeat' ((first |(with_reducible refine .guard (fun hb =>?_) (fun hb =>?_) <;>try simp only[hb])|refine ae.aB (by decide +kernel) rfl fun K hK =>?_|(refine .au [0,2,3,4,5,6,7,8,9,10,11,12,13,14,17,22,28,38,59,75,91,97] hK ?_;clear hK K)|(with_reducible refine .done (hK _ ?_);clear hK K)|refine ae.of rfl ?_|(with_reducible refine av.aA (fun h =>?_) (fun h =>?_) <;>try simp only[h])) <;>try simp only[aC,R,simprocAttr])
 all_goals clear R
 refine ae.loop (vV s) (kK s.l) (fun t=>s.l.length-t.1) (0,0,0,hU) ⟨zz3 _,zw1 _,zz3 _,zz3 _,by simp,rfl⟩ ?_ ?_
 ·refine bp.vZ 5 905 37 4 4 [1] (.agg [.int .i64 0,.nils 4,.int .i64 0]) ?_ rfl ?_ ?_
  ·try simp only[bF,simprocAttr]
  ·try simp only[bF,simprocAttr]
  ·have e1:(I.agg [.int .i64 0,.nils 4,.int .i64 0]).ev [1] (.own 905 0)=.agg [.int .i64 0,.own 905 0,.int .i64 0]:=rfl;rw[e1];simp only[vV];refine bp.cG ?_ ?_ ?_ ?_ <;>simp[b6,cF,cn,ct,ay,bY,cQ,I.only,I.b8,aq.only,e8,b7]
   all_goals first | rfl | exact ⟨rfl,rfl,rfl,rfl⟩
 rintro ⟨i,a,m,p⟩ hR;obtain ⟨g1,g2,g3,g4,_,_⟩:=id hR;simp only at g1 g2 g3 g4;simp only[vV];by_cases hlt:i<s.l.length
 rotate_left
 ·obtain rfl:i=s.l.length:=by omega
  have hlc:=fR hlt;rw[hR.stop];clear hR;rcases q1:decide ((a:Int)<(s.l.length:Int))
  rotate_left
  ·have c1:(a:Int)<(s.l.length:Int):=of_decide_eq_true q1;have hw:=fg (i:=m) (by omega);rw[if_pos (.inl (by omega))];have R:=y6 @hlc (y6 @q1 (y6 @hw (y6 @fE (y6 @cz (y6 @bE (y6 @aZ (y6 @bw (y6 @bl (y6 @bj az)))))))))
   repeat' ((first |(with_reducible refine .guard (fun hb =>?_) (fun hb =>?_) <;>try simp only[hb])|refine ae.aB (by decide +kernel) rfl fun K hK =>?_|(refine .au [0,2,3,4,5,6,7,8,9,10,11,12,13,14,17,22,28,38,59,75,91,97] hK ?_;clear hK K)|(with_reducible refine .done (hK _ ?_);clear hK K)|refine ae.of rfl ?_|(with_reducible refine av.aA (fun h =>?_) (fun h =>?_) <;>try simp only[h])) <;>try simp only[aC,R,simprocAttr])
   all_goals clear R
   all_goals rfl
  have c1:¬ (a:Int)<(s.l.length:Int):=of_decide_eq_false q1;rcases q2:((m:Int)==0)
  rotate_left
  ·have c2:(m:Int)=0:=by simpa using q2
   have hw:=fg (i:=m) (by omega);rw[if_pos (.inr (by omega))];have R:=y6 @hlc (y6 @q1 (y6 @q2 (y6 @hw (y6 @fE (y6 @cz (y6 @bE (y6 @aZ (y6 @bw (y6 @bl (y6 @bj az))))))))))
   repeat' ((first |(with_reducible refine .guard (fun hb =>?_) (fun hb =>?_) <;>try simp only[hb])|refine ae.aB (by decide +kernel) rfl fun K hK =>?_|(refine .au [0,2,3,4,5,6,7,8,9,10,11,12,13,14,17,22,28,38,59,75,91,97] hK ?_;clear hK K)|(with_reducible refine .done (hK _ ?_);clear hK K)|refine ae.of rfl ?_|(with_reducible refine av.aA (fun h =>?_) (fun h =>?_) <;>try simp only[h])) <;>try simp only[aC,R,simprocAttr])
   all_goals clear R
   all_goals rfl
  have c2:¬ (m:Int)=0:=by simpa using q2
  rw[if_neg (by omega)];have hF:=Aa p;rw[←Cn] at hF;by_cases hc:iB p=0
  ·rw[hc] at hF;rw[if_pos hc];have R:=y6 @hlc (y6 @q1 (y6 @q2 (y6 @tO (y6 @fE (y6 @cz (y6 @bE (y6 @aZ (y6 @bw (y6 @bl (y6 @bj az))))))))))
   repeat' ((first |(with_reducible refine .guard (fun hb =>?_) (fun hb =>?_) <;>try simp only[hb])|refine ae.aB (by decide +kernel) rfl fun K hK =>?_|refine .lead _ (hF) ?_|(refine .au [0,2,3,4,5,6,7,8,9,10,11,12,13,14,17,22,28,38,59,75,91,97] hK ?_;clear hK K)|(with_reducible refine .done (hK _ ?_);clear hK K)|refine ae.of rfl ?_|(with_reducible refine av.aA (fun h =>?_) (fun h =>?_) <;>try simp only[h])) <;>try simp only[aC,R,simprocAttr])
   all_goals clear R
   all_goals rfl
  ·have q3:(iB p != 0)=true:=by simpa using hc
   rw[if_neg hc];have R:=y6 @hlc (y6 @q1 (y6 @q2 (y6 @q3 (y6 @tO (y6 @fE (y6 @cz (y6 @bE (y6 @aZ (y6 @bw (y6 @bl (y6 @bj az)))))))))))
   repeat' ((first |(with_reducible refine .guard (fun hb =>?_) (fun hb =>?_) <;>try simp only[hb])|refine ae.aB (by decide +kernel) rfl fun K hK =>?_|refine .lead _ (hF) ?_|(refine .au [0,2,3,4,5,6,7,8,9,10,11,12,13,14,17,22,28,38,59,75,91,97] hK ?_;clear hK K)|(with_reducible refine .done (hK _ ?_);clear hK K)|refine ae.of rfl ?_|(with_reducible refine av.aA (fun h =>?_) (fun h =>?_) <;>try simp only[h])) <;>try simp only[aC,R,simprocAttr])
   all_goals clear R
   all_goals rfl
 have hlc:=fK hlt;have hw:=fg (i:=i) (by omega);have hsi:=vf s hlt;by_cases hb:s.l[i]=10
 rotate_left
 ·have hq2:(((s.l[i]).toNat:Int) != 10)=true:=by
   have:=zN (b:=s.l[i]) (c:=10);rw[decide_eq_false hb] at this;simp only[bne,Bool.not_eq_true'];exact this
  have hR':=hR.yf hlt hb;clear hR;have R:=y6 @hlc (y6 @hw (y6 @hsi (y6 @hq2 (y6 @cz (y6 @bE (y6 @aZ (y6 @bw (y6 @bl (y6 @bj az)))))))))
  repeat' ((first |(with_reducible refine .guard (fun hb =>?_) (fun hb =>?_) <;>try simp only[hb])|refine ae.aB (by decide +kernel) rfl fun K hK =>?_|(refine .au [0,2,3,4,5,6,7,8,9,10,11,12,13,14,17,22,28,38,59,75,91,97] hK ?_;clear hK K)|(with_reducible refine .done (hK _ ?_);clear hK K)|refine ae.of rfl ?_|(with_reducible refine av.aA (fun h =>?_) (fun h =>?_) <;>try simp only[h])) <;>try simp only[aC,R,simprocAttr])
  all_goals clear R
  refine ⟨(i+1,a,m,p),hR',by simp only;omega,?_⟩
  try simp only[]
  clear hR';refine bp.cG ?_ ?_ ?_ ?_ <;>simp[b6,cF,cn,ct,ay,bY,cQ,I.only,I.b8,aq.only,e8,b7]
 have hq2:(((s.l[i]).toNat:Int) != 10)=false:=by rw[hb];rfl
 have hss:=zq s g1 (show i≤s.l.length by omega);have hx:=hR.lR hlt hb;have hnx:=fun p'=>hR.next (p':=p') hlt hb
 have hln:(aG.of ((s.l.drop a).take (i-a))).l.length≤8000:=by
  rw[aG.iU];have:=aee (l:=s.l) (a:=a) (n:=i-a);omega
 clear hR;generalize aG.of ((s.l.drop a).take (i-a))=y at *;have hwm:=fg (i:=m) (by omega);by_cases hm:m=0
 ·have q1:(((m+1:Nat):Int)==1)=true:=by rw[hm];rfl
  rw[decide_eq_true hm] at hx hnx;simp only[kU,if_true] at hx hnx;have hF1:=zS y (by omega);have hwl:=tD 32 false y;have hwn:=zv4.2 (tE 32 false y);generalize cH 32 false y=w at *;have hF2:=zT (w.drop 1) (by rw[zw9];omega);have hsl:=fun A=>zD A (l:=w) (esz:=1) rfl hwn;have hw0:∀ A,fi A 1 0 (enc w)=some (.ref (enc (w.headD c6))):=fun A=>by
   have:=iT (α:=aG) A (n:=w) (k:=0) (esz:=1) rfl hwn c6;rw[show w.getD 0 c6=w.headD c6 by cases w <;>rfl] at this;exact this
  have e1:(I.bm ⟨#[112,111,117,110,100]⟩)=enc fS:=rfl;simp only[r0] at hF2;generalize w.headD c6=eM at *;have ez:((m+1:Nat):Int)=1:=by rw[hm];rfl
  cases hn:eY ((w.drop 1).map aG.l) with
  |none =>
   rw[hn] at hF2 hx;rw[hx];rcases q2:decide (eM=fS)
   ·have R:=y6 @hlc (y6 @hw (y6 @hwm (y6 @hsi (y6 @hq2 (y6 @hss (y6 @q1 (y6 @hsl (y6 @hw0 (y6 @e1 (y6 @q2 (y6 @fE (y6 @cz (y6 @bE (y6 @aZ (y6 @bw (y6 @bl (y6 @bj az)))))))))))))))))
    repeat' ((first |(with_reducible refine .guard (fun hb =>?_) (fun hb =>?_) <;>try simp only[hb])|refine ae.aB (by decide +kernel) rfl fun K hK =>?_|refine .lead _ (hF1) ?_|refine .lead _ (hF2) ?_|(refine .au [0,2,3,4,5,6,7,8,9,10,11,12,13,14,17,22,28,38,59,75,91,97] hK ?_;clear hK K)|(with_reducible refine .done (hK _ ?_);clear hK K)|refine ae.of rfl ?_|(with_reducible refine av.aA (fun h =>?_) (fun h =>?_) <;>try simp only[h])) <;>try simp only[aC,R,zw5,simprocAttr])
    all_goals clear R
    all_goals (simp only[hm];rfl)
   ·have R:=y6 @hlc (y6 @hw (y6 @hwm (y6 @hsi (y6 @hq2 (y6 @hss (y6 @q1 (y6 @hsl (y6 @hw0 (y6 @e1 (y6 @q2 (y6 @fE (y6 @cz (y6 @bE (y6 @aZ (y6 @bw (y6 @bl (y6 @bj az)))))))))))))))))
    repeat' ((first |(with_reducible refine .guard (fun hb =>?_) (fun hb =>?_) <;>try simp only[hb])|refine ae.aB (by decide +kernel) rfl fun K hK =>?_|refine .lead _ (hF1) ?_|refine .lead _ (hF2) ?_|(refine .au [0,2,3,4,5,6,7,8,9,10,11,12,13,14,17,22,28,38,59,75,91,97] hK ?_;clear hK K)|(with_reducible refine .done (hK _ ?_);clear hK K)|refine ae.of rfl ?_|(with_reducible refine av.aA (fun h =>?_) (fun h =>?_) <;>try simp only[h])) <;>try simp only[aC,R,zw5,simprocAttr])
    all_goals clear R
    all_goals (simp only[hm];rfl)
  |some n =>
   rw[hn] at hF2 hx hnx
   dsimp only at hx hnx
   rcases q2:decide (eM=fS)
   ·have c2:=of_decide_eq_false q2;rw[if_neg (fun k=>c2 k.1)] at hx;rw[hx];have R:=y6 @hlc (y6 @hw (y6 @hwm (y6 @hsi (y6 @hq2 (y6 @hss (y6 @q1 (y6 @hsl (y6 @hw0 (y6 @e1 (y6 @q2 (y6 @fE (y6 @cz (y6 @bE (y6 @aZ (y6 @bw (y6 @bl (y6 @bj az)))))))))))))))))
    repeat' ((first |(with_reducible refine .guard (fun hb =>?_) (fun hb =>?_) <;>try simp only[hb])|refine ae.aB (by decide +kernel) rfl fun K hK =>?_|refine .lead _ (hF1) ?_|refine .lead _ (hF2) ?_|(refine .au [0,2,3,4,5,6,7,8,9,10,11,12,13,14,17,22,28,38,59,75,91,97] hK ?_;clear hK K)|(with_reducible refine .done (hK _ ?_);clear hK K)|refine ae.of rfl ?_|(with_reducible refine av.aA (fun h =>?_) (fun h =>?_) <;>try simp only[h])) <;>try simp only[aC,R,zw5,simprocAttr])
    all_goals clear R
    all_goals (simp only[hm];rfl)
   have c2:=of_decide_eq_true q2;rcases q3:((n.length:Int) != 2)
   rotate_left
   ·have c3:¬ n.length=2:=fun k=>by rw[k] at q3;exact absurd q3 (by decide)
    rw[if_neg (fun k=>c3 k.2)] at hx;rw[hx];have R:=y6 @hlc (y6 @hw (y6 @hwm (y6 @hsi (y6 @hq2 (y6 @hss (y6 @q1 (y6 @hsl (y6 @hw0 (y6 @e1 (y6 @q2 (y6 @q3 (y6 @fE (y6 @cz (y6 @bE (y6 @aZ (y6 @bw (y6 @bl (y6 @bj az))))))))))))))))))
    repeat' ((first |(with_reducible refine .guard (fun hb =>?_) (fun hb =>?_) <;>try simp only[hb])|refine ae.aB (by decide +kernel) rfl fun K hK =>?_|refine .lead _ (hF1) ?_|refine .lead _ (hF2) ?_|(refine .au [0,2,3,4,5,6,7,8,9,10,11,12,13,14,17,22,28,38,59,75,91,97] hK ?_;clear hK K)|(with_reducible refine .done (hK _ ?_);clear hK K)|refine ae.of rfl ?_|(with_reducible refine av.aA (fun h =>?_) (fun h =>?_) <;>try simp only[h])) <;>try simp only[aC,R,zw5,simprocAttr])
    all_goals clear R
    all_goals (simp only[hm];rfl)
   have c3:n.length=2:=by simp at q3;omega
   have x0:∀ A,fi A 1 0 (enc n)=some (.ref (enc (n.getD 0 0))):=fun A=>iT (α:=Int) A (k:=0) rfl (by omega) 0;have x1:∀ A,fi A 1 1 (enc n)=some (.ref (enc (n.getD 1 0))):=fun A=>iT (α:=Int) A (k:=1) rfl (by omega) 0;have hR':=hnx ⟨n.getD 0 0,p.j,n.getD 1 0⟩ (by rw[if_pos ⟨c2,c3⟩]) (by simp only;omega);generalize n.getD 0 0=a0 at *;generalize n.getD 1 0=a1 at *;clear hx hnx;have R:=y6 @hlc (y6 @hw (y6 @hwm (y6 @hsi (y6 @hq2 (y6 @hss (y6 @q1 (y6 @hsl (y6 @hw0 (y6 @e1 (y6 @q2 (y6 @q3 (y6 @x0 (y6 @x1 (y6 @fE (y6 @cz (y6 @bE (y6 @aZ (y6 @bw (y6 @bl (y6 @bj az))))))))))))))))))))
   repeat' ((first |(with_reducible refine .guard (fun hb =>?_) (fun hb =>?_) <;>try simp only[hb])|refine ae.aB (by decide +kernel) rfl fun K hK =>?_|refine .lead _ (hF1) ?_|refine .lead _ (hF2) ?_|(refine .au [0,2,3,4,5,6,7,8,9,10,11,12,13,14,17,22,28,38,59,75,91,97] hK ?_;clear hK K)|(with_reducible refine .done (hK _ ?_);clear hK K)|refine ae.of rfl ?_|(with_reducible refine av.aA (fun h =>?_) (fun h =>?_) <;>try simp only[h])) <;>try simp only[aC,R,zw5,simprocAttr])
   all_goals clear R
   refine ⟨(i+1,i+1,m+1,⟨a0,p.j,a1⟩),hR',by simp only;omega,?_⟩
   try simp only[]
   clear hR';refine bp.cG ?_ ?_ ?_ ?_ <;>simp[b6,cF,cn,ct,ay,bY,cQ,I.only,I.b8,aq.only,e8,b7]
 ·have q1:(((m+1:Nat):Int)==1)=false:=by simp;omega
  rw[decide_eq_false hm] at hx hnx;simp only[kU,zz2,if_false] at hx hnx;have hF1:=Il y (by omega);simp only[tI] at hF1;cases he:nq (cH 32 false y) with
  |none =>
   rw[he] at hF1 hx;simp only[zw5] at hx;rw[hx];have R:=y6 @hlc (y6 @hw (y6 @hwm (y6 @hsi (y6 @hq2 (y6 @hss (y6 @q1 (y6 @ln (y6 @fE (y6 @cz (y6 @bE (y6 @aZ (y6 @bw (y6 @bl (y6 @bj az))))))))))))))
   repeat' ((first |(with_reducible refine .guard (fun hb =>?_) (fun hb =>?_) <;>try simp only[hb])|refine ae.aB (by decide +kernel) rfl fun K hK =>?_|refine .lead _ (hF1) ?_|(refine .au [0,2,3,4,5,6,7,8,9,10,11,12,13,14,17,22,28,38,59,75,91,97] hK ?_;clear hK K)|(with_reducible refine .done (hK _ ?_);clear hK K)|refine ae.of rfl ?_|(with_reducible refine av.aA (fun h =>?_) (fun h =>?_) <;>try simp only[h])) <;>try simp only[aC,R,simprocAttr])
   all_goals clear R
   all_goals rfl
  |some x =>
   rw[he] at hF1 hx hnx;have hR':=hnx ⟨p.aD,p.j++[x],p.di⟩ rfl (by simp;omega);have hbs:∀ y:bn,eW 4 (some [enc y])=some (enc [y]):=fun y=>h2 4 y rfl;have hap:=fun (A:ai) d rest y=>lD (A:=A) (d:=d) 37 4 32 905 (l:=p.j.length) (es:=p.j) (ys:=[y]) (rest:=rest) rfl rfl (by simp) (by simp[maxLen];omega) (by simp;omega);clear hx hnx;have R:=y6 @hlc (y6 @hw (y6 @hwm (y6 @hsi (y6 @hq2 (y6 @hss (y6 @q1 (y6 @hbs (y6 @hap (y6 @ln (y6 @fE (y6 @cz (y6 @bE (y6 @aZ (y6 @bw (y6 @bl (y6 @bj az))))))))))))))))
   repeat' ((first |(with_reducible refine .guard (fun hb =>?_) (fun hb =>?_) <;>try simp only[hb])|refine ae.aB (by decide +kernel) rfl fun K hK =>?_|refine .lead _ (hF1) ?_|(refine .au [0,2,3,4,5,6,7,8,9,10,11,12,13,14,17,22,28,38,59,75,91,97] hK ?_;clear hK K)|(with_reducible refine .done (hK _ ?_);clear hK K)|refine ae.of rfl ?_|(with_reducible refine av.aA (fun h =>?_) (fun h =>?_) <;>try simp only[h])) <;>try simp only[aC,R,simprocAttr])
   all_goals clear R
   refine ⟨(i+1,i+1,m+1,⟨p.aD,p.j++[x],p.di⟩),hR',by simp only;omega,?_⟩
   try simp only[]
   clear hR';refine bp.cG ?_ ?_ ?_ ?_ <;>simp[b6,cF,cn,ct,ay,bY,cQ,I.only,I.b8,aq.only,e8,kz,b7]
def lq(c:UInt8):List (List UInt8)→List (List UInt8)
 | []=>[]
 | [x]=>[x]
 |x::y::t=>(x++[c])::lq c (y::t)
theorem tC(c:UInt8):∀ l:List UInt8,dz c true l=lq c (dz c false l)
 | []=>rfl
 |b::l=>by
  have ih:=tC c l;simp only[dz];cases h:dz c false l with
  |nil=>exact absurd h (oh c false l)
  |cons x t =>
   rw[h] at ih;by_cases hb:b=c
   ·rw[if_pos hb,if_pos hb,ih,hb];rfl
   ·rw[if_neg hb,if_neg hb,ih];cases t with
    |nil=>rfl
    |cons y t=>rfl
theorem H8(c:UInt8):∀ (i:Nat) (L:List (List UInt8)),(lq c L).drop i=lq c (L.drop i)
 |0,_=>rfl
 |i+1,[]=>by simp[lq]
 |i+1,[x]=>by simp[lq]
 |i+1,x::y::t=>by
  simp only[lq,List.drop_succ_cons];exact H8 c i (y::t)
theorem zL(c:UInt8):∀ L:List (List UInt8),(lq c L).length=L.length
 | []=>rfl
 | [_]=>rfl
 |x::y::t=>by simp only[lq,zx8,zL c (y::t)]
theorem Cx(c:UInt8):∀ (l:List UInt8),∀ x∈dz c false l,∀ b∈x,b≠c
 | [],x,hx,b,hb=>by simp[dz] at hx;subst hx;cases hb
 |a::l,x,hx,b,hb=>by
  have ih:=Cx c l;simp only[dz] at hx;split at hx
  ·rcases zx3.1 hx with rfl | hx
   ·simp at hb
   ·exact ih x hx b hb
  ·rename_i ha;split at hx
   ·rename_i h t he;rw[he] at ih;rcases zx3.1 hx with rfl | hx
    ·rcases zx3.1 hb with rfl | hb
     ·exact ha
     ·exact ih h (by simp) b hb
    ·exact ih x (by simp[hx]) b hb
   ·simp at hx;subst hx;rcases zx3.1 hb with rfl | hb
    ·exact ha
    ·cases hb
def vL(l:List UInt8)(ls:List aG):Prop :=
 (∀ i x y t,(dz 10 false l).drop i=x::y::t→ls[i]?=some (aG.of (x++[10]))) ∧
 (∀ i x,(dz 10 false l).drop i=[x]→(i<ls.length→ls[i]?=some (aG.of x)∧(x≠[]∨i=0))∧(¬ i<ls.length→x=[]∧i≠0))
theorem r7(l:List UInt8)(i:Nat):(cH 10 true (aG.of l))[i]?=((lq 10 ((dz 10 false l).drop i)).head?).map aG.of:=by
 rw[←H8,List.head?_drop,←tC];simp[cH,aG.iU]
theorem N9(s:aG):cH 10 true s=cH 10 true (aG.of s.l):=by rw[aG.qi]
theorem aak{l:List UInt8}(h:¬ (1<(cH 10 true (aG.of l)).length∧(cH 10 true (aG.of l))[(cH 10 true (aG.of l)).length-1]?=some c6)):vL l (cH 10 true (aG.of l)):=by
 have hn:(cH 10 true (aG.of l)).length=(dz 10 false l).length:=by
  simp only[cH,zz6,aG.iU,tC,zL]
 refine ⟨fun i x y t e=>by rw[r7,e];rfl,fun i x e=>⟨fun hi=>⟨by rw[r7,e];rfl,?_⟩,fun hi =>?_⟩⟩
 ·by_cases c:x=[]
  ·refine .inr (Nat.eq_zero_of_not_pos fun hp=>h ?_);have hlen:=congrArg List.length e;rw[zw9,zw6] at hlen;refine ⟨by omega,?_⟩;rw[show (cH 10 true (aG.of l)).length-1=i by omega,r7,e,c];rfl
  ·exact .inl c
 ·have hlen:=congrArg List.length e;rw[zw9,zw6] at hlen;omega
theorem aaj{l:List UInt8}(J:1<(cH 10 true (aG.of l)).length)(U:(cH 10 true (aG.of l))[(cH 10 true (aG.of l)).length-1]?=some c6):vL l ((cH 10 true (aG.of l)).take ((cH 10 true (aG.of l)).length-1)):=by
 have hn:(cH 10 true (aG.of l)).length=(dz 10 false l).length:=by
  simp only[cH,zz6,aG.iU,tC,zL]
 refine ⟨fun i x y t e =>?_,fun i x e =>?_⟩
 ·have hlen:=congrArg List.length e;simp only[zw9,zx8] at hlen;rw[List.getElem?_take_of_lt (by omega),r7,e];rfl
 ·have hlen:=congrArg List.length e;rw[zw9,zw6] at hlen;have hi:i=(cH 10 true (aG.of l)).length-1:=by omega
  refine ⟨fun k =>?_,fun _=>⟨?_,by omega⟩⟩
  ·rw[zx2] at k;omega
  ·rw[←hi,r7,e] at U;have af:aG.of x=c6:=by simpa[lq] using U
   exact aG.acj.1 (af.trans rfl)
def vY(ls:List aG):ai:=aw [(2,.ptr 2 []),(5,.ptr 5 []),(6,enc ls)] [(2,.box (.agg [.int .i64 0,.nils 4,.int .i64 0])),(5,.box (.agg [.int .i64 0,.nils 4,.int .i64 0]))]
theorem adS{α:Type}[Enc α](A:ai){l:List α}{esz:Nat}{k:Nat}(ab:Enc.sz α=esz)(h:k≤l.length):jb A esz none (some (.int .i64 (k:Int))) none (enc l)=some (enc (l.take k)):=by
 simp only[jb,hh,ab,if_true,iN,jf,zz6];rw[if_pos (by omega)];simp only[Option.isSome_none,zz2,false_and,if_false,Int.toNat_natCast,Int.toNat_zero,List.drop_zero];rw[List.map_take]
theorem acO{W0:World}{bH:aS}{n:Nat}{own cP:_}(y:bx)(Q:Exit→ai→Prop)(s:aG)(ab:s.l.length≤8000)
  (h:∀ ls,vL s.l ls→(∀ x∈ls,x.l.length≤8000)→ls.length≤8001→ae { P:=Tryz.prog,eM:=W0,bH:=bH,n:=n,own:=own,cP:=cP,Y:=dA,kE:=none } y Q (vY ls)) :
  ae { P:=Tryz.prog,eM:=W0,bH:=bH,n:=n,own:=own,cP:=cP,Y:=dA,kE:=none } (.seq (.cg none Dj) (.seq (.seq (.cg none Dk) (.cond (.t 18) (.seq (.cg none Dl) .ret) .skip)) (.seq (.cg none Dm) (.seq (.cg none Dn) (.seq (.seq (.cg none Dp) (.cond (.t 33) (.cg none Dq) .skip)) y))))) Q (aw [(0,enc s)] []):=by
 have q:decide ((s.l.length:Int)>8000)=false:=decide_eq_false (by omega);have hF:=Iq s 10 (by omega);have hF97:bd Tryz.prog 97 [enc s,enc (aG.of [10])] (enc (cH 10 true s)):=by
  refine bd.b5 Tryz.func97 LC MJ N8 (t7 rfl) (fun hwf W0 bH E1 =>?_);simp only[BJ,GZ,bM,zz4];clear hwf;have hl1:(((aG.of [10]).l.length:Nat):Int)=1:=rfl;have R:=y6 @hl1 (y6 @cz az)
  repeat' ((first |refine ae.aB (by decide +kernel) rfl fun K hK =>?_|refine .lead _ (hF) ?_|(refine .au [0,1,4] hK ?_;clear hK K)|(with_reducible refine .done (hK _ ?_);clear hK K)|refine ae.of rfl ?_|(with_reducible refine av.aA (fun h =>?_) (fun h =>?_) <;>try simp only[h])) <;>try simp only[aC,R,simprocAttr])
  all_goals clear R
  all_goals rfl
 clear hF;have e0:(I.bm ⟨#[]⟩)=enc c6:=rfl;have e1:(I.bm ⟨#[10]⟩)=enc (aG.of [10]):=rfl;rw[N9] at hF97;have hk:=aak (l:=s.l);have ah:=aaj (l:=s.l);have hle:∀ x∈cH 10 true (aG.of s.l),x.l.length≤8000:=fun x hx=>by
  have:=Cy 10 true _ x hx;rw[aG.iU] at this;omega
 have hln:(cH 10 true (aG.of s.l)).length≤8001:=by
  have:=tD 10 true (aG.of s.l);rw[aG.iU] at this;omega
 have hne:=zv4.2 (tE 10 true (aG.of s.l));generalize cH 10 true (aG.of s.l)=P at *;have hw:IntKind.i64.wrap ((P.length:Int)-1)=((P.length-1:Nat):Int):=by rw[iy _ (by omega) (by omega)];omega
 have he:=fun A=>eK (A:=A) 1 (show P.length-1<P.length by omega) rfl;have hsl:=fun A=>adS A (l:=P) (esz:=1) (k:=P.length-1) rfl (by omega);have hlast:P[P.length-1]?=some P[P.length-1]:=zy2 (by omega);rw[hlast] at hk ah;unfold vY at h;rcases q1:decide ((P.length:Int)>1)
 ·have c1:¬ (P.length:Int)>1:=of_decide_eq_false q1;have hg:=h P (hk (fun k=>c1 (by omega))) hle hln;clear h;have R:=y6 @q (y6 @q1 (y6 @e0 (y6 @e1 (y6 @cz (y6 @bE (y6 @aZ (y6 @bw (y6 @bl (y6 @bj az)))))))))
  repeat' ((first |refine ae.aB (by decide +kernel) rfl fun K hK =>?_|refine .lead _ (hF97) ?_|(refine .au [0,2,3,4,5,6,7,8,9,10,11,12,13,14,15,18,33,39,40,41,42,59,61,85,89,106,116,131] hK ?_;clear hK K)|(with_reducible refine .done (hK _ ?_);clear hK K)|refine ae.of rfl ?_|(with_reducible refine av.aA (fun h =>?_) (fun h =>?_) <;>try simp only[h])) <;>try simp only[aC,R,simprocAttr])
  all_goals clear R
  refine ae.sub ?_ hg;refine bp.cG ?_ ?_ ?_ ?_ <;>simp[b6,cF,cn,ct,ay,bY,cQ,I.only,I.b8,aq.only,b7]
 have c1:(P.length:Int)>1:=of_decide_eq_true q1;rcases q2:decide (P[P.length-1]=c6)
 ·have c2:=of_decide_eq_false q2;have hg:=h P (hk (fun k=>c2 (Option.some.inj k.2))) hle hln;clear h;have R:=y6 @q (y6 @q1 (y6 @hw (y6 @he (y6 @q2 (y6 @e0 (y6 @e1 (y6 @cz (y6 @bE (y6 @aZ (y6 @bw (y6 @bl (y6 @bj az))))))))))))
  repeat' ((first |refine ae.aB (by decide +kernel) rfl fun K hK =>?_|refine .lead _ (hF97) ?_|(refine .au [0,2,3,4,5,6,7,8,9,10,11,12,13,14,15,18,33,39,40,41,42,59,61,85,89,106,116,131] hK ?_;clear hK K)|(with_reducible refine .done (hK _ ?_);clear hK K)|refine ae.of rfl ?_|(with_reducible refine av.aA (fun h =>?_) (fun h =>?_) <;>try simp only[h])) <;>try simp only[aC,R,simprocAttr])
  all_goals clear R
  refine ae.sub ?_ hg;refine bp.cG ?_ ?_ ?_ ?_ <;>simp[b6,cF,cn,ct,ay,bY,cQ,I.only,I.b8,aq.only,b7]
 ·have c2:=of_decide_eq_true q2;have hg:=h _ (ah (by omega) (by rw[c2])) (fun x hx=>hle x (List.mem_of_mem_take hx)) (by rw[zx2];omega);clear h;have R:=y6 @q (y6 @q1 (y6 @hw (y6 @he (y6 @q2 (y6 @hsl (y6 @e0 (y6 @e1 (y6 @cz (y6 @bE (y6 @aZ (y6 @bw (y6 @bl (y6 @bj az)))))))))))))
  repeat' ((first |refine ae.aB (by decide +kernel) rfl fun K hK =>?_|refine .lead _ (hF97) ?_|(refine .au [0,2,3,4,5,6,7,8,9,10,11,12,13,14,15,18,33,39,40,41,42,59,61,85,89,106,116,131] hK ?_;clear hK K)|(with_reducible refine .done (hK _ ?_);clear hK K)|refine ae.of rfl ?_|(with_reducible refine av.aA (fun h =>?_) (fun h =>?_) <;>try simp only[h])) <;>try simp only[aC,R,zw5,simprocAttr])
  all_goals clear R
  refine ae.sub ?_ hg;refine bp.cG ?_ ?_ ?_ ?_ <;>simp[b6,cF,cn,ct,ay,bY,cQ,I.only,I.b8,aq.only,b7]
theorem aec(x:List UInt8):Lib.hasSuffix (x++[10]) [10]=true∧Lib.trimSuffix (x++[10]) [10]=x:=by
 have h:Lib.hasSuffix (x++[10]) [10]=true:=by simp[Lib.hasSuffix]
 refine ⟨h,?_⟩;rw[Lib.trimSuffix,if_pos h];simp
theorem aeb{x:List UInt8}(hx:∀ b∈x,b≠10):Lib.hasSuffix x [10]=false∧Lib.trimSuffix x [10]=x:=by
 have h:Lib.hasSuffix x [10]=false:=by
  rw[Lib.hasSuffix];cases e:[(10:UInt8)].isSuffixOf x with
  |false=>rfl
  |true =>
   have:=List.isSuffixOf_iff_suffix.1 e;exact absurd rfl (hx 10 (this.subset (by simp)))
 refine ⟨h,?_⟩;rw[Lib.trimSuffix,if_neg (by rw[h];decide)]
theorem yz{w:List aG}(hw:1≤w.length)(k:Nat):oK w (k:Int)=match eY ((w.drop 1).map aG.l) with
  |some n=>if n.length=k then (n,true) else ([],false)
  |none=>([],false):=by
 simp only[oK];cases h:eY ((w.drop 1).map aG.l) with
 |none=>split <;>rfl
 |some n =>
  have ao:=yw h;rw[zz6,zw9] at ao;by_cases c:n.length=k
  ·rw[if_pos (by omega)];simp only[if_pos c]
  ·rw[if_neg (by omega)];simp only[if_neg c]
def lT(x:aG):Int:=ig x dU 0
theorem aaE(x:aG):(lT x≤0∧kS x≤0)∨(0<lT x∧kS x=lT x):=by
 have hsp:dU=c6::dU.drop 1:=rfl;have e:lT x=if x=c6 then 0 else kS x:=by
  simp only[lT,kS]
  conv=>lhs;rw[hsp]
  simp only[ig];rfl
 by_cases c:x=c6
 ·rw[if_pos c] at e;refine .inl ⟨by omega,?_⟩;rw[c];decide
 ·rw[if_neg c] at e;rcases Int.lt_or_le 0 (lT x) with h | h
  ·exact .inr ⟨h,e.symm⟩
  ·exact .inl ⟨h,by omega⟩
theorem Ee(x:aG):∀ (l:List aG) (i:Nat),ig x l i=-1∨(i:Int)≤ig x l i
 | [],_=>.inl rfl
 |y::l,i=>by
  simp only[ig];split
  ·exact .inr (by omega)
  ·rcases Ee x l (i+1) with h | h
   ·exact .inl h
   ·exact .inr (by omega)
theorem aaF(x:aG):lT x=1↔x=fS:=by
 constructor
 ·intro h;have hsp:dU=c6::fS::dU.drop 2:=rfl;simp only[lT] at h;rw[hsp] at h;simp only[ig] at h;split at h
  ·simp at h
  split at h
  ·assumption
  ·rcases Ee x (dU.drop 2) (0+1+1) with U | U <;>omega
 ·rintro rfl;decide
def vU(ls:List aG)(t:Nat×bI):ai:=aw [(2,.ptr 2 []),(5,.ptr 5 []),(39,enc ls),(40,.int .i64 ls.length),(41,.int .i64 t.1)]
 [(905,.bV 37 4 (t.2.j.map enc)),(2,.box (.agg [.int .i64 0,.nils 4,.int .i64 0])),(5,.box (.agg [.int .i64 t.2.aD,.own 905 t.2.j.length,.int .i64 t.2.di]))]
theorem acD(m:Nat)(p:bI)(x y:List UInt8)(t:List (List UInt8)):gM m p (x::y::t)=(match kU (decide (m=0)) p (aG.of x) with
  |none=>(hU,(m:Int)+1,5)
  |some p'=>gM (m+1) p' (y::t)):=by
 rw[gM,if_neg (List.cons_ne_nil _ _)];try rfl
theorem aa6{p:bI}{s:aG} : kU true p s=(match eY (((cH 32 false s).drop 1).map aG.l) with
  |some n=>if (cH 32 false s).headD c6=fS∧n.length=2 then some ⟨n.getD 0 0,p.j,n.getD 1 0⟩ else none
  |none=>none):=rfl
theorem aa7{p:bI}{s:aG} : kU false p s=(nq (cH 32 false s)).map fun x=>⟨p.aD,p.j++[x],p.di⟩:=rfl
theorem Ad(s:aG):bd Tryz.prog 55 [enc s] (.tuple [enc (lW s).1,enc (lW s).2.1,enc (lW s).2.2]):=by
 refine bd.b5 Tryz.func55 Ld Ml NJ (t7 rfl) (fun hwf W0 bH E1 =>?_);simp only[Bn,Gz,bM];clear hwf;simp only[lW];rcases q:decide ((s.l.length:Int)>8000)
 rotate_left
 ·have J:(s.l.length:Int)>8000:=of_decide_eq_true q;rw[if_pos (by omega)];have R:=y6 @q (y6 @cz (y6 @bE (y6 @aZ (y6 @bw (y6 @bl (y6 @bj az))))))
  repeat' ((first |(with_reducible refine .guard (fun hb =>?_) (fun hb =>?_) <;>try simp only[hb])|refine ae.aB (by decide +kernel) rfl fun K hK =>?_|(refine .au [0,2,3,4,5,6,7,8,9,10,11,12,13,14,15,18,33,39,40,41,42,59,61,85,89,106,116,131] hK ?_;clear hK K)|(with_reducible refine .done (hK _ ?_);clear hK K)|refine ae.of rfl ?_|(with_reducible refine av.aA (fun h =>?_) (fun h =>?_) <;>try simp only[h])) <;>try simp only[aC,R,simprocAttr])
  all_goals clear R
  all_goals rfl
 have J:¬ (s.l.length:Int)>8000:=of_decide_eq_false q;rw[if_neg (by omega)];refine acO _ _ s (by omega) (fun ls hG hx8 hl8 =>?_);obtain ⟨hG1,hG2⟩:=hG;have hno:=Cx 10 s.l;have hpos:=zv4.2 (oh 10 false s.l);generalize dz 10 false s.l=L at *;unfold vY;have R:=y6 @cz (y6 @bE (y6 @aZ (y6 @bw (y6 @bl (y6 @bj az)))))
 repeat' ((first |(with_reducible refine .guard (fun hb =>?_) (fun hb =>?_) <;>try simp only[hb])|refine ae.aB (by decide +kernel) rfl fun K hK =>?_|(refine .au [0,2,3,4,5,6,7,8,9,10,11,12,13,14,15,18,33,39,40,41,42,59,61,85,89,106,116,131] hK ?_;clear hK K)|(with_reducible refine .done (hK _ ?_);clear hK K)|refine ae.of rfl ?_|(with_reducible refine av.aA (fun h =>?_) (fun h =>?_) <;>try simp only[h])) <;>try simp only[aC,R,simprocAttr])
 all_goals clear R
 refine ae.loop (vU ls) (fun t=>t.1<L.length∧t.1≤ls.length∧t.2.j.length≤t.1∧gM t.1 t.2 (L.drop t.1)=gM 0 hU L) (fun t=>ls.length-t.1) (0,hU) ⟨hpos,zw1 _,zz3 _,rfl⟩ ?_ ?_
 ·refine bp.vZ 5 905 37 4 4 [1] (.agg [.int .i64 0,.nils 4,.int .i64 0]) ?_ rfl ?_ ?_
  ·try simp only[bF,simprocAttr]
  ·try simp only[bF,simprocAttr]
  ·have e1:(I.agg [.int .i64 0,.nils 4,.int .i64 0]).ev [1] (.own 905 0)=.agg [.int .i64 0,.own 905 0,.int .i64 0]:=rfl;rw[e1];simp only[vU];refine bp.cG ?_ ?_ ?_ ?_ <;>simp[b6,cF,cn,ct,ay,bY,cQ,I.only,I.b8,aq.only,e8,b7]
   all_goals first | rfl | exact ⟨rfl,rfl,rfl,rfl⟩
 rintro ⟨i,p⟩ ⟨hiL,hil,hpj,hP⟩;simp only at hiL hil hpj hP;simp only[vU];by_cases hlt:i<ls.length
 rotate_left
 ·obtain rfl:i=ls.length:=by omega
  have hlc:=fR (Nat.lt_irrefl ls.length);have ah:∃ x t,L.drop ls.length=x::t:=⟨_,_,pI hiL⟩
  obtain ⟨x,t,ah⟩:=ah;cases t with
  |cons y t =>
   have:=hG1 _ _ _ _ ah;rw[zv1 (zz3 _)] at this;cases this
  |nil =>
   obtain ⟨hx,hi0⟩:=(hG2 _ _ ah).2 (Nat.lt_irrefl _);rw[←hP,ah];simp only[gM,if_true];rw[if_neg (by rw[hx];simp;exact fun e=>hi0 (by rw[e];rfl))];clear hP ah hG1 hG2;have hF:=sT p;by_cases hc:iB p=0
   ·rw[hc] at hF;rw[if_pos hc];have R:=y6 @hlc (y6 @tO (y6 @fE (y6 @cz (y6 @bE (y6 @aZ (y6 @bw (y6 @bl (y6 @bj az))))))))
    repeat' ((first |(with_reducible refine .guard (fun hb =>?_) (fun hb =>?_) <;>try simp only[hb])|refine ae.aB (by decide +kernel) rfl fun K hK =>?_|refine .lead _ (hF) ?_|(refine .au [0,2,3,4,5,6,7,8,9,10,11,12,13,14,15,18,33,39,40,41,42,59,61,85,89,106,116,131] hK ?_;clear hK K)|(with_reducible refine .done (hK _ ?_);clear hK K)|refine ae.of rfl ?_|(with_reducible refine av.aA (fun h =>?_) (fun h =>?_) <;>try simp only[h])) <;>try simp only[aC,R,simprocAttr])
    all_goals clear R
    all_goals rfl
   ·have q3:(iB p != 0)=true:=by simpa using hc
    rw[if_neg hc];have R:=y6 @hlc (y6 @q3 (y6 @tO (y6 @fE (y6 @cz (y6 @bE (y6 @aZ (y6 @bw (y6 @bl (y6 @bj az)))))))))
    repeat' ((first |(with_reducible refine .guard (fun hb =>?_) (fun hb =>?_) <;>try simp only[hb])|refine ae.aB (by decide +kernel) rfl fun K hK =>?_|refine .lead _ (hF) ?_|(refine .au [0,2,3,4,5,6,7,8,9,10,11,12,13,14,15,18,33,39,40,41,42,59,61,85,89,106,116,131] hK ?_;clear hK K)|(with_reducible refine .done (hK _ ?_);clear hK K)|refine ae.of rfl ?_|(with_reducible refine av.aA (fun h =>?_) (fun h =>?_) <;>try simp only[h])) <;>try simp only[aC,R,simprocAttr])
    all_goals clear R
    all_goals rfl
 have hlc:=fK hlt;have hw:=fg (i:=i) (by omega);have he:=fun A=>eK (A:=A) 1 hlt rfl;have hx8':=hx8 _ (zw7 hlt);have hgi:ls[i]?=some ls[i]:=zy2 hlt;generalize ls[i]=pc at *;have e10:(I.bm ⟨#[10]⟩)=enc (aG.of [10]):=rfl;have e32:(I.bm ⟨#[32]⟩)=enc (aG.of [32]):=rfl;have hF98:=Jn pc (aG.of [10]);rw[aG.iU] at hF98
 -- the line's words
 obtain ⟨da,wh,hln,hF98',hlc8⟩:∃ (da:aG) (wh:Bool),(aG.of (Lib.trimSuffix pc.l [10])=da∧Lib.hasSuffix pc.l [10]=wh)∧bd Tryz.prog 98 [enc pc,enc (aG.of [10])] (.tuple [enc da,enc wh])∧da.l.length≤8000 :=
  ⟨_,_,⟨rfl,rfl⟩,hF98,by
   rw[aG.iU];have:(Lib.trimSuffix pc.l [10]).length≤pc.l.length:=by unfold Lib.trimSuffix;split <;>simp
   omega⟩
 clear hF98;have hF99:=Jo da 32 (by omega);have hws:=Cy 32 false da;have hwn:=zv4.2 (tE 32 false da);have hwl:=tD 32 false da;have hdrop:∃ x t,L.drop i=x::t:=⟨_,_,pI hiL⟩
 obtain ⟨x,t,ah⟩:=hdrop;have hmemx:x∈L:=List.mem_of_mem_drop (by rw[ah];simp);have hd1:L.drop (i+1)=t:=by
  have:=congrArg (List.drop 1) ah;rw[List.drop_drop] at this;simpa using this
 cases t with
 |nil =>
  obtain ⟨hp1,hp2⟩:=(hG2 _ _ ah).1 hlt;rw[hgi,v6] at hp1;obtain ⟨s1,s2⟩:=aeb (hno x hmemx);rw[hp1,aG.iU,s1,s2] at hln;obtain ⟨_,rfl⟩:=hln;have hres:gM 0 hU L=(hU,(i:Int)+1,5):=by
   rw[←hP,ah];simp only[gM,if_true,if_pos hp2]
  rw[hres];clear hP hres hG1 hG2 ah hp1 hp2 hgi hd1;have hF100:=zQ dU ((cH 32 false da).headD c6);have hw0:∀ A,fi A 1 0 (enc (cH 32 false da))=some (.ref (enc ((cH 32 false da).headD c6))):=fun A=>by
   have:=iT (α:=aG) A (n:=cH 32 false da) (k:=0) (esz:=1) rfl hwn c6;rw[show (cH 32 false da).getD 0 c6=(cH 32 false da).headD c6 by cases (cH 32 false da) <;>rfl] at this;exact this
  have hF101:=fun m hm=>zR (cH 32 false da) m hm (fun x hx=>by have:=hws x hx;omega);generalize cH 32 false da=w at *;generalize w.headD c6=eM at *;generalize ig eM dU 0=kd at *;rcases k0:((i:Int)==0)
  ·rcases k1:decide (kd≤2)
   ·have h101:=hF101 3 (by omega);have R:=y6 @hlc (y6 @hw (y6 @he (y6 @e10 (y6 @e32 (y6 @hw0 (y6 @k0 (y6 @k1 (y6 @fE (y6 @cz (y6 @bE (y6 @aZ (y6 @bw (y6 @bl (y6 @bj az))))))))))))))
    repeat' ((first |(with_reducible refine .guard (fun hb =>?_) (fun hb =>?_) <;>try simp only[hb])|refine ae.aB (by decide +kernel) rfl fun K hK =>?_|refine .lead _ (hF98') ?_|refine .lead _ (hF99) ?_|refine .lead _ (iz) ?_|refine .flat _ (hF100) rfl ?_|refine .lead _ (h101) ?_|(refine .au [0,2,3,4,5,6,7,8,9,10,11,12,13,14,15,18,33,39,40,41,42,59,61,85,89,106,116,131] hK ?_;clear hK K)|(with_reducible refine .done (hK _ ?_);clear hK K)|refine ae.of rfl ?_|(with_reducible refine av.aA (fun h =>?_) (fun h =>?_) <;>try simp only[h])) <;>try simp only[aC,R,simprocAttr])
    all_goals clear R
    all_goals rfl
   ·have h101:=hF101 1 (by omega);have R:=y6 @hlc (y6 @hw (y6 @he (y6 @e10 (y6 @e32 (y6 @hw0 (y6 @k0 (y6 @k1 (y6 @fE (y6 @cz (y6 @bE (y6 @aZ (y6 @bw (y6 @bl (y6 @bj az))))))))))))))
    repeat' ((first |(with_reducible refine .guard (fun hb =>?_) (fun hb =>?_) <;>try simp only[hb])|refine ae.aB (by decide +kernel) rfl fun K hK =>?_|refine .lead _ (hF98') ?_|refine .lead _ (hF99) ?_|refine .lead _ (iz) ?_|refine .flat _ (hF100) rfl ?_|refine .lead _ (h101) ?_|(refine .au [0,2,3,4,5,6,7,8,9,10,11,12,13,14,15,18,33,39,40,41,42,59,61,85,89,106,116,131] hK ?_;clear hK K)|(with_reducible refine .done (hK _ ?_);clear hK K)|refine ae.of rfl ?_|(with_reducible refine av.aA (fun h =>?_) (fun h =>?_) <;>try simp only[h])) <;>try simp only[aC,R,simprocAttr])
    all_goals clear R
    all_goals rfl
  ·have h101:=hF101 2 (by omega);have R:=y6 @hlc (y6 @hw (y6 @he (y6 @e10 (y6 @e32 (y6 @hw0 (y6 @k0 (y6 @fE (y6 @cz (y6 @bE (y6 @aZ (y6 @bw (y6 @bl (y6 @bj az)))))))))))))
   repeat' ((first |(with_reducible refine .guard (fun hb =>?_) (fun hb =>?_) <;>try simp only[hb])|refine ae.aB (by decide +kernel) rfl fun K hK =>?_|refine .lead _ (hF98') ?_|refine .lead _ (hF99) ?_|refine .lead _ (iz) ?_|refine .flat _ (hF100) rfl ?_|refine .lead _ (h101) ?_|(refine .au [0,2,3,4,5,6,7,8,9,10,11,12,13,14,15,18,33,39,40,41,42,59,61,85,89,106,116,131] hK ?_;clear hK K)|(with_reducible refine .done (hK _ ?_);clear hK K)|refine ae.of rfl ?_|(with_reducible refine av.aA (fun h =>?_) (fun h =>?_) <;>try simp only[h])) <;>try simp only[aC,R,simprocAttr])
   all_goals clear R
   all_goals rfl
 |cons y t =>
  have hp1:=hG1 _ _ _ _ ah;rw[hgi,v6] at hp1;obtain ⟨s1,s2⟩:=aec x;rw[hp1,aG.iU,s1,s2] at hln;obtain ⟨hln,rfl⟩:=hln;have hiL':i+1<L.length:=by
   have:=congrArg List.length ah;simp only[zw9,zx8] at this;omega
  rw[ah,acD,hln,←hd1] at hP;clear hG1 hG2 ah hp1 hgi hd1 hmemx;have hF100:=zQ dU ((cH 32 false da).headD c6);have hw0:∀ A,fi A 1 0 (enc (cH 32 false da))=some (.ref (enc ((cH 32 false da).headD c6))):=fun A=>by
   have:=iT (α:=aG) A (n:=cH 32 false da) (k:=0) (esz:=1) rfl hwn c6;rw[show (cH 32 false da).getD 0 c6=(cH 32 false da).headD c6 by cases (cH 32 false da) <;>rfl] at this;exact this
  have hF101:=fun m hm=>zR (cH 32 false da) m hm (fun x hx=>by have:=hws x hx;omega);by_cases hi0:i=0
  ·have k0:((i:Int)==0)=true:=by rw[hi0];rfl
   rw[decide_eq_true hi0,aa6] at hP;generalize cH 32 false da=w at *;have h101:=hF101 2 (by omega);have hkp:=aaF (w.headD c6);simp only[lT] at hkp;rw[show (2:Int)=((2:Nat):Int) from rfl,yz hwn] at h101;rw[show ((2:Nat):Int)=2 from rfl] at h101;generalize w.headD c6=eM at *;generalize ig eM dU 0=kd at *;cases hn:eY ((w.drop 1).map aG.l) with
   |none =>
    rw[hn] at hP h101
    dsimp only at hP h101
    rw[←hP];have R:=y6 @hlc (y6 @hw (y6 @he (y6 @e10 (y6 @e32 (y6 @hw0 (y6 @k0 (y6 @fE (y6 @cz (y6 @bE (y6 @aZ (y6 @bw (y6 @bl (y6 @bj az)))))))))))))
    repeat' ((first |(with_reducible refine .guard (fun hb =>?_) (fun hb =>?_) <;>try simp only[hb])|refine ae.aB (by decide +kernel) rfl fun K hK =>?_|refine .lead _ (hF98') ?_|refine .lead _ (hF99) ?_|refine .lead _ (iz) ?_|refine .flat _ (hF100) rfl ?_|refine .lead _ (h101) ?_|(refine .au [0,2,3,4,5,6,7,8,9,10,11,12,13,14,15,18,33,39,40,41,42,59,61,85,89,106,116,131] hK ?_;clear hK K)|(with_reducible refine .done (hK _ ?_);clear hK K)|refine ae.of rfl ?_|(with_reducible refine av.aA (fun h =>?_) (fun h =>?_) <;>try simp only[h])) <;>try simp only[aC,R,simprocAttr])
    all_goals clear R
    all_goals rfl
   |some n =>
    rw[hn] at hP h101
    dsimp only at hP h101
    by_cases c2:n.length=2
    rotate_left
    ·rw[if_neg (fun k=>c2 k.2)] at hP;rw[if_neg c2] at h101;rw[←hP];have R:=y6 @hlc (y6 @hw (y6 @he (y6 @e10 (y6 @e32 (y6 @hw0 (y6 @k0 (y6 @fE (y6 @cz (y6 @bE (y6 @aZ (y6 @bw (y6 @bl (y6 @bj az)))))))))))))
     repeat' ((first |(with_reducible refine .guard (fun hb =>?_) (fun hb =>?_) <;>try simp only[hb])|refine ae.aB (by decide +kernel) rfl fun K hK =>?_|refine .lead _ (hF98') ?_|refine .lead _ (hF99) ?_|refine .lead _ (iz) ?_|refine .flat _ (hF100) rfl ?_|refine .lead _ (h101) ?_|(refine .au [0,2,3,4,5,6,7,8,9,10,11,12,13,14,15,18,33,39,40,41,42,59,61,85,89,106,116,131] hK ?_;clear hK K)|(with_reducible refine .done (hK _ ?_);clear hK K)|refine ae.of rfl ?_|(with_reducible refine av.aA (fun h =>?_) (fun h =>?_) <;>try simp only[h])) <;>try simp only[aC,R,simprocAttr])
     all_goals clear R
     all_goals rfl
    rw[if_pos c2] at h101;rcases q1:decide (kd≤0)
    rotate_left
    ·have c1:kd≤0:=of_decide_eq_true q1;rw[if_neg (fun k=>by have:=hkp.2 k.1;omega)] at hP;rw[←hP];have R:=y6 @hlc (y6 @hw (y6 @he (y6 @e10 (y6 @e32 (y6 @hw0 (y6 @k0 (y6 @q1 (y6 @fE (y6 @cz (y6 @bE (y6 @aZ (y6 @bw (y6 @bl (y6 @bj az))))))))))))))
     repeat' ((first |(with_reducible refine .guard (fun hb =>?_) (fun hb =>?_) <;>try simp only[hb])|refine ae.aB (by decide +kernel) rfl fun K hK =>?_|refine .lead _ (hF98') ?_|refine .lead _ (hF99) ?_|refine .lead _ (iz) ?_|refine .flat _ (hF100) rfl ?_|refine .lead _ (h101) ?_|(refine .au [0,2,3,4,5,6,7,8,9,10,11,12,13,14,15,18,33,39,40,41,42,59,61,85,89,106,116,131] hK ?_;clear hK K)|(with_reducible refine .done (hK _ ?_);clear hK K)|refine ae.of rfl ?_|(with_reducible refine av.aA (fun h =>?_) (fun h =>?_) <;>try simp only[h])) <;>try simp only[aC,R,simprocAttr])
     all_goals clear R
     all_goals rfl
    rcases q3:(kd != 1)
    rotate_left
    ·have c3:¬ kd=1:=by simpa using q3
     rw[if_neg (fun k=>c3 (hkp.2 k.1))] at hP;rw[←hP];have R:=y6 @hlc (y6 @hw (y6 @he (y6 @e10 (y6 @e32 (y6 @hw0 (y6 @k0 (y6 @q1 (y6 @q3 (y6 @fE (y6 @cz (y6 @bE (y6 @aZ (y6 @bw (y6 @bl (y6 @bj az)))))))))))))))
     repeat' ((first |(with_reducible refine .guard (fun hb =>?_) (fun hb =>?_) <;>try simp only[hb])|refine ae.aB (by decide +kernel) rfl fun K hK =>?_|refine .lead _ (hF98') ?_|refine .lead _ (hF99) ?_|refine .lead _ (iz) ?_|refine .flat _ (hF100) rfl ?_|refine .lead _ (h101) ?_|(refine .au [0,2,3,4,5,6,7,8,9,10,11,12,13,14,15,18,33,39,40,41,42,59,61,85,89,106,116,131] hK ?_;clear hK K)|(with_reducible refine .done (hK _ ?_);clear hK K)|refine ae.of rfl ?_|(with_reducible refine av.aA (fun h =>?_) (fun h =>?_) <;>try simp only[h])) <;>try simp only[aC,R,simprocAttr])
     all_goals clear R
     all_goals rfl
    have c3:kd=1:=by simpa using q3
    rw[if_pos ⟨hkp.1 c3,c2⟩] at hP;have x0:∀ A,fi A 1 0 (enc n)=some (.ref (enc (n.getD 0 0))):=fun A=>iT (α:=Int) A (k:=0) rfl (by omega) 0;have x1:∀ A,fi A 1 1 (enc n)=some (.ref (enc (n.getD 1 0))):=fun A=>iT (α:=Int) A (k:=1) rfl (by omega) 0;generalize n.getD 0 0=a0 at *;generalize n.getD 1 0=a1 at *;have R:=y6 @hlc (y6 @hw (y6 @he (y6 @e10 (y6 @e32 (y6 @hw0 (y6 @k0 (y6 @q1 (y6 @q3 (y6 @x0 (y6 @x1 (y6 @fE (y6 @cz (y6 @bE (y6 @aZ (y6 @bw (y6 @bl (y6 @bj az)))))))))))))))))
    repeat' ((first |(with_reducible refine .guard (fun hb =>?_) (fun hb =>?_) <;>try simp only[hb])|refine ae.aB (by decide +kernel) rfl fun K hK =>?_|refine .lead _ (hF98') ?_|refine .lead _ (hF99) ?_|refine .lead _ (iz) ?_|refine .flat _ (hF100) rfl ?_|refine .lead _ (h101) ?_|(refine ae.qw (gs:=xE) [] [(5,[5]),(14,[]),(108,[]),(109,[]),(110,[]),(111,[]),(112,[]),(113,[]),(114,[5]),(115,[5])] [0,1,2,3,4,5,6,7,8,9] (by decide +kernel) (cZ.of (by simp[fG,bY,p9,I.only,b7])) fun K hK =>?_;simp only[fm,xE,zy7,zy8,R,simprocAttr])|(refine .au [0,2,3,4,5,6,7,8,9,10,11,12,13,14,15,18,33,39,40,41,42,59,61,85,89,106,116,131] hK ?_;clear hK K)|(with_reducible refine .done (hK _ ?_);clear hK K)|refine ae.of rfl ?_|(with_reducible refine av.aA (fun h =>?_) (fun h =>?_) <;>try simp only[h])) <;>try simp only[aC,R,simprocAttr])
    all_goals clear R
    refine ⟨(i+1,⟨a0,p.j,a1⟩),⟨hiL',by simp only;omega,by simp only;omega,hP⟩,by simp only;omega,?_⟩
    try simp only[]
    clear hP;refine bp.cG ?_ ?_ ?_ ?_ <;>simp[b6,cF,cn,ct,ay,bY,cQ,I.only,I.b8,aq.only,e8,b7]
  ·have k0:((i:Int)==0)=false:=by simp;omega
   rw[decide_eq_false hi0,aa7] at hP;generalize cH 32 false da=w at *;have hkc:=aaE (w.headD c6);simp only[lT] at hkc;simp only[nq] at hP;generalize w.headD c6=eM at *;generalize ig eM dU 0=kd at *;generalize kS eM=kn at *;have J:=hF101 1 (by omega);have af:=hF101 3 (by omega);rw[show (1:Int)=((1:Nat):Int) from rfl,yz hwn] at J;rw[show ((1:Nat):Int)=1 from rfl] at J;rw[show (3:Int)=((3:Nat):Int) from rfl,yz hwn] at af;rw[show ((3:Nat):Int)=3 from rfl] at af;clear hF101;cases hn:eY ((w.drop 1).map aG.l) with
   |none =>
    rw[hn] at hP J af
    simp only[zw5] at hP J af
    rw[←hP];rcases k1:decide (kd≤2)
    ·have R:=y6 @hlc (y6 @hw (y6 @he (y6 @e10 (y6 @e32 (y6 @hw0 (y6 @k0 (y6 @k1 (y6 @fE (y6 @cz (y6 @bE (y6 @aZ (y6 @bw (y6 @bl (y6 @bj az))))))))))))))
     repeat' ((first |(with_reducible refine .guard (fun hb =>?_) (fun hb =>?_) <;>try simp only[hb])|refine ae.aB (by decide +kernel) rfl fun K hK =>?_|refine .lead _ (hF98') ?_|refine .lead _ (hF99) ?_|refine .lead _ (iz) ?_|refine .flat _ (hF100) rfl ?_|refine .lead _ (af) ?_|(refine .au [0,2,3,4,5,6,7,8,9,10,11,12,13,14,15,18,33,39,40,41,42,59,61,85,89,106,116,131] hK ?_;clear hK K)|(with_reducible refine .done (hK _ ?_);clear hK K)|refine ae.of rfl ?_|(with_reducible refine av.aA (fun h =>?_) (fun h =>?_) <;>try simp only[h])) <;>try simp only[aC,R,simprocAttr])
     all_goals clear R
     all_goals rfl
    ·have R:=y6 @hlc (y6 @hw (y6 @he (y6 @e10 (y6 @e32 (y6 @hw0 (y6 @k0 (y6 @k1 (y6 @fE (y6 @cz (y6 @bE (y6 @aZ (y6 @bw (y6 @bl (y6 @bj az))))))))))))))
     repeat' ((first |(with_reducible refine .guard (fun hb =>?_) (fun hb =>?_) <;>try simp only[hb])|refine ae.aB (by decide +kernel) rfl fun K hK =>?_|refine .lead _ (hF98') ?_|refine .lead _ (hF99) ?_|refine .lead _ (iz) ?_|refine .flat _ (hF100) rfl ?_|refine .lead _ (J) ?_|(refine .au [0,2,3,4,5,6,7,8,9,10,11,12,13,14,15,18,33,39,40,41,42,59,61,85,89,106,116,131] hK ?_;clear hK K)|(with_reducible refine .done (hK _ ?_);clear hK K)|refine ae.of rfl ?_|(with_reducible refine av.aA (fun h =>?_) (fun h =>?_) <;>try simp only[h])) <;>try simp only[aC,R,simprocAttr])
     all_goals clear R
     all_goals rfl
   |some n =>
    rw[hn] at hP J af
    dsimp only at hP J af
    have hbs:∀ y:bn,eW 4 (some [enc y])=some (enc [y]):=fun y=>h2 4 y rfl;have hap:=fun (A:ai) d rest y=>lD (A:=A) (d:=d) 37 4 32 905 (l:=p.j.length) (es:=p.j) (ys:=[y]) (rest:=rest) rfl rfl (by simp) (by simp[maxLen];omega) (by simp;omega);rcases k1:decide (kd≤2)
    ·have c1:¬ kd≤2:=of_decide_eq_false k1;have q1:decide (kd≤0)=false:=decide_eq_false (by omega);have hkn:kn=kd:=by rcases hkc with h | h <;>omega
     rw[if_neg (by omega)] at hP;simp only[oF] at hP;rw[hkn,if_neg c1] at hP;by_cases c3:n.length=3
     rotate_left
     ·rw[if_neg c3] at hP af
      simp only[zw5] at hP
      rw[←hP];have R:=y6 @hlc (y6 @hw (y6 @he (y6 @e10 (y6 @e32 (y6 @hw0 (y6 @k0 (y6 @k1 (y6 @q1 (y6 @fE (y6 @cz (y6 @bE (y6 @aZ (y6 @bw (y6 @bl (y6 @bj az)))))))))))))))
      repeat' ((first |(with_reducible refine .guard (fun hb =>?_) (fun hb =>?_) <;>try simp only[hb])|refine ae.aB (by decide +kernel) rfl fun K hK =>?_|refine .lead _ (hF98') ?_|refine .lead _ (hF99) ?_|refine .lead _ (iz) ?_|refine .flat _ (hF100) rfl ?_|refine .lead _ (af) ?_|(refine .au [0,2,3,4,5,6,7,8,9,10,11,12,13,14,15,18,33,39,40,41,42,59,61,85,89,106,116,131] hK ?_;clear hK K)|(with_reducible refine .done (hK _ ?_);clear hK K)|refine ae.of rfl ?_|(with_reducible refine av.aA (fun h =>?_) (fun h =>?_) <;>try simp only[h])) <;>try simp only[aC,R,simprocAttr])
      all_goals clear R
      all_goals rfl
     rw[if_pos c3] at hP af
     simp only[zz9] at hP
     have x0:∀ A,fi A 1 0 (enc n)=some (.ref (enc (n.getD 0 0))):=fun A=>iT (α:=Int) A (k:=0) rfl (by omega) 0;have x1:∀ A,fi A 1 1 (enc n)=some (.ref (enc (n.getD 1 0))):=fun A=>iT (α:=Int) A (k:=1) rfl (by omega) 0;have x2:∀ A,fi A 1 2 (enc n)=some (.ref (enc (n.getD 2 0))):=fun A=>iT (α:=Int) A (k:=2) rfl (by omega) 0;generalize n.getD 0 0=a0 at *;generalize n.getD 1 0=a1 at *;generalize n.getD 2 0=a2 at *;have R:=y6 @hlc (y6 @hw (y6 @he (y6 @e10 (y6 @e32 (y6 @hw0 (y6 @k0 (y6 @k1 (y6 @q1 (y6 @x0 (y6 @x1 (y6 @x2 (y6 @qU (y6 @hbs (y6 @hap (y6 @fE (y6 @cz (y6 @bE (y6 @aZ (y6 @bw (y6 @bl (y6 @bj az)))))))))))))))))))))
     repeat' ((first |(with_reducible refine .guard (fun hb =>?_) (fun hb =>?_) <;>try simp only[hb])|refine ae.aB (by decide +kernel) rfl fun K hK =>?_|refine .lead _ (hF98') ?_|refine .lead _ (hF99) ?_|refine .lead _ (iz) ?_|refine .flat _ (hF100) rfl ?_|refine .lead _ (af) ?_|(refine .au [0,2,3,4,5,6,7,8,9,10,11,12,13,14,15,18,33,39,40,41,42,59,61,85,89,106,116,131] hK ?_;clear hK K)|(with_reducible refine .done (hK _ ?_);clear hK K)|refine ae.of rfl ?_|(with_reducible refine av.aA (fun h =>?_) (fun h =>?_) <;>try simp only[h])) <;>try simp only[aC,R,simprocAttr])
     all_goals clear R
     refine ⟨(i+1,⟨p.aD,p.j++[⟨kd,a0,a1,a2⟩],p.di⟩),⟨hiL',by simp only;omega,by simp;omega,hP⟩,by simp only;omega,?_⟩
     try simp only[]
     clear hP;refine bp.cG ?_ ?_ ?_ ?_ <;>simp[b6,cF,cn,ct,ay,bY,cQ,I.only,I.b8,aq.only,e8,kz,b7]
    ·have c1:kd≤2:=of_decide_eq_true k1;by_cases c3:n.length=1
     rotate_left
     ·rw[if_neg c3] at J;have hnone:(if kn≤0 then none else oF kn n)=none:=by
       split
       ·rfl
       ·have hkn:kn=kd:=by rcases hkc with h | h <;>omega
        simp only[oF];rw[hkn,if_pos c1,if_neg c3]
      rw[hnone] at hP
      simp only[zw5] at hP
      rw[←hP];have R:=y6 @hlc (y6 @hw (y6 @he (y6 @e10 (y6 @e32 (y6 @hw0 (y6 @k0 (y6 @k1 (y6 @fE (y6 @cz (y6 @bE (y6 @aZ (y6 @bw (y6 @bl (y6 @bj az))))))))))))))
      repeat' ((first |(with_reducible refine .guard (fun hb =>?_) (fun hb =>?_) <;>try simp only[hb])|refine ae.aB (by decide +kernel) rfl fun K hK =>?_|refine .lead _ (hF98') ?_|refine .lead _ (hF99) ?_|refine .lead _ (iz) ?_|refine .flat _ (hF100) rfl ?_|refine .lead _ (J) ?_|(refine .au [0,2,3,4,5,6,7,8,9,10,11,12,13,14,15,18,33,39,40,41,42,59,61,85,89,106,116,131] hK ?_;clear hK K)|(with_reducible refine .done (hK _ ?_);clear hK K)|refine ae.of rfl ?_|(with_reducible refine av.aA (fun h =>?_) (fun h =>?_) <;>try simp only[h])) <;>try simp only[aC,R,simprocAttr])
      all_goals clear R
      all_goals rfl
     rw[if_pos c3] at J;rcases q1:decide (kd≤0)
     rotate_left
     ·have c4:kd≤0:=of_decide_eq_true q1;rw[if_pos (by rcases hkc with h | h <;>omega)] at hP
      simp only[zw5] at hP
      rw[←hP];have R:=y6 @hlc (y6 @hw (y6 @he (y6 @e10 (y6 @e32 (y6 @hw0 (y6 @k0 (y6 @k1 (y6 @q1 (y6 @fE (y6 @cz (y6 @bE (y6 @aZ (y6 @bw (y6 @bl (y6 @bj az)))))))))))))))
      repeat' ((first |(with_reducible refine .guard (fun hb =>?_) (fun hb =>?_) <;>try simp only[hb])|refine ae.aB (by decide +kernel) rfl fun K hK =>?_|refine .lead _ (hF98') ?_|refine .lead _ (hF99) ?_|refine .lead _ (iz) ?_|refine .flat _ (hF100) rfl ?_|refine .lead _ (J) ?_|(refine .au [0,2,3,4,5,6,7,8,9,10,11,12,13,14,15,18,33,39,40,41,42,59,61,85,89,106,116,131] hK ?_;clear hK K)|(with_reducible refine .done (hK _ ?_);clear hK K)|refine ae.of rfl ?_|(with_reducible refine av.aA (fun h =>?_) (fun h =>?_) <;>try simp only[h])) <;>try simp only[aC,R,simprocAttr])
      all_goals clear R
      all_goals rfl
     have c4:¬ kd≤0:=of_decide_eq_false q1;have hkn:kn=kd:=by rcases hkc with h | h <;>omega
     rw[if_neg (by omega)] at hP;simp only[oF] at hP;rw[hkn,if_pos c1,if_pos c3] at hP
     simp only[zz9] at hP
     have x0:∀ A,fi A 1 0 (enc n)=some (.ref (enc (n.getD 0 0))):=fun A=>iT (α:=Int) A (k:=0) rfl (by omega) 0;generalize n.getD 0 0=a0 at *;have R:=y6 @hlc (y6 @hw (y6 @he (y6 @e10 (y6 @e32 (y6 @hw0 (y6 @k0 (y6 @k1 (y6 @q1 (y6 @x0 (y6 @tk (y6 @hbs (y6 @hap (y6 @fE (y6 @cz (y6 @bE (y6 @aZ (y6 @bw (y6 @bl (y6 @bj az)))))))))))))))))))
     repeat' ((first |(with_reducible refine .guard (fun hb =>?_) (fun hb =>?_) <;>try simp only[hb])|refine ae.aB (by decide +kernel) rfl fun K hK =>?_|refine .lead _ (hF98') ?_|refine .lead _ (hF99) ?_|refine .lead _ (iz) ?_|refine .flat _ (hF100) rfl ?_|refine .lead _ (J) ?_|(refine .au [0,2,3,4,5,6,7,8,9,10,11,12,13,14,15,18,33,39,40,41,42,59,61,85,89,106,116,131] hK ?_;clear hK K)|(with_reducible refine .done (hK _ ?_);clear hK K)|refine ae.of rfl ?_|(with_reducible refine av.aA (fun h =>?_) (fun h =>?_) <;>try simp only[h])) <;>try simp only[aC,R,simprocAttr])
     all_goals clear R
     refine ⟨(i+1,⟨p.aD,p.j++[⟨kd,a0,0,0⟩],p.di⟩),⟨hiL',by simp only;omega,by simp;omega,hP⟩,by simp only;omega,?_⟩
     try simp only[]
     clear hP;refine bp.cG ?_ ?_ ?_ ?_ <;>simp[b6,cF,cn,ct,ay,bY,cQ,I.only,I.b8,aq.only,e8,kz,b7]
theorem tx(a b:aG):(gP a b).l=a.l++b.l:=zp a b
def iL(w:List UInt8)(l:List Int):List UInt8:=w++l.flatMap fun n=>32::Lib.itoa n
theorem Hq(w:aG)(l:List Int):∀ i,i≤l.length→(gp w l i).l=iL w.l (l.take i)
 |0,_=>by simp[gp,iL]
 |i+1,h=>by
  rw[vb w (by omega),tx,tx,Hq w l i (by omega),zy0 (by omega)];simp only[iL,List.flatMap_append,List.flatMap_cons,List.flatMap_nil,zw4,zy3];rfl
theorem Hs(w:aG)(l:List Int):(jv w l).l=iL w.l l++[10]:=by
 rw[jv,tx,Hq w l _ (zz3 _),zv5];rfl
theorem wS:∀ (l:List Int) (w:List UInt8),(∀ b∈w,b≠32)→(∀ n∈l,0≤n)→dz 32 false (iL w l)=w::l.map Lib.itoa
 | [],w,hw,_=>by
  simp only[iL,List.flatMap_nil,zw4,zx7];exact tB hw
 |n::l,w,hw,ao=>by
  have ih:=wS l (Lib.itoa n) (CE (ao n (by simp)) (by decide)) fun m hm=>ao m (by simp[hm]);simp only[iL,List.flatMap_cons,zy1];rw[pH _ hw];simp only[zz2,if_false,zw4,zz5];rw[←ih];rfl
theorem Hu{w:List UInt8}{l:List Int}(hw:∀ b∈w,b≠10)(ao:∀ n∈l,0≤n):∀ b∈iL w l,b≠10:=by
 intro b hb;rcases zw0.1 hb with hb | hb
 ·exact hw b hb
 ·obtain ⟨n,hn,hb⟩:=List.mem_flatMap.1 hb;rcases zx3.1 hb with rfl | hb
  ·decide
  ·exact CE (ao n hn) (by decide) b hb
theorem aaD{n:Int}(h:0≤n∧n<100000):(Lib.itoa n).length≤5:=by
 obtain ⟨m,rfl⟩:=zx9 h.1;exact (yr (Fg (show m<100000 by omega))).2.1
theorem yx:∀ {l:List Int},(∀ n∈l,0≤n∧n<100000)→eY (l.map Lib.itoa)=some l
 | [],_=>rfl
 |n::l,h=>by
  have hn:=h n (by simp);obtain ⟨m,rfl⟩:=zx9 hn.1;have ih:=yx (l:=l) fun x hx=>h x (List.mem_cons_of_mem _ hx);simp only[zz5,eY,Fg (show m<100000 by omega),ih]
theorem zh(w:List UInt8):∀ {l:List Int},(∀ n∈l,0≤n∧n<100000)→(iL w l).length≤w.length+6*l.length
 | [],_=>by simp[iL]
 |n::l,h=>by
  have J:=aaD (h n (by simp));have U:=zh w (l:=l) fun x hx=>h x (by simp[hx]);simp only[iL,zz8,List.flatMap_cons,zx8] at U ⊢;omega
theorem aer:∀ k:Fin 9,1≤k.val→kS (fo k.val)=k.val∧(∀ b∈(fo k.val).l,b≠32∧b≠10):=by decide
theorem If{k:Int}(h:1≤k∧k≤8):kS (fo k)=k∧(∀ b∈(fo k).l,b≠32∧b≠10):=by
 obtain ⟨m,rfl⟩:=zx9 (show 0≤k by omega);have:=aer ⟨m,by omega⟩ (show 1≤m by omega);exact this
def jO(x:bn):List Int:=if x.kind≤2 then [x.aL] else [x.aL,x.other,x.no]
theorem yu{x:bn}(h:fZ x=true):∀ n∈jO x,0≤n∧n<100000:=by
 obtain ⟨_,U,af,ar⟩:=ql h;intro n hn;simp only[jO] at hn;split at hn
 ·simp only[zx1] at hn;omega
 ·simp only[zx3,List.not_mem_nil,or_false] at hn;rcases hn with rfl | rfl | rfl <;>omega
theorem EF(x:bn):(gJ x).l=iL (fo x.kind).l (jO x)++[10]:=by
 simp only[gJ,jO];split <;>rw[Hs]
theorem D8(x:List UInt8)(t:List (List UInt8)):((x::t).map aG.of).headD c6=aG.of x:=rfl
theorem EU(t:List (List UInt8)):(t.map aG.of).map aG.l=t:=by
 rw[List.map_map]
 conv=>rhs;rw[←List.map_id t]
 exact List.map_congr_left fun x _=>aG.iU x
theorem Pr{x:bn}(h:fZ x=true):nq (cH 32 false (aG.of (iL (fo x.kind).l (jO x))))=some x:=by
 obtain ⟨J,_⟩:=ql h;obtain ⟨hk,hb⟩:=If J;have hn:=yu h;have hcut:cH 32 false (aG.of (iL (fo x.kind).l (jO x)))=((fo x.kind).l::(jO x).map Lib.itoa).map aG.of:=by
  simp only[cH,aG.iU];rw[wS _ _ (fun b hb'=>(hb b hb').1) (fun n hn'=>(hn n hn').1)]
 rw[hcut];have ah:((((fo x.kind).l::(jO x).map Lib.itoa).map aG.of).headD c6)=fo x.kind:=by rw[D8,aG.qi]
 have hr:eY (((((fo x.kind).l::(jO x).map Lib.itoa).map aG.of).drop 1).map aG.l)=some (jO x):=by
  rw[zz5,List.drop_succ_cons,List.drop_zero,EU];exact yx hn
 generalize (((fo x.kind).l::(jO x).map Lib.itoa).map aG.of)=ws at *;simp only[nq,hr,ah,hk];clear hr ah hcut;rw[if_neg (by omega)];obtain ⟨kind,aL,other,no⟩:=x;simp only[oF,jO] at *;by_cases c:kind≤2
 ·simp only[if_pos c,zw6,if_true];simp only[fZ] at h;rw[if_pos (by omega)] at h;simp only[zz0,beq_iff_eq] at h;obtain ⟨_,rfl,rfl⟩:=h;rfl
 ·simp only[if_neg c];rfl
theorem FC(aD di:Int)(p:bI)(hc:iB p=0):∀ (l js:List bn) (k:Nat),1≤k→(∀ x∈l,fZ x=true)→(⟨aD,js++l,di⟩:bI)=p→gM k ⟨aD,js,di⟩ (dz 10 false (l.flatMap fun x=>(gJ x).l))=(p,0,0)
 | [],js,k,hk,_,hp=>by
  rw[zw4] at hp;simp only[List.flatMap_nil,dz,gM,if_true];rw[hp,if_neg (by simp;omega),if_pos hc]
 |x::l,js,k,hk,ao,hp=>by
  have hx:=ao x (by simp);obtain ⟨J,_⟩:=ql hx;obtain ⟨_,hb⟩:=If J;have hn:=yu hx;rw[List.flatMap_cons,EF,zy3,List.singleton_append,pH _ (Hu (fun b hb'=>(hb b hb').2) fun n hn'=>(hn n hn').1)];simp only[zz2,if_false,zw4];rw[gM,if_neg (oh _ _ _),decide_eq_false (show ¬ k=0 by omega)];simp only[kU,zz2,if_false,Pr hx,zz9];exact FC aD di p hc l (js++[x]) (k+1) (by omega) (fun y hy=>ao y (by simp[hy])) (by rw[←hp];simp)
theorem FK(p:bI):∀ i,i≤p.j.length→(hJ p i).l=iL fS.l [p.aD,p.di]++[10]++(p.j.take i).flatMap fun x=>(gJ x).l
 |0,_=>by
  show (jv fS [p.aD,p.di]).l=_
  rw[Hs];simp
 |i+1,h=>by
  rw[uQ p (by omega),tx,FK p i (by omega),zy0 (by omega),List.flatMap_append,List.flatMap_cons,List.flatMap_nil,zw4];simp only[zy3]
theorem EG:∀ {l:List bn},(∀ x∈l,fZ x=true)→(l.flatMap fun x=>(gJ x).l).length≤26*l.length
 | [],_=>by simp
 |x::l,h=>by
  have J:=h x (by simp);have U:=EG (l:=l) fun y hy=>h y (by simp[hy]);have af:=zh (fo x.kind).l (yu J);have ar:=vy x.kind;have h5:(jO x).length≤3:=by simp only[jO];split <;>simp
  rw[aG.size] at ar;rw[List.flatMap_cons,zz8,EF,zz8];simp only[zx8,List.length_nil];omega
theorem adB{p:bI}{s:aI}(ho:dD p=some s):lW (hJ p p.j.length)=(p,0,0):=by
 have hc:iB p=0:=by simp only[iB,ho]
 have hok:=uJ ho;obtain ⟨_,_,_,ao,bz,_⟩:=iJ ho;simp only[iG,dJ,zz0,decide_eq_true_eq] at bz;have hm:∀ n∈[p.aD,p.di],0≤n∧n<100000:=by
  intro n hn;simp only[zx3,List.not_mem_nil,or_false] at hn;rcases hn with rfl | rfl <;>omega
 have hpl:fS.l=[112,111,117,110,100]:=rfl;have J:=FK p p.j.length (zz3 _);rw[zv5] at J;have hlen:(hJ p p.j.length).l.length≤8000:=by
  have U:=zh fS.l hm;have af:=EG hok;rw[J,zz8,zz8];rw[hpl] at U ⊢;simp only[zx8,List.length_nil] at U ⊢;omega
 have hb:∀ b∈fS.l,b≠32∧b≠10:=by rw[hpl];decide
 rw[lW,if_neg (by omega),J,zy3,List.singleton_append,pH _ (Hu (fun b hb'=>(hb b hb').2) fun n hn'=>(hm n hn').1)];simp only[zz2,if_false,zw4];have hcut:cH 32 false (aG.of (iL fS.l [p.aD,p.di]))=(fS.l::[p.aD,p.di].map Lib.itoa).map aG.of:=by
  simp only[cH,aG.iU];rw[wS _ _ (fun b hb'=>(hb b hb').1) (fun n hn'=>(hm n hn').1)]
 have hline:kU true hU (aG.of (iL fS.l [p.aD,p.di]))=some ⟨p.aD,[],p.di⟩:=by
  rw[kU,if_pos rfl,hcut];have h5:((((fS.l::[p.aD,p.di].map Lib.itoa).map aG.of).drop 1).map aG.l)=[p.aD,p.di].map Lib.itoa:=by
   rw[zz5,List.drop_succ_cons,List.drop_zero,EU]
  rw[h5,yx hm];simp only[D8,aG.qi];rw[if_pos ⟨trivial,rfl⟩];rfl
 rw[gM,if_neg (oh _ _ _),decide_eq_true rfl,hline];exact FC p.aD p.di p hc p.j [] 1 (zz3 _) hok rfl
theorem Jl(p:bI)(s:aG):bd Tryz.prog 9 [enc p,enc s] (enc true):=by
 refine bd.b5 Tryz.func9 Lx ME N3 (t7 rfl) (fun hwf W0 bH E1 =>?_);simp only[c9,GU,bM,zz4];clear hwf;have hc:∀ a:Int,(a != a)=false:=fun a=>by simp
 have ab:∀ a:aG,decide (a=a)=true:=fun a=>decide_eq_true rfl;have h6:=IJ;have hP:∀ l:bI,bd Tryz.prog 16 [enc l,enc l] (enc true):=fun l=>by
  have:=II l l
  rwa [decide_eq_true rfl] at this
 have J:=Ac p;have U:=IT p;have af:=Ad s;have ar:=IU s;cases ho:dD p with
 |none =>
  have e:kY p=(c6,91):=by simp only[kY,ho]
  rw[e] at J U;have R:=y6 @hc (y6 @ab (y6 @cz (y6 @bE (y6 @aZ (y6 @bw (y6 @bl (y6 @bj az)))))))
  repeat' ((first |(with_reducible refine .guard (fun hb =>?_) (fun hb =>?_) <;>try simp only[hb])|refine ae.aB (by decide +kernel) rfl fun K hK =>?_|refine .lead _ (J) ?_|refine .lead _ (U) ?_|refine .lead _ (af) ?_|refine .lead _ (ar) ?_|refine .flat _ (hP _) rfl ?_|refine .flat _ (h6) rfl ?_|(refine .au [0,1,2,4,5,6,7,8,9,10,11,12,13,14,15,16,17,63,65] hK ?_;clear hK K)|(with_reducible refine .done (hK _ ?_);clear hK K)|refine ae.of rfl ?_|(with_reducible refine av.aA (fun h =>?_) (fun h =>?_) <;>try simp only[h])) <;>try simp only[aC,R,decide_true,simprocAttr])
  all_goals clear R
  all_goals rfl
 |some bh =>
  have e:kY p=(hJ p p.j.length,0):=by simp only[kY,ho]
  rw[e] at J U;have h5:=Ad (hJ p p.j.length);rw[adB ho] at h5;generalize hJ p p.j.length=t at *;have R:=y6 @hc (y6 @ab (y6 @cz (y6 @bE (y6 @aZ (y6 @bw (y6 @bl (y6 @bj az)))))))
  repeat' ((first |(with_reducible refine .guard (fun hb =>?_) (fun hb =>?_) <;>try simp only[hb])|refine ae.aB (by decide +kernel) rfl fun K hK =>?_|refine .lead _ (J) ?_|refine .lead _ (U) ?_|refine .lead _ (af) ?_|refine .lead _ (ar) ?_|refine .lead _ (h5) ?_|refine .flat _ (hP _) rfl ?_|refine .flat _ (h6) rfl ?_|(refine .au [0,1,2,4,5,6,7,8,9,10,11,12,13,14,15,16,17,63,65] hK ?_;clear hK K)|(with_reducible refine .done (hK _ ?_);clear hK K)|refine ae.of rfl ?_|(with_reducible refine av.aA (fun h =>?_) (fun h =>?_) <;>try simp only[h])) <;>try simp only[aC,R,decide_true,simprocAttr])
  all_goals clear R
  all_goals rfl
end Go.Proofs.YthbdbocionnfgaaGreatDoor
