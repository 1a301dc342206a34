/-
  A part of the proof that the law HerdSince returns true for every input; conditions: none beyond the statement's own. (part 6 of 7)
-/
import Derived.Shelf.Spec.SlicesGrow
import Derived.Test.YtcldiigclhgafaaGreatNie
set_option linter.unusedSimpArgs false
set_option linter.unusedVariables false
set_option maxHeartbeats 16000000
set_option maxRecDepth 100000
namespace Go.Proofs.YtcldiigclhgafaaGreat
open Go Go.Abs
open Go.Abs.Enc (enc)
theorem TN(w:aX 5 Int)(n:Int):dN [enc (a5 0 0 0 0 0),.int .i64 0,.nils 7] [(0,enc w),(1,.int .i64 n)]=some [enc w,.int .i64 n,.nils 7]:=by
 have h1:((enc w:I).cq=true∧(enc w:I).size=(enc (a5 0 0 0 0 0)).size):=⟨du _,by rw[gG,gG]⟩
 rw[pM (z:=enc (a5 0 0 0 0 0)) rfl h1.1 h1.2,pM (v:=.int .i64 n) (z:=.int .i64 0) rfl rfl rfl];rfl
theorem na(w:aX 5 Int)(n:Int)(x:I)(h1:x.cq=true)(h2:x.aV=.one)(h3:x.size=1):(I.agg [enc w,.int .i64 n,x]).cq=true∧cj (some 7) (I.agg [enc w,.int .i64 n,x])=true∧(I.agg [enc w,.int .i64 n,x]).aV=.ez [.ez (List.replicate 5 .one),.one,.one]:=by
 refine ⟨rfl,?_,?_⟩
 ·simp[cj,I.isAgg,I.size,I.sizes,gG,h3,lE,lF]
 ·simp[I.aV,I.cT,eT,h2,tE,tF]
theorem zp(w:aX 5 Int)(n:Int)(x:I)(v:I):er [enc w,.int .i64 n,x] 2 6 v=some v:=mH (t7 rfl) (by simp[I.sizes,I.size,gG,lE,lF])
theorem Bh(c:List Int)(hl:c.length≤4611686018427387904):aA Tryz.prog 24 [enc c] (enc (nv c)):=by
 refine aA.bp Tryz.func24 Vg Xk Zx (t7 rfl) (fun hwf W0 D0 E1 =>?_);simp only[De,Pd,bl];refine .ar (by decide +kernel) fun K hK =>?_;simp only[JS,ab,simprocAttr];refine .done (hK _ ?_);clear hK K;obtain ⟨w,hw⟩:∃ w,w=gn c 5:=⟨_,rfl⟩
 obtain ⟨f,hf⟩:∃ f,f=bd c 5%2:=⟨_,rfl⟩
 refine .ar (by decide +kernel) fun K hK =>?_;simp only[JT,ab,simprocAttr]
 try simp only[cN,ab,simprocAttr]
 refine .lead _ (Sr c hl) ?_
 try simp only[cN,ab,simprocAttr]
 refine .flat _ (m0 c 5 hl) rfl ?_
 try simp only[ab,simprocAttr]
 refine .flat _ (gQ (bd c 5) 2 (by decide) (by decide)) rfl ?_
 try simp only[ES,TN,←hw,←hf,ab,simprocAttr]
 obtain ⟨q1,q2,q3⟩:=na w f (.nils 7) rfl rfl rfl;rw[eG q1 q2 (q3.trans (na (a5 0 0 0 0 0) 0 (.nils 7) rfl rfl rfl).2.2.symm)]
 try simp only[fT,ab,simprocAttr]
 refine .done (hK _ ?_);clear hK K;refine .ar (by decide +kernel) fun K hK =>?_;simp only[JU,ab,simprocAttr];refine .done (hK _ ?_);clear hK K;refine U.seq (U.seq ?_);refine .bx (by decide +kernel) fun K hK =>?_;simp only[JV,ab,simprocAttr];refine .done (hK _ ?_);clear hK K;try simp only[au]
 refine U.block (U.loop (fun i:Nat=>aw [(0,enc c),(2,.ptr 2 []),(3,.ptr 3 []),(4,.int .i64 (de c i).1),(5,.int .i64 i)] [(1,.b9 63 7 ((de c i).2.map enc)),(2,.box (.agg [enc (a5 0 0 0 0 0),.int .i64 0,.nils 7])),(3,.box (.agg [enc w,.int .i64 f,.own 1 (de c i).2.length]))]) (fun i=>i≤12) (fun i=>12-i) 0 (by omega) ?_ (fun i hi =>?_))
 ·refine aB.vY 3 1 63 7 7 [2] (.agg [enc w,.int .i64 f,.nils 7]) ?_ rfl ?_ ?_
  ·try simp only[ab,simprocAttr]
  ·try simp only[ab,simprocAttr]
  ·have e1:(I.agg [enc w,.int .i64 f,.nils 7]).dS [2] (.own 1 0)=.agg [enc w,.int .i64 f,.own 1 0]:=rfl;rw[e1];simp only[de,zx1,zv0];refine aB.bE ?_ ?_ ?_ ?_ <;>simp[aQ,bt,br,aY,aq,aS,bT,I.only,I.bV,ah.only,bg]
 obtain ⟨b1,b2,b3,_,_⟩:=y9 c i;have q4:=MH (c.getD i 0);have fin12:¬ (i<c.length∧i<12∧(de c i).2.length<9)→(nv c).given=(de c i).2:=by
  intro hn;by_cases e:i=12
  ·subst e;rfl
  ·have:de c 12=de c i:=Mx (fun hh=>hn ⟨hh.1,by omega,hh.2⟩) 12 hi;simp only[nv,ky,this]
 refine U.seq (U.seq ?_);refine .bx (by decide +kernel) fun K hK =>?_;simp only[JW,ab,simprocAttr]
 try simp only[aZ,ab,simprocAttr]
 generalize hz:decide ((i:Int)<c.length)=bz;cases bz
 ·have hout:=fin12 (fun hh=>by simp at hz;omega)
  try simp only[ab,simprocAttr]
  refine .done (hK _ ?_);clear hK K;try simp only[au]
  refine U.bL ?_;simp only[al,ab,simprocAttr];refine ⟨fun h =>?_,fun h =>?_⟩
  ·cases h
  refine U.exit ?_;try simp only[au,bP,simprocAttr]
  refine .ar (by decide +kernel) fun K hK =>?_;simp only[tX,ab,simprocAttr];obtain ⟨s1,s2,s3⟩:=na w f (.own 1 (de c i).2.length) rfl rfl rfl
  try simp only[s2,ab,simprocAttr]
  rw[eG s1 s2 (s3.trans (na (a5 0 0 0 0 0) 0 (.nils 7) rfl rfl rfl).2.2.symm)]
  try simp only[fT,ab,simprocAttr]
  refine .done (hK _ ?_);clear hK K;refine U.ret ?_;simp only[ab,simprocAttr]
  try simp only[s2,mq (α:=cu) 7 rfl rfl,cN,ab,simprocAttr]
  have hfin:(⟨w,f,(de c i).2⟩:bY)=nv c:=by rw[←hout,hw,hf];rfl
  rw[rR,hfin]
 have hic:i<c.length:=by simpa using hz
 try simp only[ab,simprocAttr]
 generalize hz2:decide ((i:Int)<12)=bz;cases bz
 ·have hout:=fin12 (fun hh=>by simp at hz2;omega)
  try simp only[ab,simprocAttr]
  refine .done (hK _ ?_);clear hK K;refine U.bL ?_;simp only[al,ab,simprocAttr];refine ⟨fun h =>?_,fun h =>?_⟩
  ·cases h
  refine U.exit ?_;try simp only[au,bP,simprocAttr]
  refine .ar (by decide +kernel) fun K hK =>?_;simp only[tX,ab,simprocAttr];obtain ⟨s1,s2,s3⟩:=na w f (.own 1 (de c i).2.length) rfl rfl rfl
  try simp only[s2,ab,simprocAttr]
  rw[eG s1 s2 (s3.trans (na (a5 0 0 0 0 0) 0 (.nils 7) rfl rfl rfl).2.2.symm)]
  try simp only[fT,ab,simprocAttr]
  refine .done (hK _ ?_);clear hK K;refine U.ret ?_;simp only[ab,simprocAttr]
  try simp only[s2,mq (α:=cu) 7 rfl rfl,cN,ab,simprocAttr]
  have hfin:(⟨w,f,(de c i).2⟩:bY)=nv c:=by rw[←hout,hw,hf];rfl
  rw[rR,hfin]
 have hi12:i<12:=by simp at hz2;omega
 try simp only[zp,cI,ab,simprocAttr]
 rw[amy _ 1 _ 63 7 (de c i).2 (by simp only[ab,simprocAttr]) rfl]
 try simp only[ab,simprocAttr]
 generalize hz3:decide (((de c i).2.length:Int)<9)=bz;cases bz
 ·have hout:=fin12 (fun hh=>by simp at hz3;omega)
  try simp only[cI,aZ,iw,cN,ab,simprocAttr]
  refine .done (hK _ ?_);clear hK K;refine U.bL ?_;simp only[al,ab,simprocAttr];refine ⟨fun h =>?_,fun h =>?_⟩
  ·cases h
  refine U.exit ?_;try simp only[au,bP,simprocAttr]
  refine .ar (by decide +kernel) fun K hK =>?_;simp only[tX,ab,simprocAttr];obtain ⟨s1,s2,s3⟩:=na w f (.own 1 (de c i).2.length) rfl rfl rfl
  try simp only[s2,ab,simprocAttr]
  rw[eG s1 s2 (s3.trans (na (a5 0 0 0 0 0) 0 (.nils 7) rfl rfl rfl).2.2.symm)]
  try simp only[fT,ab,simprocAttr]
  refine .done (hK _ ?_);clear hK K;refine U.ret ?_;simp only[ab,simprocAttr]
  try simp only[s2,mq (α:=cu) 7 rfl rfl,cN,ab,simprocAttr]
  have hfin:(⟨w,f,(de c i).2⟩:bY)=nv c:=by rw[←hout,hw,hf];rfl
  rw[rR,hfin]
 have hi9:(de c i).2.length<9:=by simp at hz3;omega
 try simp only[cI,aZ,iw,cN,ab,simprocAttr]
 refine .done (hK _ ?_);clear hK K;refine U.bL ?_;simp only[al,ab,simprocAttr];refine ⟨fun h =>?_,fun h =>?_⟩
 case refine_2.true.true.true.refine_2=>cases h
 have hbk:zu ⟨w,f,(de c i).2⟩:=by rw[hw,hf];exact aoi (Nb c (by omega))
 have hstep:de c (i+1)=sj c i (de c i):=by simp only[de,if_pos (show i<c.length∧(de c i).2.length<9 from ⟨hic,hi9⟩)]
 generalize de c i=p at *;obtain ⟨o,l⟩:=p;simp only at *;refine U.skip ?_;try simp only[au,simprocAttr]
 refine U.seq (U.block ?_);refine .ar (by decide +kernel) fun K hK =>?_;simp only[JX,ab,simprocAttr]
 try simp only[yN hic,ab,simprocAttr]
 refine .flat _ (gQ (c.getD i 0) 4 (by decide) (by decide)) rfl ?_
 try simp only[ab,simprocAttr]
 rw[cG _ (show -9223372036854775808≤1+c.getD i 0%4 by omega) (by omega),cG _ (by omega) (by omega)];refine .done (hK _ ?_);clear hK K;obtain ⟨o2,ho2⟩:∃ o2,o2=o+(1+c.getD i 0%4):=⟨_,rfl⟩
 rw[←ho2];refine .ar (by decide +kernel) fun K hK =>?_;simp only[JY,ab,simprocAttr]
 try simp only[yN hic,ab,simprocAttr]
 rw[cG ((i:Int)*2503) (by omega) (by omega)];refine .flat _ (gQ _ 15625 (by decide) (by decide)) rfl ?_
 try simp only[ab,simprocAttr]
 refine .lead _ (Ss _) ?_;have hmark:kQ (IntKind.i64.wrap (IntKind.i64.wrap (c.getD i 0*7)+i*2503)%15625) 6=(mE c i 0).mark:=rfl;rw[hmark];obtain ⟨mk,hmk⟩:∃ mk,mk=(mE c i 0).mark:=⟨_,rfl⟩
 rw[←hmk]
 try simp only[ET,TJ,abE,ap5,ab,simprocAttr]
 refine .done (hK _ ?_);clear hK K;obtain ⟨s1,s2,s3⟩:=na w f (.own 1 l.length) rfl rfl rfl;have hokm:ee mk=true:=by rw[hmk];exact Nd _
 refine .ar (by decide +kernel) fun K hK =>?_;simp only[JZ,ab,simprocAttr]
 try simp only[s2,mq (α:=cu) 7 rfl rfl,cI,rR,cN,ab,simprocAttr]
 refine .flat _ (St ⟨w,f,l⟩ mk hbk hokm) rfl ?_;obtain ⟨near,hnear⟩:∃ near,near=l.any (fun h=>kJ ⟨w,f,l⟩ h.mark mk):=⟨_,rfl⟩
 have hst:de c (i+1)=(o2,if near then l else l++[⟨o2,mk⟩]):=by
  rw[hstep,sj,hnear,ho2,hmk,hw,hf];rfl
 have hnear':(l.any fun g=>decide ((eX (js w g.mark mk) 6:Int)≤IntKind.i64.wrap (2*f)))=near:=by rw[hnear];rfl
 try simp only[hnear',ab,simprocAttr]
 refine .done (hK _ ?_);clear hK K;cases near
 ·rw[if_neg (by simp)] at hst;refine U.bL ?_;simp only[al,ab,simprocAttr];refine ⟨fun h =>?_,fun h =>?_⟩
  ·refine .bx (by decide +kernel) fun K hK =>?_;simp only[J0,ab,simprocAttr]
   try simp only[zp,nW 7 (⟨o2,mk⟩:cu) rfl,cI,cN,ab,simprocAttr]
   rw[m9 (α:=cu) 63 7 56 1 rfl rfl (by simp) (by simp[maxLen];omega) (by simp;omega)]
   try simp only[zp,cI,ab,simprocAttr]
   rw[eG (s:=none) (v:=.own 1 (l++[(⟨o2,mk⟩:cu)]).length) (old:=.own 1 l.length) rfl rfl rfl];have hset:(I.agg [enc w,.int .i64 f,.own 1 l.length]).dS [2] (.own 1 (l++[(⟨o2,mk⟩:cu)]).length)=.agg [enc w,.int .i64 f,.own 1 (l++[(⟨o2,mk⟩:cu)]).length]:=rfl
   try simp only[hset,ab,simprocAttr]
   refine .done (hK _ ?_);clear hK K;try simp only[au,bP]
   refine .bx (by decide +kernel) fun K hK =>?_;simp only[x9,ab,simprocAttr];refine .done (hK _ ?_);clear hK K;try simp only[au]
   refine ⟨i+1,by omega,by omega,?_⟩;rw[cG _ (by omega) (by omega),hst];refine aB.bE ?_ ?_ ?_ ?_ <;>simp[aQ,bt,br,aY,aq,aS,bT,I.only,I.bV,ah.only,c9,fI,bg]
  ·cases h
 ·rw[if_pos rfl] at hst;refine U.bL ?_;simp only[al,ab,simprocAttr];refine ⟨fun h =>?_,fun h =>?_⟩
  ·cases h
  refine U.skip ?_;try simp only[au,bP,simprocAttr]
  refine .bx (by decide +kernel) fun K hK =>?_;simp only[x9,ab,simprocAttr];refine .done (hK _ ?_);clear hK K;try simp only[au]
  refine ⟨i+1,by omega,by omega,?_⟩;rw[cG _ (by omega) (by omega),hst];refine aB.bE ?_ ?_ ?_ ?_ <;>simp[aQ,bt,br,aY,aq,aS,bT,I.only,I.bV,ah.only,c9,bg]
theorem dn.sr{aC:Bool}{ρ:List (Nat×Nat)}{k:Nat}{x:ah}{os0:List (Nat×ah)}{r c:I}(h1:∀ p,c.only p=true)(h2:aC=true→c.cY=true)(h3:r.only (aq [(k,.box c)])=true)(h4:aC=true→r.cY=true):dn aC ρ [(k,x)] os0 r [(k,.box c)]:=by
 refine ⟨fun m x h =>?_,fun m m' h h' _ =>?_,fun m h =>?_,fun m h h' =>?_,h3,h4⟩
 ·simp only[ao] at h;split at h
  ·simp only[u8] at h;subst h;exact ⟨h1 _,rfl,h2⟩
  ·cases h
 ·rw[cz.1 h,cz.1 h']
 ·rw[cz.1 h];exact cz.2 rfl
 ·rw[cz.1 h] at h';have:aq [(k,x)] k=true:=cz.2 rfl;rw[this] at h';cases h'
theorem dn.oQ{aC:Bool}{ρ:List (Nat×Nat)}{k k' d d':Nat}{x:ah}{os0:List (Nat×ah)}{r c c':I}(hk:bD ρ k=d)(hk':bD ρ k'=d')(hd:d≠d')(hne:k≠k')(h1:∀ p,c.only p=true)(h2:aC=true→c.cY=true)(h1':∀ p,c'.only p=true)(h2':aC=true→c'.cY=true)
  (h3:r.only (aq [(k,.box c),(k',.box c')])=true) (h4:aC=true→r.cY=true) (h5:ao os0 d=none) (h6:d<1000000):dn aC ρ [(k',x)] os0 r [(k,.box c),(k',.box c')]:=by
 have oQ:∀ m,aq [(k,ah.box c),(k',ah.box c')] m=true→m=k∨m=k':=fun m h=>by
  simp only[aq,ao] at h;split at h
  ·rename_i e;exact .inl e
  ·split at h
   ·rename_i e;exact .inr e
   ·cases h
 refine ⟨fun m y h =>?_,fun m m' h h' e =>?_,fun m h =>?_,fun m h h' =>?_,h3,h4⟩
 ·simp only[ao] at h;split at h
  ·simp only[u8] at h;subst h;exact ⟨h1 _,rfl,h2⟩
  ·split at h
   ·simp only[u8] at h;subst h;exact ⟨h1' _,rfl,h2'⟩
   ·cases h
 ·rcases oQ m h with rfl | rfl <;>rcases oQ m' h' with rfl | rfl
  ·rfl
  ·rw[hk,hk'] at e;exact absurd e hd
  ·rw[hk,hk'] at e;exact absurd e.symm hd
  ·rfl
 ·rw[cz.1 h];simp[aq,ao,Ne.symm hne]
 ·rcases oQ m h with rfl | rfl
  ·rw[hk];exact ⟨h5,h6⟩
  ·have:aq [(m,x)] m=true:=cz.2 rfl;rw[this] at h';cases h'
theorem uF(p:Nat→Bool)(l:List ak):(I.agg (l.map enc)).only p=true:=by simp only[I.only];exact c9 p l
theorem Bo(l:List ak)(i:Nat)(hi:i<l.length)(hlen:l.length≤60):aA Tryz.prog 78 [enc l,enc (i:Int)] (enc (eO l i)):=by
 have hne:l≠[]:=fun e=>by rw[e] at hi;simp at hi
 have hdl:=EI hi;refine aA.bp Tryz.func78 VE XI ZV (t7 rfl) (fun hwf W0 D0 E1 =>?_);simp only[DF,PC,bl,zz4];clear hwf;refine .ar (by decide +kernel) fun K hK =>?_;simp only[KI,ab,simprocAttr];refine .done (hK _ ?_);clear hK K;refine .ar (by decide +kernel) fun K hK =>?_;simp only[KJ,ab,simprocAttr];refine .bQ false [(7,6)] [] [enc l] (wO l) rfl (AY l (by omega)) fK.nil ⟨.inl ⟨(ij _ _).symm,bg _ _,du _⟩,trivial⟩ ?_ ?_
 ·rintro x os' (⟨_,h | h,rfl⟩ | ⟨_,k,rfl,rfl⟩)
  ·subst h;exact dn.nil (fun _=>rfl) (fun h=>by cases h)
  ·subst h;exact dn.nil (fun _=>rfl) (fun h=>by cases h)
  ·exact dn.oG (fun p=>uF p _) (fun h=>by cases h) rfl (fun h=>by cases h) rfl (by decide)
 ·rintro x os' (⟨hn,_,_⟩ | ⟨hn,k,rfl,rfl⟩)
  ·exact absurd hn hne
  try simp only[dR,fy,eP,zz9,zy3,ab,simprocAttr]
  rw[cG _ (by omega) (by omega)];have hp1:(i:Int)+1=((i+1:Nat):Int):=by omega
  simp only[hp1];refine .bQ false [(1000000,6)] (dR 1000000 l k) [.view 1000000 [] 17 0 l.length,enc (i:Int),enc ((i+1:Nat):Int)] (EG l i) rfl (Rs l i k hi (by omega)) ⟨?_,?_⟩ ⟨.inl ⟨?_,?_,rfl⟩,.inl ⟨rfl,rfl,rfl⟩,.inl ⟨rfl,rfl,rfl⟩,trivial⟩ ?_ ?_
  ·intro n x h;simp only[dR,ao] at h;split at h
   ·rename_i hn';subst hn';simp only[u8] at h;subst h;exact ⟨by simp only[fy,eP,ab,simprocAttr],uF _ _,rfl⟩
   ·cases h
  ·intro a b ha hb _;rw[cz.1 ha,cz.1 hb]
  ·try simp only[fy,simprocAttr]
  ·exact cz.2 rfl
  ·rintro x os' ⟨q,rfl,rfl⟩;exact dn.sr (fun p=>uF p _) (fun h=>by cases h) rfl (fun h=>by cases h)
  ·rintro x os' ⟨q,rfl,rfl⟩;rw[←hdl];generalize hL:eO l i=ay at hdl ⊢
   try simp only[dR,fy,eP,zz9,zy3,ab,simprocAttr]
   refine .done (hK _ ?_);clear hK K;refine U.ret ?_;simp only[ab,simprocAttr]
   try simp only[pc (α:=ak) (sz:=17) rfl,ab,simprocAttr]
   rw[hL];simp
theorem Rr(a b:List Int):aA Tryz.prog 134 [enc a,enc b] (enc (decide (a=b))):=by
 refine aA.bp Tryz.func134 Un Wl YC (t7 rfl) (fun hwf W0 D0 E1 =>?_);simp only[Cj,Oe,bl,zz4];have hlen:a.length≤maxLen:=((kL a).1 hwf.1).1;simp only[maxLen] at hlen;clear hwf;by_cases hl:a.length=b.length
 case neg =>
  have hn:((a.length:Int) != (b.length:Int))=true:=by simp;omega
  have R:=v6 @hn (v6 @aZ (v6 @aO @ab))
  repeat' ((first |refine U.aI (by decide +kernel) rfl fun K hK =>?_|(refine .aD [0,1,4,5,10,12,13,14,24] hK ?_;clear hK K)|(with_reducible refine .done (hK _ ?_);clear hK K)|refine U.of rfl ?_|(with_reducible refine al.aH (fun h =>?_) (fun h =>?_) <;>try simp only[h])) <;>try simp only[aJ,R,simprocAttr])
  all_goals clear R
  have:¬ a=b:=fun e=>hl (by rw[e]);simp[this]
 have hn:((a.length:Int) != (b.length:Int))=false:=by simp;omega
 have R:=v6 @hn (v6 @aZ (v6 @aO @ab))
 repeat' ((first |refine U.aI (by decide +kernel) rfl fun K hK =>?_|(refine .aD [0,1,4,5,10,12,13,14,24] hK ?_;clear hK K)|(with_reducible refine .done (hK _ ?_);clear hK K)|refine U.of rfl ?_|(with_reducible refine al.aH (fun h =>?_) (fun h =>?_) <;>try simp only[h])) <;>try simp only[aJ,R,simprocAttr])
 all_goals clear R
 refine U.loop (fun i:Nat=>aw [(0,enc a),(1,enc b),(12,.int .i64 a.length),(13,.int .i64 i)] []) (fun i=>i≤a.length∧∀ k,k<i→a[k]?=b[k]?) (fun i=>a.length-i) 0 ⟨zw3 _,fun k h=>by omega⟩ ?_ (fun i hi =>?_)
 ·refine aB.bE ?_ ?_ ?_ ?_ <;>simp[aQ,bt,br,aY,aS,I.only,bg]
 obtain ⟨hi1,hi2⟩:=hi;by_cases hlt:i<a.length
 ·have hc:=fw hlt;have he:=fun A=>fm (A:=A) 1 hlt rfl;have hlt2:i<b.length:=by omega
  have he2:=fun A=>fm (A:=A) 1 hlt2 rfl;have hw:=ea (i:=i) (by omega);rcases hp:(a[i] != b[i])
  ·have R:=v6 @hc (v6 @he (v6 @he2 (v6 @hp (v6 @hw (v6 @iw (v6 @aZ @ab))))))
   repeat' ((first |refine U.aI (by decide +kernel) rfl fun K hK =>?_|(refine .aD [0,1,4,5,10,12,13,14,24] hK ?_;clear hK K)|(with_reducible refine .done (hK _ ?_);clear hK K)|refine U.of rfl ?_|(with_reducible refine al.aH (fun h =>?_) (fun h =>?_) <;>try simp only[h])) <;>try simp only[aJ,R,simprocAttr])
   all_goals clear R
   refine ⟨i+1,⟨by omega,fun k hk =>?_⟩,by omega,?_⟩
   ·by_cases e:k=i
    ·subst e;have:a[k]=b[k]:=by simpa using hp
     simp[hlt,hlt2,this]
    ·exact hi2 k (by omega)
   ·refine aB.bE ?_ ?_ ?_ ?_ <;>simp[aQ,bt,br,aY,aS,I.only,bg]
  ·have R:=v6 @hc (v6 @he (v6 @he2 (v6 @hp (v6 @iw (v6 @aZ @ab)))))
   repeat' ((first |refine U.aI (by decide +kernel) rfl fun K hK =>?_|(refine .aD [0,1,4,5,10,12,13,14,24] hK ?_;clear hK K)|(with_reducible refine .done (hK _ ?_);clear hK K)|refine U.of rfl ?_|(with_reducible refine al.aH (fun h =>?_) (fun h =>?_) <;>try simp only[h])) <;>try simp only[aJ,R,simprocAttr])
   all_goals clear R
   have:¬ a=b:=fun e=>by subst e;simp at hp
   simp[this]
 ·have hc:=fP hlt;have R:=v6 @hc (v6 @aZ @ab)
  repeat' ((first |refine U.aI (by decide +kernel) rfl fun K hK =>?_|(refine .aD [0,1,4,5,10,12,13,14,24] hK ?_;clear hK K)|(with_reducible refine .done (hK _ ?_);clear hK K)|refine U.of rfl ?_|(with_reducible refine al.aH (fun h =>?_) (fun h =>?_) <;>try simp only[h])) <;>try simp only[aJ,R,simprocAttr])
  all_goals clear R
  have:a=b:=List.ext_getElem? fun k=>by
   by_cases hk:k<i
   ·exact hi2 k hk
   ·rw[List.getElem?_eq_none (by omega),List.getElem?_eq_none (by omega)]
  simp[this]
def tm(b:aP):aX 8 Int:=⟨[b.no,b.dF,b.fg,b.bU,b.ju,b.born,b.dW,if b.found then 1 else 0],rfl⟩
theorem TI(a b c d e f g h:Int):(dN [.int .i64 0,.int .i64 0,.int .i64 0,.int .i64 0,.int .i64 0,.int .i64 0,.int .i64 0,.int .i64 0] [(0,.int .i64 a),(1,.int .i64 b),(2,.int .i64 c),(3,.int .i64 d),(4,.int .i64 e),(5,.int .i64 f),(6,.int .i64 g),(7,.int .i64 h)])=some [.int .i64 a,.int .i64 b,.int .i64 c,.int .i64 d,.int .i64 e,.int .i64 f,.int .i64 g,.int .i64 h]:=by simp[dN,I.cq,I.size]
theorem apW{A:af}{n:Nat}{w:I}{a b c d e f g h a' b' c' d' e' f' g' h':Int}{rest:List aE} : dT A (some 8) n [] w (.agg [.int .i64 a,.int .i64 b,.int .i64 c,.int .i64 d,.int .i64 e,.int .i64 f,.int .i64 g,.int .i64 h]) rest (some (.agg [.int .i64 a',.int .i64 b',.int .i64 c',.int .i64 d',.int .i64 e',.int .i64 f',.int .i64 g',.int .i64 h'])) =
  aF rest (A.aU n (.box (.agg [.int .i64 a,.int .i64 b,.int .i64 c,.int .i64 d,.int .i64 e,.int .i64 f,.int .i64 g,.int .i64 h]))):=by
 refine (eG (s:=some 8) (by rfl) (by rfl) (by rfl)).trans ?_;rw[fT]
theorem aos{a b c d e f g h:Int} : cj (some 8) (.agg [.int .i64 a,.int .i64 b,.int .i64 c,.int .i64 d,.int .i64 e,.int .i64 f,.int .i64 g,.int .i64 h])=true:=rfl
theorem AX(b:aP):aA Tryz.prog 133 [.ref (enc (⟨b⟩:eQ))] (enc (tm b)):=by
 refine aA.bp Tryz.func133 Um Wk YB (t7 rfl) (fun hwf W0 D0 E1 =>?_);simp only[Ci,Od,bl];clear hwf;rcases hf:b.found
 all_goals
  have R:=v6 @hf (v6 @TI (v6 @apW (v6 @aos dG)))
  repeat' ((first |refine U.aI (by decide +kernel) rfl fun K hK =>?_|(refine .aD [0,2,3,8] hK ?_;clear hK K)|(with_reducible refine .done (hK _ ?_);clear hK K)|refine U.of rfl ?_|(with_reducible refine al.aH (fun h =>?_) (fun h =>?_) <;>try simp only[h])) <;>try simp only[aJ,R,simprocAttr])
  all_goals clear R
  simp[tm,hf];rfl
def iR:Option aP→I
 |none=>.nilp
 |some b=>.ref (enc (⟨b⟩:eQ))
def jM(m:bY):Option aP→Option aP→Bool
 |some a,some b=>decide ((tm a).l=(tm b).l)&&decide ((jG m a.bS).1=(jG m b.bS).1)
 |none,none=>true
 |_,_=>false
theorem zO:nE false (some true) (some false)=some (.bool false):=rfl
theorem Bn(m:bY)(x y:Option aP):aA Tryz.prog 77 [enc m,iR x,iR y] (enc (jM m x y)):=by
 rcases x with _ | a
 ·rcases y with _ | b
  all_goals
   simp only[iR,jM];refine aA.bp Tryz.func77 wF wI wV (t7 rfl) (fun hwf W0 D0 E1 =>?_);simp only[tu,u9,bl,zz4,Nat.reduceAdd];clear hwf;have R:=v6 @zO (v6 @qt (v6 @fp dG))
   repeat' ((first |(with_reducible refine .guard (fun hb =>?_) (fun hb =>?_) <;>try simp only[hb])|refine U.aI (by decide +kernel) rfl fun K hK =>?_|(refine .aD [0,1,2,3,6,7,13] hK ?_;clear hK K)|(with_reducible refine .done (hK _ ?_);clear hK K)|refine U.of rfl ?_|(with_reducible refine al.aH (fun h =>?_) (fun h =>?_) <;>try simp only[h])) <;>try simp only[aJ,R,simprocAttr])
   all_goals clear R
 rcases y with _ | b
 ·simp only[iR,jM];refine aA.bp Tryz.func77 wF wI wV (t7 rfl) (fun hwf W0 D0 E1 =>?_);simp only[tu,u9,bl,zz4,Nat.reduceAdd];clear hwf;have R:=v6 @zO (v6 @qt (v6 @fp dG))
  repeat' ((first |(with_reducible refine .guard (fun hb =>?_) (fun hb =>?_) <;>try simp only[hb])|refine U.aI (by decide +kernel) rfl fun K hK =>?_|(refine .aD [0,1,2,3,6,7,13] hK ?_;clear hK K)|(with_reducible refine .done (hK _ ?_);clear hK K)|refine U.of rfl ?_|(with_reducible refine al.aH (fun h =>?_) (fun h =>?_) <;>try simp only[h])) <;>try simp only[aJ,R,simprocAttr])
  all_goals clear R
 simp only[iR,jM];refine aA.bp Tryz.func77 wF wI wV (t7 rfl) (fun hwf W0 D0 E1 =>?_);simp only[tu,u9,bl,zz4,Nat.reduceAdd];clear hwf;have ha:=sZ m a;have hyB:=sZ m b;have h3:=AX a;have h4:=AX b;have R:=v6 @zO (v6 @qt (v6 @fp dG))
 repeat' ((first |(with_reducible refine .guard (fun hb =>?_) (fun hb =>?_) <;>try simp only[hb])|refine U.aI (by decide +kernel) rfl fun K hK =>?_|refine .flat _ (h3) rfl ?_|refine .flat _ (h4) rfl ?_|refine .lead _ (ha) ?_|refine .lead _ (hyB) ?_|refine .flat _ (Rr _ _) rfl ?_|(refine .aD [0,1,2,3,6,7,13] hK ?_;clear hK K)|(with_reducible refine .done (hK _ ?_);clear hK K)|refine U.of rfl ?_|(with_reducible refine al.aH (fun h =>?_) (fun h =>?_) <;>try simp only[h])) <;>try simp only[aJ,R,zz9,simprocAttr])
 all_goals clear R
 all_goals simp_all
def vl(m:bY)(l:List ak)(no known:Int)(i:Nat):Bool := !jM m (cM (cA l 100000 known) no) (cM (cA (eO l i) 100000 known) no)
def kb(m:bY)(l:List ak)(no known:Int)(n:Nat):List Item:=((List.range n).filter (vl m l no known)).map fun i=>(ae l i).bd
theorem apk(m:bY)(l:List ak)(no known:Int)(n:Nat):kb m l no known (n+1)=kb m l no known n++if vl m l no known n then [(ae l n).bd] else []:=by
 simp only[kb,List.range_succ,List.filter_append,zx4,zx8,zu2]
 congr 1
 split <;>rfl
theorem apj(m:bY)(l:List ak)(no known:Int)(n:Nat):(kb m l no known n).length≤n:=by
 simp only[kb,zy1];have:=zv5 (vl m l no known) (List.range n);simpa using this
def vm(m:bY)(l:List ak)(no known:Int):List Item×Int:=if (l7 m l no known).2=0 then (kb m l no known l.length,0) else ([],(l7 m l no known).2)
theorem Ti{m:bY}{l:List ak}{no known:Int}(h:(l7 m l no known).2=0):c8 l=true:=by
 simp only[l7] at h
 repeat' split at h
 all_goals first | (exact ng (by assumption)) | (simp_all;done) | exact ng h
theorem Ns(p:Nat→Bool)(x:Option aP):(iR x).only p=true:=by cases x <;>simp[iR,I.only,bg]
theorem oH{l:List ak} : c8 l=true↔l.length≤60∧(∀ x∈l,gB x=true)∧l.Pairwise fun a b=>before a.bd b.bd=true:=by
 constructor
 ·intro h;refine ⟨kD h,fun x hx =>?_,List.pairwise_iff_getElem.2 fun i j hi hj hij =>?_⟩
  ·obtain ⟨i,hi,rfl⟩:=zu3 hx;have:=zx h hi
   rwa [←fN hi] at this
  ·have:=M6 h hij hj
   rwa [←fN hi,←fN hj] at this
 ·rintro ⟨h1,h2,h3⟩;refine M4 h1 fun i hi =>?_;simp only[kZ,zz3,Bool.or_eq_true,decide_eq_true_eq];refine ⟨by rw[←fN hi];exact h2 _ (zx5 hi),?_⟩;by_cases h0:i=0
  ·exact .inl h0
  ·right
   have:=List.pairwise_iff_getElem.1 h3 (i-1) i (by omega) hi (by omega)
   rwa [fN,fN] at this
theorem zy{l l':List ak}(hs:l'.Sublist l)(h:c8 l=true):c8 l'=true:=by
 obtain ⟨h1,h2,h3⟩:=oH.1 h;exact oH.2 ⟨zu4 hs.length_le h1,fun x hx=>h2 x (hs.subset hx),h3.sublist hs⟩
theorem abc(l:List ak)(i:Nat):(eO l i).Sublist l:=by
 have:=(zx0 i l)
 simp only[eO]
 conv=>rhs;rw[←this]
 refine List.Sublist.append_left ?_ _;rw[←List.drop_drop];exact List.drop_sublist _ _
theorem M3{l:List ak}(hok:c8 l=true)(i:Nat):c8 (eO l i)=true:=zy (abc l i) hok
theorem RZ(m:bY)(l:List ak)(no known:Int):aA Tryz.prog 18 [enc m,enc l,enc no,enc known] (.tuple [enc (vm m l no known).1,enc (vm m l no known).2]):=by
 refine aA.bp Tryz.func18 UY WZ Ze (t7 rfl) (fun hwf W0 D0 E1 =>?_);simp only[CV,OU,bl,zz4,Nat.reduceAdd];clear hwf;have hC:=vO m l no known;simp only[vm];have hok0:=Ti (m:=m) (l:=l) (no:=no) (known:=known);generalize l7 m l no known=e at hC hok0 ⊢;obtain ⟨e1,e2⟩:=e;simp only at hC hok0 ⊢;by_cases he:e2=0
 case neg =>
  have hn:=oF he;have R:=v6 @hn (v6 @he (v6 @fp dG))
  repeat' ((first |refine U.aI (by decide +kernel) rfl fun K hK =>?_|refine .lead _ (hC) ?_|(refine .aD [0,1,2,3,4,8,9,11,12,13,14,15,25,35,36,37,38,55] hK ?_;clear hK K)|(with_reducible refine .done (hK _ ?_);clear hK K)|refine U.of rfl ?_|(with_reducible refine al.aH (fun h =>?_) (fun h =>?_) <;>try simp only[h])) <;>try simp only[aJ,R,simprocAttr])
  all_goals clear R
  all_goals rfl
 have hn:=oE he;have hok:=hok0 he;subst he;have hF:=oS l known hok;have hk:=qF (cA l 100000 known) no;have hx:gN (.i .i64) .nilp (.int .i64 no) (dA (cA l 100000 known)) ((cA l 100000 known).map fun b=>.ref (enc (⟨b⟩:eQ)))=some (iR (cM (cA l 100000 known) no),(cM (cA l 100000 known) no).isSome):=by
  rw[hk];cases cM (cA l 100000 known) no <;>rfl
 have hlen:=kD hok;have R:=v6 @hn (v6 @hx (v6 @fp dG))
 repeat' ((first |refine U.aI (by decide +kernel) rfl fun K hK =>?_|refine .lead _ (hC) ?_|refine .lead _ (hF) ?_|(refine .aD [0,1,2,3,4,8,9,11,12,13,14,15,25,35,36,37,38,55] hK ?_;clear hK K)|(with_reducible refine .done (hK _ ?_);clear hK K)|refine U.of rfl ?_|(with_reducible refine al.aH (fun h =>?_) (fun h =>?_) <;>try simp only[h])) <;>try simp only[aJ,R,simprocAttr])
 all_goals clear R
 refine U.loop (fun i:Nat=>aw [(1,enc l),(2,.int .i64 no),(3,.int .i64 known),(4,.ptr 4 []),(12,iR (cM (cA l 100000 known) no)),(13,.own 913 (kb m l no known i).length),(35,enc l),(36,.int .i64 l.length),(37,.int .i64 i)] [(4,.box (enc m)),(913,.b9 65 2 ((kb m l no known i).map enc))]) (fun i=>i≤l.length) (fun i=>l.length-i) 0 (zw3 _) ?_ (fun i hi =>?_)
 ·refine aB.p9 13 913 65 2 2 rfl rfl ?_;simp only[kb,List.range_zero,zu2,zx1,zv0];refine aB.bE ?_ ?_ ?_ ?_ <;>simp[*,aQ,bt,br,aY,aq,aS,bT,I.only,I.bV,ah.only,bg,Ns]
 have hRl:=apj m l no known i;by_cases hlt:i<l.length
 ·have hc:=fw hlt;have he:=fun A=>kv (A:=A) hlt;have hw:=ea (i:=i) (by omega);have hD:=Bo l i hlt hlen;have hokd:=M3 hok i;have hF2:=oS (eO l i) known hokd;have hk2:=qF (cA (eO l i) 100000 known) no;have hx2:gN (.i .i64) .nilp (.int .i64 no) (dA (cA (eO l i) 100000 known)) ((cA (eO l i) 100000 known).map fun b=>.ref (enc (⟨b⟩:eQ)))=some (iR (cM (cA (eO l i) 100000 known) no),(cM (cA (eO l i) 100000 known) no).isSome):=by
   rw[hk2];cases cM (cA (eO l i) 100000 known) no <;>rfl
  have hS:=Bn m (cM (cA l 100000 known) no) (cM (cA (eO l i) 100000 known) no);have hsu:=apk m l no known i;have hp:vl m l no known i = !jM m (cM (cA l 100000 known) no) (cM (cA (eO l i) 100000 known) no):=rfl;rw[hp] at hsu;generalize jM m (cM (cA l 100000 known) no) (cM (cA (eO l i) 100000 known) no)=b at hS hsu;have happ:=fun (A:af) d rest=>m9 (α:=Item) (A:=A) (d:=d) 65 2 16 913 (l:=(kb m l no known i).length) (es:=kb m l no known i) (ys:=[(ae l i).bd]) (rest:=rest) rfl rfl (by simp) (by simp[maxLen];omega) (by simp;omega);have hbs:=nW 2 (ae l i).bd rfl;have hol:(∀ aC A x,bC aC A (iR x)=some (iR x)):=fun aC A x=>by cases x <;>simp[iR,bC,dL]
  cases b
  all_goals
   simp only[Bool.not_true,Bool.not_false,if_true,zz6,if_false,zx6] at hsu;have R:=v6 @hc (v6 @he (v6 @hw (v6 @hx2 (v6 @happ (v6 @hbs (v6 @hol (v6 @fp dG)))))))
   repeat' ((first |refine U.aI (by decide +kernel) rfl fun K hK =>?_|refine .lead _ (hD) ?_|refine .lead _ (hF2) ?_|refine .flat _ (hS) rfl ?_|(refine .aD [0,1,2,3,4,8,9,11,12,13,14,15,25,35,36,37,38,55] hK ?_;clear hK K)|(with_reducible refine .done (hK _ ?_);clear hK K)|refine U.of rfl ?_|(with_reducible refine al.aH (fun h =>?_) (fun h =>?_) <;>try simp only[h])) <;>try simp only[aJ,R,simprocAttr])
   all_goals clear R
   refine ⟨i+1,by omega,by omega,?_⟩;simp only[hsu];refine aB.bE ?_ ?_ ?_ ?_ <;>simp[*,aQ,bt,br,aY,aq,aS,bT,I.only,I.bV,ah.only,c9,fI,bg,Ns]
 ·have hc:=fP hlt;have hie:i=l.length:=by omega
  subst hie;have hfo:pb (kb m l no known l.length).length (some (.b9 65 2 ((kb m l no known l.length).map enc)))=some (enc (kb m l no known l.length)):=mq 2 rfl rfl;have R:=v6 @hc (v6 @hfo (v6 @aZ (v6 @aO @ab)))
  repeat' ((first |refine U.aI (by decide +kernel) rfl fun K hK =>?_|(refine .aD [0,1,2,3,4,8,9,11,12,13,14,15,25,35,36,37,38,55] hK ?_;clear hK K)|(with_reducible refine .done (hK _ ?_);clear hK K)|refine U.of rfl ?_|(with_reducible refine al.aH (fun h =>?_) (fun h =>?_) <;>try simp only[h])) <;>try simp only[aJ,R,simprocAttr])
  all_goals clear R
theorem Sc(a b:List Item):aA Tryz.prog 21 [enc a,enc b] (enc (decide (a=b))):=by
 refine aA.bp Tryz.func21 U9 Xd Zq (t7 rfl) (fun hwf W0 D0 E1 =>?_);simp only[C7,O6,bl,zz4];have hlen:a.length≤maxLen:=((kL a).1 hwf.1).1;simp only[maxLen] at hlen;clear hwf;by_cases hl:a.length=b.length
 case neg =>
  have hn:((a.length:Int) != (b.length:Int))=true:=by simp;omega
  have R:=v6 @hn (v6 @aZ (v6 @aO @ab))
  repeat' ((first |refine U.aI (by decide +kernel) rfl fun K hK =>?_|(refine .aD [0,1,4,5,10,14,25] hK ?_;clear hK K)|(with_reducible refine .done (hK _ ?_);clear hK K)|refine U.of rfl ?_|(with_reducible refine al.aH (fun h =>?_) (fun h =>?_) <;>try simp only[h])) <;>try simp only[aJ,R,simprocAttr])
  all_goals clear R
  have:¬ a=b:=fun e=>hl (by rw[e]);simp[this]
 have hn:((a.length:Int) != (b.length:Int))=false:=by simp;omega
 have R:=v6 @hn (v6 @aZ (v6 @aO @ab))
 repeat' ((first |refine U.aI (by decide +kernel) rfl fun K hK =>?_|(refine .aD [0,1,4,5,10,14,25] hK ?_;clear hK K)|(with_reducible refine .done (hK _ ?_);clear hK K)|refine U.of rfl ?_|(with_reducible refine al.aH (fun h =>?_) (fun h =>?_) <;>try simp only[h])) <;>try simp only[aJ,R,simprocAttr])
 all_goals clear R
 refine U.loop (fun i:Nat=>aw [(0,enc a),(1,enc b),(5,.int .i64 i)] []) (fun i=>i≤a.length∧∀ k,k<i→a[k]?=b[k]?) (fun i=>a.length-i) 0 ⟨zw3 _,fun k h=>by omega⟩ ?_ (fun i hi =>?_)
 ·refine aB.bE ?_ ?_ ?_ ?_ <;>simp[aQ,bt,br,aY,aS,I.only,bg]
 obtain ⟨hi1,hi2⟩:=hi;by_cases hlt:i<a.length
 ·have hc:=fw hlt;have he:=fun A=>fm (A:=A) 2 hlt rfl;have hlt2:i<b.length:=by omega
  have he2:=fun A=>fm (A:=A) 2 hlt2 rfl;have hw:=ea (i:=i) (by omega);rcases hp:decide (a[i]=b[i])
  ·have R:=v6 @hc (v6 @he (v6 @he2 (v6 @hp (v6 @iw (v6 @aZ (v6 @aO @ab))))))
   repeat' ((first |refine U.aI (by decide +kernel) rfl fun K hK =>?_|(refine .aD [0,1,4,5,10,14,25] hK ?_;clear hK K)|(with_reducible refine .done (hK _ ?_);clear hK K)|refine U.of rfl ?_|(with_reducible refine al.aH (fun h =>?_) (fun h =>?_) <;>try simp only[h])) <;>try simp only[aJ,R,simprocAttr])
   all_goals clear R
   have:¬ a=b:=fun e=>by subst e;simp at hp
   simp[this]
  ·have R:=v6 @hc (v6 @he (v6 @he2 (v6 @hp (v6 @hw (v6 @iw (v6 @aZ (v6 @aO @ab)))))))
   repeat' ((first |refine U.aI (by decide +kernel) rfl fun K hK =>?_|(refine .aD [0,1,4,5,10,14,25] hK ?_;clear hK K)|(with_reducible refine .done (hK _ ?_);clear hK K)|refine U.of rfl ?_|(with_reducible refine al.aH (fun h =>?_) (fun h =>?_) <;>try simp only[h])) <;>try simp only[aJ,R,simprocAttr])
   all_goals clear R
   refine ⟨i+1,⟨by omega,fun k hk =>?_⟩,by omega,?_⟩
   ·by_cases e:k=i
    ·subst e;have:a[k]=b[k]:=by simpa using hp
     simp[hlt,hlt2,this]
    ·exact hi2 k (by omega)
   ·refine aB.bE ?_ ?_ ?_ ?_ <;>simp[aQ,bt,br,aY,aS,I.only,bg]
 ·have hc:=fP hlt;have R:=v6 @hc (v6 @aZ (v6 @aO @ab))
  repeat' ((first |refine U.aI (by decide +kernel) rfl fun K hK =>?_|(refine .aD [0,1,4,5,10,14,25] hK ?_;clear hK K)|(with_reducible refine .done (hK _ ?_);clear hK K)|refine U.of rfl ?_|(with_reducible refine al.aH (fun h =>?_) (fun h =>?_) <;>try simp only[h])) <;>try simp only[aJ,R,simprocAttr])
  all_goals clear R
  have:a=b:=List.ext_getElem? fun k=>by
   by_cases hk:k<i
   ·exact hi2 k hk
   ·rw[List.getElem?_eq_none (by omega),List.getElem?_eq_none (by omega)]
  simp[this]
def kl(a b c d e f:Int):aX 6 Int:=⟨[a,b,c,d,e,f],rfl⟩
def Td(a b c d e:Int):aX 5 Int:=⟨[a,b,c,d,e],rfl⟩
def mi(n k d kn b fg s o:Int)(r:aX 6 Int)(f:Int):ak:=⟨⟨0,n⟩,k,d,kn,b,fg,s,o,r,⟨0,f⟩⟩
def jA:List ak:=[mi 0 1 1 1 10 0 3 2 (kl 0 0 0 0 0 0) 0,mi 1 1 5 5 11 10 3 2 (kl 0 0 0 0 0 0) 0,mi 2 2 6 6 20 0 3 0 (kl 0 0 0 0 0 0) 0,mi 3 4 6 6 20 0 0 0 (kl 31 1 1 1 1 31) 0,mi 4 3 7 7 10 0 0 1 (kl 0 0 0 0 0 0) 0,
 mi 5 4 6 9 20 0 0 0 (kl 24 1 1 1 1 31) 0,mi 6 5 10 10 20 0 0 3 (kl 0 0 0 0 0 0) 0,mi 7 4 8 11 11 0 0 0 (kl 1 1 1 1 1 1) 0,mi 8 6 12 12 10 0 0 0 (kl 0 0 0 0 0 0) 0,mi 9 0 0 14 0 0 0 0 (kl 0 0 0 0 0 0) 5]
def mj:bY:=⟨Td 1 3 4 24 24,0,[⟨1,kl 0 0 0 0 0 0⟩,⟨2,kl 2 0 0 0 0 0⟩,⟨3,kl 3 0 0 0 0 2⟩]⟩
theorem Sn:aA Tryz.prog 81 [] (enc jA):=by
 refine aA.bp Tryz.func81 VF XJ ZW (t7 rfl) (fun hwf W0 D0 E1 =>?_);simp only[DG,PD,bl];clear hwf;refine .ar (by decide +kernel) fun K hK =>?_;simp only[KK,ab,simprocAttr];refine .done (hK _ ?_);clear hK K;refine .ar (by decide +kernel) fun K hK =>?_;simp only[KL,ab,simprocAttr]
 try simp only[dN,I.cq,I.size,I.sizes,List.set_cons_zero,List.set_cons_succ,List.getElem?_cons_zero,List.getElem?_cons_succ,and_self,ab,simprocAttr]
 simp only[iO];rw[if_pos ⟨by rfl,by rfl⟩]
 try simp only[ab,simprocAttr]
 refine .done (hK _ ?_);clear hK K;refine U.ret ?_;simp only[ab,simprocAttr]
 try simp only[zw7,ab,simprocAttr]
 rfl
theorem Sp:aA Tryz.prog 82 [] (enc mj):=by
 refine aA.bp Tryz.func82 VG XK ZX (t7 rfl) (fun hwf W0 D0 E1 =>?_);simp only[DH,PE,bl];clear hwf;refine .ar (by decide +kernel) fun K hK =>?_;simp only[KM,ab,simprocAttr];refine .done (hK _ ?_);clear hK K;refine .ar (by decide +kernel) fun K hK =>?_;simp only[KN,ab,simprocAttr]
 try simp only[dN,I.cq,I.size,I.sizes,List.set_cons_zero,List.set_cons_succ,List.getElem?_cons_zero,List.getElem?_cons_succ,and_self,ab,simprocAttr]
 simp only[iO];rw[if_pos ⟨by rfl,by rfl⟩]
 try simp only[dN,I.cq,I.size,I.sizes,List.set_cons_zero,List.set_cons_succ,List.getElem?_cons_zero,List.getElem?_cons_succ,and_self,ab,simprocAttr]
 rw[eG (by rfl) (by rfl) (by rfl)]
 try simp only[fT,ab,simprocAttr]
 refine .done (hK _ ?_);clear hK K;refine U.ret ?_;simp only[ab,simprocAttr];rw[if_pos (by rfl)]
 try simp only[zw7,ab,simprocAttr]
 rfl
def pq(x:Int):List Int→List Int
 | []=>[x]
 |y::l=>if x≤y then x::y::l else y::pq x l
def mA:List Int→List Int
 | []=>[]
 |x::l=>pq x (mA l)
theorem yH(x:Int):∀ l,(pq x l).Perm (x::l)
 | []=>.refl _
 |y::l=>by
  simp only[pq];split
  ·exact .refl _
  ·exact ((yH x l).cons y).trans (.swap x y l)
theorem LZ(x:Int):∀ l:List Int,l.Pairwise (· ≤ ·)→(pq x l).Pairwise (· ≤ ·)
 | [],_=>by simp[pq]
 |y::l,h=>by
  obtain ⟨h1,h2⟩:=zw6.1 h;simp only[pq];split
  ·rename_i hxy;refine zw6.2 ⟨fun z hz =>?_,h⟩;rcases zx2.1 hz with rfl | hz
   ·exact hxy
   ·have:=h1 z hz;omega
  ·refine zw6.2 ⟨fun z hz =>?_,LZ x l h2⟩;rcases zx2.1 ((yH x l).mem_iff.1 hz) with rfl | hz
   ·omega
   ·exact h1 z hz
theorem L7:∀ l,(mA l).Perm l
 | []=>.refl _
 |x::l=>(yH x _).trans ((L7 l).cons x)
theorem L8:∀ l,(mA l).Pairwise (· ≤ ·)
 | []=>.nil
 |x::l=>LZ x _ (L8 l)
theorem apV{a b:List Int}(ha:a.Pairwise (· ≤ ·))(hb:b.Pairwise (· ≤ ·))(h:a.Perm b):a=b :=
 List.Perm.eq_of_pairwise (fun x y _ _ h k=>Int.le_antisymm h k) ha hb h
theorem Qz(l:List Int):(cS l).Pairwise (· ≤ ·):=by
 have hx:=List.pairwise_mergeSort (le:=fun x y:Int=>decide (x≤y)) (by intro a b c;simp;omega) (by intro a b;simp;omega) l;exact hx.imp fun {a b} h=>by simpa using h
theorem lT(l:List Int):(cS l).Perm l:=List.mergeSort_perm _ _
theorem Qy(l:List Int):cS l=mA l:=apV (Qz l) (L8 l) ((lT l).trans (L7 l).symm)
theorem abS:og jA 10 6 7=(2,0):=by decide +kernel
theorem abT:l7 mj jA 20 9=([3],0):=by decide +kernel
theorem abU:l7 mj jA 20 14=([1,2,3],0):=by decide +kernel
theorem abV:sS mj jA 11=([11],0):=by
 simp only[sS,Qy];decide +kernel
theorem abW:qk jA 2 3 7 7=(1,0):=by decide +kernel
theorem abX:oW jA 12 12=([11,20],0):=by
 simp only[oW,Qy];decide +kernel
theorem abY:vm mj jA 20 9=([⟨0,2⟩,⟨0,5⟩],0):=by decide +kernel
theorem TK(b:Int):dN [.int .i64 0,.int .i64 0] [(1,.int .i64 b)]=some [.int .i64 0,.int .i64 b]:=by simp[dN,I.cq,I.size]
theorem TW(a b c d:Int):iO 2 (some [.agg [.int .i64 a,.int .i64 b],.agg [.int .i64 c,.int .i64 d]])=some (enc ([⟨a,b⟩,⟨c,d⟩]:List Item)):=nc (ys:=([⟨a,b⟩,⟨c,d⟩]:List Item)) 2 rfl
theorem TV(a b c:Int):iO 1 (some [.int .i64 a,.int .i64 b,.int .i64 c])=some (enc [a,b,c]):=nc (ys:=[a,b,c]) 1 rfl
theorem ap1{A:af}{n:Nat}{b:I}(m:bY)(x y z:I){rest:List aE}(h:I.aV (.agg [x,y,z])=Enc.aV bY):dT A (some 7) n [] b (enc m) rest (some (.agg [x,y,z]))=aF rest (A.aU n (.box (enc m))):=by
 refine (eG (s:=some 7) (du _) (by rw[fW];rfl) ((eT m).trans h.symm)).trans ?_;rw[fT]
theorem Bf:aA Tryz.prog 22 [] (enc true):=by
 have h1:=Bj jA 10 6 7;have h2:=vO mj jA 20 9;have h3:=vO mj jA 20 14;have h4:=RJ mj jA 11;have h5:=Bk jA 2 3 7 7;have h6:=Bi jA 12 12;have h7:=RZ mj jA 20 9;rw[abS] at h1;rw[abT] at h2;rw[abU] at h3;rw[abV] at h4;rw[abW] at h5;rw[abX] at h6;rw[abY] at h7;simp only at h1 h2 h3 h4 h5 h6 h7;have h8:=fun a b=>Bc a b;refine aA.bp Tryz.func22 Ve Xi Zv (t7 rfl) (fun hwf W0 D0 E1 =>?_);simp only[Dc,Pb,bl];clear hwf;have hst:=fun (A:af) (rest:List aE)=>ap1 (A:=A) (n:=2) (b:=.agg [.agg [.int .i64 0,.int .i64 0,.int .i64 0,.int .i64 0,.int .i64 0],.int .i64 0,.nils 7]) mj (.agg [.int .i64 0,.int .i64 0,.int .i64 0,.int .i64 0,.int .i64 0]) (.int .i64 0) (.nils 7) (rest:=rest) rfl;have q1:((2:Int)==2)=true:=rfl;have q2:((1:Int)==1)=true:=rfl;have q3:((0:Int)==0)=true:=rfl;have R:=v6 @hst (v6 @q1 (v6 @q2 (v6 @q3 (v6 @fp (v6 @TK (v6 @TW (v6 @nd (v6 @rL (v6 @TV (v6 @aO @ab))))))))))
 repeat' ((first |(with_reducible refine .guard (fun hb =>?_) (fun hb =>?_) <;>try simp only[hb])|refine U.aI (by decide +kernel) rfl fun K hK =>?_|refine .lead _ (Sn) ?_|refine .lead _ (Sp) ?_|refine .flat _ (h1) rfl ?_|refine .lead _ (h2) ?_|refine .lead _ (h3) ?_|refine .lead _ (h4) ?_|refine .flat _ (h5) rfl ?_|refine .lead _ (h6) ?_|refine .lead _ (h7) ?_|refine .flat _ (Bc _ _) rfl ?_|refine .flat _ (Sc _ _) rfl ?_|(refine .aD [0,1,2,3,4,5,6,7,8,9,10,11,12,13,14,15,16,17] hK ?_;clear hK K)|(with_reducible refine .done (hK _ ?_);clear hK K)|refine U.of rfl ?_|(with_reducible refine al.aH (fun h =>?_) (fun h =>?_) <;>try simp only[h])) <;>try simp only[aJ,R,decide_true,simprocAttr])
 all_goals clear R
 all_goals trace_state
theorem Yd(k:Nat):∀ n,eX (fun i=>i==k) n=if k<n then 1 else 0
 |0=>by simp[eX]
 |n+1=>by
  simp only[eX,Yd k n];by_cases h:n=k
  ·subst h;simp
  ·have h2:(n==k)=false:=by simp[h]
   simp only[h2,zz6,if_false];by_cases h3:k<n
   ·rw[if_pos h3,if_pos (by omega)]
   ·rw[if_neg h3,if_neg (by omega)]
theorem Nf{r:aX 6 Int}(h:iJ r=true){j:Nat}(hj:j<6):1≤r.g j∧r.g j≤31:=by
 simp only[iJ,zx3,zw4] at h;have:=h j hj;simpa only[b7,zz3,decide_eq_true_eq] using this
theorem Ng{r:aX 6 Int}(h:∀ j,j<6→1≤r.g j∧r.g j≤31):iJ r=true:=by
 simp only[iJ,zx3,zw4];intro j hj;simp[b7,h j hj]
def sq(r:aX 6 Int)(j:Nat):Prop:=∃ k:Nat,k<5∧r.g j=shl 1 k
theorem aok{r:aX 6 Int}(h:∀ j,j<6→sq r j):iJ r=true:=Ng fun j hj=>by
 obtain ⟨k,hk,e⟩:=h j hj;rw[e];exact apJ ⟨k,hk⟩
theorem MD{w:Int} : ∀ n,∀ x∈iq w n,iB w x.toNat=true
 |0=>by simp[iq]
 |n+1=>by
  intro x hx;simp only[iq,zy5] at hx;rcases hx with hx | hx
  ·exact MD n x hx
  ·split at hx
   ·rename_i h;simp only[zu6] at hx;subst hx;simpa using h
   ·cases hx
theorem aqv{w:aX 5 Int}{a:aX 6 Int}(hw:iK w=true)(ha:ee a=true)(c:List Int){j:Nat}(hj:j<6):∃ k:Nat,k<5∧sQ w a c j=shl 1 k∧iB (w.g (a.g j).toNat) k=true:=by
 have a1:=oJ ha hj;have a2:=Nh hw (show (a.g j).toNat<5 by omega);have hp:0<(jN w a j).length:=List.length_pos_of_mem (ze a2.2 5 (by omega));have hc:=EE c j hp;have hm:(jN w a j).getD (me c j (jN w a j).length) 0∈jN w a j:=by rw[zz0,zy0 hc];exact zx5 hc
 have h1:=zc 5 _ hm;exact ⟨((jN w a j).getD (me c j (jN w a j).length) 0).toNat,by omega,rfl,MD 5 _ hm⟩
theorem Q8(w:aX 5 Int)(a:aX 6 Int)(c:List Int):∀ n,n≤6→∀ j,j<n→(kM w a c n).g j=sQ w a c j
 |0,_=>fun j h=>absurd h (by omega)
 |n+1,hn=>fun j hj=>by
  simp only[kM];rw[pg _ _ _ _ (by omega)];split
  ·rename_i e;subst e;rfl
  ·exact Q8 w a c n (by omega) j (by omega)
theorem aqw{w:aX 5 Int}{a:aX 6 Int}(hw:iK w=true)(ha:ee a=true)(c:List Int):∀ j,j<6→sq (kM w a c 6) j:=fun j hj=>by
 obtain ⟨k,hk,e,_⟩:=aqv hw ha c hj;exact ⟨k,hk,by rw[Q8 w a c 6 (zz7 _) j hj,e]⟩
def lG(c:List Int)(p q:Int)(x:aX 6 Int):Nat→aX 6 Int
 |0=>x
 |i+1=>iA (lG c p q x i) (bd c (i+p)%6).toNat (shl 1 (bd c (i+q)%5).toNat)
theorem uM(n:Int):0≤n%6∧n%6<6:=⟨zv1 _ (by decide),zv7 _ (by decide)⟩
theorem MI(n:Int):0≤n%5∧n%5<5:=⟨zv1 _ (by decide),zv7 _ (by decide)⟩
theorem MG(n:Int):0≤n%32∧n%32<32:=⟨zv1 _ (by decide),zv7 _ (by decide)⟩
theorem Ff{c:List Int}{p q:Int}{x:aX 6 Int}(h:∀ j,j<6→sq x j):∀ n,∀ j,j<6→sq (lG c p q x n) j
 |0=>h
 |n+1=>fun j hj=>by
  have h6:=uM (bd c (n+p));have h5:=MI (bd c (n+q));simp only[lG,sq];rw[pg _ _ _ _ (by omega)];split
  ·exact ⟨_,by omega,rfl⟩
  ·exact Ff h n j hj
theorem TR:∀ y z:Fin 32,0≤kP (y.1:Int) (z.1:Int)∧kP (y.1:Int) (z.1:Int)≤31∧((y.1:Int)≠0→kP (y.1:Int) (z.1:Int)≠0):=by decide +kernel
theorem TS{y z:Int}(hy:1≤y∧y≤31)(hz:0≤z∧z<32):1≤kP y z∧kP y z≤31:=by
 have:=TR ⟨y.toNat,by omega⟩ ⟨z.toNat,by omega⟩;simp only[show ((y.toNat:Nat):Int)=y by omega,show ((z.toNat:Nat):Int)=z by omega] at this;have:=this.2.2 (by omega);omega
def kA(c:List Int)(x:aX 6 Int):Nat→aX 6 Int
 |0=>x
 |i+1=>iA (kA c x i) (bd c (i+7)%6).toNat (kP ((kA c x i).g (bd c (i+7)%6).toNat) (bd c (i+3)%32))
theorem MJ{c:List Int}{x:aX 6 Int}(h:iJ x=true):∀ n,iJ (kA c x n)=true
 |0=>h
 |n+1=>Ng fun j hj=>by
  have h6:=uM (bd c (n+7));have ih:=MJ (c:=c) h n;simp only[kA];rw[pg _ _ _ _ (by omega)];split
  ·exact TS (Nf ih (by omega)) (MG _)
  ·exact Nf ih hj
def sI(m:bY)(a:aX 6 Int)(c:List Int):aX 6 Int:=kA c (lG c 2 5 (kM m.fb a c 6) m.e7.toNat) (bd c 1%4).toNat
theorem apC{m:bY}{a:aX 6 Int}(hw:iK m.fb=true)(ha:ee a=true)(c:List Int):iJ (sI m a c)=true :=
 MJ (aok (Ff (aqw hw ha c) _)) _
theorem M8{m:bY}(h:ed m=true):iK m.fb=true∧0≤m.e7∧m.e7≤2:=by
 simp only[ed,zz3,b7,decide_eq_true_eq] at h;exact ⟨h.1,h.2.1.1,h.2.1.2⟩
theorem LN{m:bY}(h:ed m=true){k:Nat}(hk:k<m.given.length):ee (dc m k).mark=true:=by rw[←jY hk];exact Nc h _ (zx5 hk)
theorem aab(c:List Int)(i:Nat){n:Nat}(hn:0<n)(h5:n≤1000):bd c i%(n:Int)=((me c i n:Nat):Int):=by
 unfold me bd;split
 ·rename_i h;subst h;simp
 ·rename_i h;have hp:0<c.length:=List.length_pos_iff.2 h;have e:((i:Int)%(c.length:Int)).toNat=i%c.length:=by omega
  rw[if_pos hp,e];generalize c.getD (i%c.length) 0=x;obtain ⟨_,h2⟩:=AG x n (by omega) (by omega);rw[h2];have:=zv1 x (show (n:Int)≠0 by omega);omega
theorem Sw(w:aX 5 Int)(a:aX 6 Int)(cuts:List Int)(hl:cuts.length≤4611686018427387904):aA Tryz.prog 98 [enc w,enc a,enc cuts] (.tuple [enc (p5 w a cuts).1,enc (p5 w a cuts).2]):=by
 refine aA.bp Tryz.func98 VR XV Z8 (t7 rfl) (fun hwf W0 D0 E1 =>?_);simp only[DS,PQ,bl,zz4,Nat.reduceAdd];refine .ar (by decide +kernel) fun K hK =>?_;simp only[Ll,ab,simprocAttr]
 try simp only[du,o9,ab,simprocAttr]
 refine .done (hK _ ?_);clear hK K;refine U.seq (U.seq ?_);refine .bx (by decide +kernel) fun K hK =>?_;simp only[Lm,ab,simprocAttr]
 try simp only[cI,cN,ab,simprocAttr]
 refine .flat _ (Sy w) rfl ?_
 try simp only[ab,simprocAttr]
 refine .done (hK _ ?_);clear hK K;try simp only[au]
 generalize hw:iK w=bw;cases bw
 ·refine U.bL ?_;simp only[al,ab,simprocAttr];refine ⟨fun h =>?_,fun h =>?_⟩
  ·refine .ar (by decide +kernel) fun K hK =>?_;simp only[Lp,ab,simprocAttr]
   try simp only[dN,o9,rl,ab,simprocAttr]
   refine .done (hK _ ?_);clear hK K;refine U.ret ?_;simp only[au,ab,simprocAttr]
   try simp only[cI,cN,ab,simprocAttr]
   simp[p5,hw]
  ·simp at h
 refine U.bL ?_;simp only[al,ab,simprocAttr];refine ⟨fun h =>?_,fun h =>?_⟩
 ·simp at h
 refine U.skip ?_;try simp only[au,simprocAttr]
 refine U.seq (U.seq ?_);refine .bx (by decide +kernel) fun K hK =>?_;simp only[Lq,ab,simprocAttr]
 try simp only[cI,cN,ab,simprocAttr]
 refine .flat _ (Rg a) rfl ?_
 try simp only[ab,simprocAttr]
 refine .done (hK _ ?_);clear hK K;try simp only[au]
 generalize ha:ee a=ba;cases ba
 ·refine U.bL ?_;simp only[al,ab,simprocAttr];refine ⟨fun h =>?_,fun h =>?_⟩
  ·refine .ar (by decide +kernel) fun K hK =>?_;simp only[Lr,ab,simprocAttr]
   try simp only[dN,o9,rl,ab,simprocAttr]
   refine .done (hK _ ?_);clear hK K;refine U.ret ?_;simp only[au,ab,simprocAttr]
   try simp only[cI,cN,ab,simprocAttr]
   simp[p5,hw,ha]
  ·simp at h
 refine U.bL ?_;simp only[al,ab,simprocAttr];refine ⟨fun h =>?_,fun h =>?_⟩
 ·simp at h
 refine U.skip ?_;try simp only[au,simprocAttr]
 refine .ar (by decide +kernel) fun K hK =>?_;simp only[Ls,ab,simprocAttr]
 try simp only[o9,simprocAttr]
 refine .done (hK _ ?_);clear hK K;refine U.seq (U.seq ?_);refine .bx (by decide +kernel) fun K hK =>?_;simp only[Lt,ab,simprocAttr];refine .done (hK _ ?_);clear hK K;try simp only[au]
 refine U.block (U.loop (fun i:Nat=>aw [(2,enc cuts),(3,.ptr 3 []),(4,.ptr 4 []),(6,.ptr 6 []),(8,.ptr 8 []),(9,.int .i64 i)] [(3,.box (enc w)),(4,.box (enc a)),(6,.box (enc lW)),(8,.box (enc (kM w a cuts i)))]) (fun i=>i≤6) (fun i=>6-i) 0 (by omega) ?_ (fun i hi =>?_))
 ·simp only[kM];refine aB.bE ?_ ?_ ?_ ?_ <;>simp[aQ,bt,br,aY,aq,aS,bT,I.only,ah.only,bg]
 refine U.seq (U.seq ?_);refine .bx (by decide +kernel) fun K hK =>?_;simp only[Lu,ab,simprocAttr];refine .done (hK _ ?_);clear hK K;try simp only[au]
 refine U.bL ?_;simp only[al,ab,simprocAttr];refine ⟨fun h =>?_,fun h =>?_⟩
 ·have hi6:i<6:=by simp at h;omega
  have h1:=oJ ha hi6;have h2:=Nh hw (show (a.g i).toNat<5 by omega);have k5:(a.g i).toNat<5:=by omega
  refine U.skip ?_;try simp only[au,simprocAttr]
  refine U.seq (U.block ?_);refine .ar (by decide +kernel) fun K hK =>?_;simp only[Lv,ab,simprocAttr]
  try simp only[aZ,jZ 1 a hi6 rfl,eL a hi6,ab,simprocAttr]
  try simp only[aZ,gh 1 w ⟨h1.1,h1.2⟩ rfl,eL w k5,ab,simprocAttr]
  refine .lead _ (Rv (w.g (a.g i).toNat)) ?_
  try simp only[ab,simprocAttr]
  refine .done (hK _ ?_);clear hK K;have hL:jN w a i=iq (w.g (a.g i).toNat) 5:=rfl;rw[←hL];have hL5:(jN w a i).length≤5:=zd _ 5;have hL0:0<(jN w a i).length:=List.length_pos_of_mem (ze h2.2 5 (by omega));have hLi:∀ x∈jN w a i,0≤x∧x<(5:Nat):=zc 5;have hV:sQ w a cuts i=shl 1 ((jN w a i).getD (me cuts i (jN w a i).length) 0).toNat:=rfl;have hcl:=EE cuts i hL0;generalize hLL:jN w a i=ay at hL5 hL0 hLi hV hcl ⊢;have hin:=hLi (ay.getD (me cuts i ay.length) 0) (by rw[zz0,zy0 hcl];exact zx5 hcl);refine .bx (by decide +kernel) fun K hK =>?_;simp only[Lw,ab,simprocAttr]
  try simp only[cN,ab,simprocAttr]
  refine .flat _ (m0 cuts i hl) rfl ?_
  try simp only[aZ,ab,simprocAttr]
  refine .flat _ (gQ (bd cuts i) ay.length (by omega) (by omega)) rfl ?_;rw[aab cuts i hL0 (by omega)]
  try simp only[yN hcl,ab,simprocAttr]
  have hsh:IntKind.i64.wrap (1*2^min (ay.getD (me cuts i ay.length) 0).toNat IntKind.i64.bits)=sQ w a cuts i:=hV.symm;rw[if_pos hin.1,hsh]
  try simp only[aZ,jZ 1 (kM w a cuts i) hi6 rfl,eL (kM w a cuts i) hi6,pU (kM w a cuts i) hi6,ab,simprocAttr]
  refine .done (hK _ ?_);clear hK K;try simp only[au,bP]
  refine .bx (by decide +kernel) fun K hK =>?_;simp only[Ln,ab,simprocAttr];refine .done (hK _ ?_);clear hK K;try simp only[au]
  refine ⟨i+1,by omega,by omega,?_⟩;rw[cG _ (by omega) (by omega),kM];refine aB.bE ?_ ?_ ?_ ?_ <;>simp[aQ,bt,br,aY,aq,aS,bT,I.only,ah.only,bg]
 ·have h6:i=6:=by simp at h;omega
  subst h6;refine U.exit ?_;try simp only[au,bP,simprocAttr]
  refine .ar (by decide +kernel) fun K hK =>?_;simp only[Lo,ab,simprocAttr]
  try simp only[cI,rl,ab,simprocAttr]
  refine .done (hK _ ?_);clear hK K;refine U.ret ?_;simp only[ab,simprocAttr]
  try simp only[cI,cN,ab,simprocAttr]
  simp[p5,hw,ha]
theorem Sg(m:bY)(a:aX 6 Int)(c:List Int)(hl:c.length≤4611686018427387904)(hw:iK m.fb=true)(ha:ee a=true)(h0:0≤m.e7)(h2:m.e7≤2):aA Tryz.prog 35 [enc m,enc a,enc c] (enc (sI m a c)):=by
 refine aA.bp Tryz.func35 Vm Xq ZD (t7 rfl) (fun hwf W0 D0 E1 =>?_);simp only[Dl,Pk,bl,zz4,Nat.reduceAdd];obtain ⟨r0,hr0⟩:∃ r0,r0=kM m.fb a c 6:=⟨_,rfl⟩
 have hworn:p5 m.fb a c=(r0,0):=by simp[p5,hw,ha,hr0]
 refine .ar (by decide +kernel) fun K hK =>?_;simp only[J7,ab,simprocAttr]
 try simp only[du,o9,ab,simprocAttr]
 refine .done (hK _ ?_);clear hK K;refine .ar (by decide +kernel) fun K hK =>?_;simp only[J8,ab,simprocAttr]
 try simp only[cI,cN,ab,simprocAttr]
 refine .lead _ (Sw m.fb a c hl) ?_
 try simp only[hworn,cI,o9,rl,ab,simprocAttr]
 refine .done (hK _ ?_);clear hK K;refine U.seq (U.seq ?_);refine .bx (by decide +kernel) fun K hK =>?_;simp only[Kb,ab,simprocAttr];refine .done (hK _ ?_);clear hK K;try simp only[au]
 refine U.block (U.loop (fun i:Nat=>aw [(2,enc c),(3,.ptr 3 []),(6,.ptr 6 []),(7,.ptr 7 []),(9,.int .i64 i)] [(3,.box (enc m)),(6,.box (enc lW)),(7,.box (enc (lG c 2 5 r0 i)))]) (fun i=>i≤m.e7.toNat) (fun i=>m.e7.toNat-i) 0 (by omega) ?_ (fun i hi =>?_))
 ·simp only[lG];refine aB.bE ?_ ?_ ?_ ?_ <;>simp[aQ,bt,br,aY,aq,aS,bT,I.only,ah.only,bg]
 refine U.seq (U.seq ?_);refine .bx (by decide +kernel) fun K hK =>?_;simp only[Kc,ab,simprocAttr]
 try simp only[cI,ab,simprocAttr]
 refine .done (hK _ ?_);clear hK K;try simp only[au]
 refine U.bL ?_;simp only[al,ab,simprocAttr];refine ⟨fun h =>?_,fun h =>?_⟩
 ·have hlt:(i:Int)<m.e7:=by simpa using h
  have m6:=uM (bd c (i+2));have m5:=MI (bd c (i+5));have k6:(bd c (i+2)%6).toNat<6:=by omega
  have hv:IntKind.i64.wrap (1*2^min (bd c (i+5)%5).toNat IntKind.i64.bits)=shl 1 (bd c (i+5)%5).toNat:=rfl;refine U.skip ?_;try simp only[au,simprocAttr]
  refine U.seq (U.block ?_);refine .bx (by decide +kernel) fun K hK =>?_;simp only[Kd,ab,simprocAttr]
  try simp only[cN,ab,simprocAttr]
  rw[cG _ (by omega) (by omega)];refine .flat _ (m0 c (i+2) hl) rfl ?_
  try simp only[ab,simprocAttr]
  refine .flat _ (gQ (bd c (i+2)) 6 (by decide) (by decide)) rfl ?_
  try simp only[cN,ab,simprocAttr]
  rw[cG _ (by omega) (by omega)];refine .flat _ (m0 c (i+5) hl) rfl ?_
  try simp only[ab,simprocAttr]
  refine .flat _ (gQ (bd c (i+5)) 5 (by decide) (by decide)) rfl ?_
  try simp only[ab,simprocAttr]
  rw[if_pos m5.1,hv]
  try simp only[aZ,gh 1 (lG c 2 5 r0 i) ⟨m6.1,m6.2⟩ rfl,eL (lG c 2 5 r0 i) k6,pU (lG c 2 5 r0 i) k6,ab,simprocAttr]
  refine .done (hK _ ?_);clear hK K;try simp only[au,bP]
  refine .bx (by decide +kernel) fun K hK =>?_;simp only[Ke,ab,simprocAttr];refine .done (hK _ ?_);clear hK K;try simp only[au]
  refine ⟨i+1,by omega,by omega,?_⟩;rw[cG _ (by omega) (by omega),lG];refine aB.bE ?_ ?_ ?_ ?_ <;>simp[aQ,bt,br,aY,aq,aS,bT,I.only,ah.only,bg]
 have hi2:i=m.e7.toNat:=by simp at h;omega
 subst hi2;refine U.exit ?_;try simp only[au,bP,simprocAttr]
 obtain ⟨r1,hr1⟩:∃ r1,r1=lG c 2 5 r0 m.e7.toNat:=⟨_,rfl⟩
 rw[←hr1];refine U.seq (U.seq ?_);refine .bx (by decide +kernel) fun K hK =>?_;simp only[Kf,ab,simprocAttr];refine .done (hK _ ?_);clear hK K;try simp only[au]
 have q4:0≤bd c 1%4∧bd c 1%4<4:=⟨zv1 _ (by decide),zv7 _ (by decide)⟩
 refine U.block (U.loop (fun i:Nat=>aw [(2,enc c),(3,.ptr 3 []),(6,.ptr 6 []),(7,.ptr 7 []),(10,.int .i64 i)] [(3,.box (enc m)),(6,.box (enc lW)),(7,.box (enc (kA c r1 i)))]) (fun i=>i≤(bd c 1%4).toNat) (fun i=>(bd c 1%4).toNat-i) 0 (by omega) ?_ (fun i hi =>?_))
 ·simp only[kA];refine aB.bE ?_ ?_ ?_ ?_ <;>simp[aQ,bt,br,aY,aq,aS,bT,I.only,ah.only,bg]
 refine U.seq (U.seq ?_);refine .bx (by decide +kernel) fun K hK =>?_;simp only[Kg,ab,simprocAttr]
 try simp only[cN,ab,simprocAttr]
 refine .flat _ (m0 c 1 hl) rfl ?_
 try simp only[ab,simprocAttr]
 refine .flat _ (gQ (bd c 1) 4 (by decide) (by decide)) rfl ?_
 try simp only[ab,simprocAttr]
 refine .done (hK _ ?_);clear hK K;try simp only[au]
 refine U.bL ?_;simp only[al,ab,simprocAttr];refine ⟨fun h =>?_,fun h =>?_⟩
 ·have hlt:(i:Int)<bd c 1%4:=by simpa using h
  have m6:=uM (bd c (i+7));have m32:=MG (bd c (i+3));have k6:(bd c (i+7)%6).toNat<6:=by omega
  refine U.skip ?_;try simp only[au,simprocAttr]
  refine U.seq (U.block ?_);refine .ar (by decide +kernel) fun K hK =>?_;simp only[Kh,ab,simprocAttr]
  try simp only[cN,ab,simprocAttr]
  rw[cG _ (by omega) (by omega)];refine .flat _ (m0 c (i+7) hl) rfl ?_
  try simp only[ab,simprocAttr]
  refine .flat _ (gQ (bd c (i+7)) 6 (by decide) (by decide)) rfl ?_
  try simp only[ab,simprocAttr]
  refine .done (hK _ ?_);clear hK K;refine .bx (by decide +kernel) fun K hK =>?_;simp only[Ki,ab,simprocAttr]
  try simp only[aZ,gh 1 (kA c r1 i) ⟨m6.1,m6.2⟩ rfl,eL (kA c r1 i) k6,cN,ab,simprocAttr]
  rw[cG _ (by omega) (by omega)];refine .flat _ (m0 c (i+3) hl) rfl ?_
  try simp only[ab,simprocAttr]
  refine .flat _ (gQ (bd c (i+3)) 32 (by decide) (by decide)) rfl ?_
  try simp only[aZ,ab,simprocAttr]
  try simp only[aZ,gh 1 (kA c r1 i) ⟨m6.1,m6.2⟩ rfl,eL (kA c r1 i) k6,pU (kA c r1 i) k6,ab,simprocAttr]
  refine .done (hK _ ?_);clear hK K;try simp only[au,bP]
  refine .bx (by decide +kernel) fun K hK =>?_;simp only[J9,ab,simprocAttr];refine .done (hK _ ?_);clear hK K;try simp only[au]
  refine ⟨i+1,by omega,by omega,?_⟩;rw[cG _ (by omega) (by omega),kA];refine aB.bE ?_ ?_ ?_ ?_ <;>simp[aQ,bt,br,aY,aq,aS,bT,I.only,ah.only,bg]
  all_goals first | rfl | simp[kP]
 have hi4:i=(bd c 1%4).toNat:=by simp at h;omega
 refine U.exit ?_;try simp only[au,bP,simprocAttr]
 refine .ar (by decide +kernel) fun K hK =>?_;simp only[Ka,ab,simprocAttr]
 try simp only[cI,rl,ab,simprocAttr]
 refine .done (hK _ ?_);clear hK K;refine U.ret ?_;simp only[ab,simprocAttr]
 try simp only[cI,cN,ab,simprocAttr]
 rw[hi4,hr1,hr0];rfl
abbrev fL:=aX 9 Int
def z9:fL:=⟨List.replicate 9 0,rfl⟩
def lS(l:List Int)(b:Int)(i:Nat):Int:=IntKind.i64.wrap (bd l (IntKind.i64.wrap ((i:Int)+b))+b)
def rh(l:List Int)(b:Int):List Int:=(List.range l.length).map (lS l b)
theorem Sq(l:List Int)(b:Int)(hl:l.length*8≤140737488355328):aA Tryz.prog 83 [enc l,enc b] (enc (rh l b)):=by
 refine aA.bp Tryz.func83 VH XL ZY (t7 rfl) (fun hwf W0 D0 E1 =>?_);simp only[DI,PF,bl,zz4];clear hwf;have R:=v6 @aZ (v6 @aO @ab)
 repeat' ((first |refine U.aI (by decide +kernel) rfl fun K hK =>?_|(refine .aD [0,1,4,5,6,10] hK ?_;clear hK K)|(with_reducible refine .done (hK _ ?_);clear hK K)|refine U.of rfl ?_|(with_reducible refine al.aH (fun h =>?_) (fun h =>?_) <;>try simp only[h])) <;>try simp only[aJ,R,reduceIte,Nat.reduceBEq])
 all_goals clear R
 refine U.loop (fun i:Nat=>aw [(0,enc l),(1,.int .i64 b),(5,.own 905 ((List.range i).map (lS l b)).length),(6,.int .i64 i)] [(905,.b9 3 1 (((List.range i).map (lS l b)).map enc))]) (fun i=>i≤l.length) (fun i=>l.length-i) 0 (zw3 _) ?_ (fun i hi =>?_)
 ·refine aB.p9 5 905 3 1 1 rfl rfl ?_;simp only[List.range_zero,zx1,zv0];refine aB.bE ?_ ?_ ?_ ?_ <;>simp[aQ,bt,br,aY,aq,aS,bT,I.only,I.bV,ah.only,bg]
 by_cases hlt:i<l.length
 ·have hc:=fw hlt;have hw:=ea (i:=i) (by omega);have hsu:(List.range (i+1)).map (lS l b)=(List.range i).map (lS l b)++[lS l b i]:=by rw[List.range_succ,zx4];rfl
  have hxl:((List.range i).map (lS l b)).length=i:=by simp
  have hv:lS l b i=IntKind.i64.wrap (bd l (IntKind.i64.wrap ((i:Int)+b))+b):=rfl;rw[hv] at hsu;generalize (List.range i).map (lS l b)=xs at hsu hxl ⊢;have happ:=fun (A:af) d rest=>m9 (α:=Int) (A:=A) (d:=d) 3 1 8 905 (l:=xs.length) (es:=xs) (ys:=[IntKind.i64.wrap (bd l (IntKind.i64.wrap ((i:Int)+b))+b)]) (rest:=rest) rfl rfl (by simp) (by simp[maxLen];omega) (by simp;omega);have R:=v6 @hc (v6 @hw (v6 @happ (v6 @nd (v6 @aZ (v6 @aO @ab)))))
  repeat' ((first |refine U.aI (by decide +kernel) rfl fun K hK =>?_|refine .flat _ (m0 l _ (by omega)) rfl ?_|(refine .aD [0,1,4,5,6,10] hK ?_;clear hK K)|(with_reducible refine .done (hK _ ?_);clear hK K)|refine U.of rfl ?_|(with_reducible refine al.aH (fun h =>?_) (fun h =>?_) <;>try simp only[h])) <;>try simp only[aJ,R,Nat.reduceEqDiff,reduceIte,Nat.reduceBEq])
  all_goals clear R
  refine ⟨i+1,by omega,by omega,?_⟩;simp only[hsu];refine aB.bE ?_ ?_ ?_ ?_ <;>simp[aQ,bt,br,aY,aq,aS,bT,I.only,I.bV,ah.only,c9,fI,bg,ig]
 ·have hc:=fP hlt;have hge:i=l.length:=by omega
  subst hge;have hfo:=mq (k:=((List.range l.length).map (lS l b)).length) (T:=3) (es:=(List.range l.length).map (lS l b)) 1 rfl rfl;have R:=v6 @hc (v6 @hfo (v6 @aZ (v6 @aO @ab)))
  repeat' ((first |refine U.aI (by decide +kernel) rfl fun K hK =>?_|(refine .aD [0,1,4,5,6,10] hK ?_;clear hK K)|(with_reducible refine .done (hK _ ?_);clear hK K)|refine U.of rfl ?_|(with_reducible refine al.aH (fun h =>?_) (fun h =>?_) <;>try simp only[h])) <;>try simp only[aJ,R,Nat.reduceEqDiff,reduceIte,Nat.reduceBEq])
  all_goals clear R
  all_goals rfl
def An:aX 6 Int:=⟨List.replicate 6 31,rfl⟩
def vr(m:bY)(picks:List Int)(i:Nat)(n:fL):aX 6 Int:=if 0<m.given.length then sI m (dc m (n.g 8%(m.given.length:Int)).toNat).mark (rh picks i) else An
def lg(m:bY)(picks:List Int)(h MR i:Nat)(n:fL):ak where
 bd:=⟨h,MR⟩
 kind:=n.g 1%7
 day:=if n.g 1%7=0 then 0 else n.g 2%30
 known:=n.g 3%40
 eD:=1+n.g 4%6
 fg:=if n.g 7%7=1+n.g 4%6 then 0 else n.g 7%7
 dF:=1+n.g 5%2
 bU:=1+n.g 6%12
 bS:=if n.g 1%7=4 then vr m picks i n else mX
 kC:=if n.g 1%7=0 then ⟨h,n.g 4%(MR:Int)⟩ else ⟨0,0⟩
def rq(m:bY)(ls:List fL)(picks:List Int)(h:Nat)(o:List ak)(i:Nat):List ak :=
 if (ls.getD i z9).g 0%3=(h:Int)∧¬ ((ls.getD i z9).g 1%7=0∧o.length=0) then o++[jt (lg m picks h o.length i (ls.getD i z9))] else o
def fR(m:bY)(ls:List fL)(picks:List Int)(h:Nat):Nat→List ak
 |0=>[]
 |i+1=>rq m ls picks h (fR m ls picks h i) i
def iG(ls:List fL):Nat:=min ls.length 20
def im(m:bY)(ls:List fL)(picks:List Int):Nat→List ak
 |0=>[]
 |h+1=>im m ls picks h++fR m ls picks h (iG ls)
def mD(m:bY)(ls:List fL)(picks:List Int):List ak:=im m ls picks 3
theorem uC(m:bY)(ls:List fL)(picks:List Int)(h:Nat):∀ i,(fR m ls picks h i).length≤i
 |0=>zz7 _
 |i+1=>by
  have:=uC m ls picks h i;simp only[fR,rq];split <;>simp <;>omega
theorem uD(ls:List fL):iG ls≤ls.length∧iG ls≤20:=by simp only[iG];omega
theorem y7(m:bY)(ls:List fL)(picks:List Int):∀ h,(im m ls picks h).length≤20*h
 |0=>zz7 _
 |h+1=>by
  have h1:=y7 m ls picks h;have h2:=uC m ls picks h (iG ls);have h3:=uD ls;simp only[im,zz2];omega
def iI(N:Nat→Nat)(h c:Nat):aX 3 Int:=⟨(List.range 3).map fun k=>if k<h then (N k:Int) else if k=h then (c:Int) else 0,by simp⟩
theorem anj{N:Nat→Nat}{h c:Nat}(hh:h<3):(iI N h c).g h=(c:Int):=by
 simp[iI,aX.g,zz0,hh]
theorem AP{n:Nat}{x y:aX n Int}(h:x.l=y.l):x=y:=by cases x;cases y;simp_all
theorem anl{N:Nat→Nat}{h c:Nat}(c':Nat)(hh:h<3):iA (iI N h c) h (c':Int)=iI N h c':=by
 refine AP (List.ext_getElem (by simp[iA,iI]) fun k h1 h2 =>?_);simp only[iA,iI,List.getElem_set,List.getElem_map,List.getElem_range];by_cases e:h=k
 ·subst e;simp
 ·have:¬ k=h:=fun e'=>e e'.symm;simp[e,this]
theorem ank{N:Nat→Nat}{h:Nat} : iI N h (N h)=iI N (h+1) 0:=by
 refine AP (List.ext_getElem (by simp[iI]) fun k h1 h2 =>?_);simp only[iI,List.getElem_map,List.getElem_range];rcases Nat.lt_trichotomy k h with e | e | e
 ·rw[if_pos e,if_pos (by omega)]
 ·subst e;rw[if_neg (by omega),if_pos rfl,if_pos (by omega)]
 ·rw[if_neg (by omega),if_neg (by omega),if_neg (by omega)];split <;>rfl
theorem abJ(N:Nat→Nat):I.agg [.int .i64 0,.int .i64 0,.int .i64 0]=enc (iI N 0 0):=rfl
theorem rS:(∀ a b:Nat,I.agg [.int .i64 (a:Int),.int .i64 (b:Int)]=enc (⟨a,b⟩:Item))∧(∀ (a:Nat) (b c:Int),I.agg [.int .i64 (a:Int),.int .i64 (b%c)]=enc (⟨a,b%c⟩:Item)):=⟨fun _ _=>rfl,fun _ _ _=>rfl⟩
theorem EW:I.agg [.int .i64 31,.int .i64 31,.int .i64 31,.int .i64 31,.int .i64 31,.int .i64 31]=enc An:=rfl
theorem BR(a b c d e f:Int):dN [.int .i64 0,.int .i64 0,.int .i64 0,.int .i64 0,.int .i64 0,.int .i64 0] [(0,.int .i64 a),(1,.int .i64 b),(2,.int .i64 c),(3,.int .i64 d),(4,.int .i64 e),(5,.int .i64 f)]=some [.int .i64 a,.int .i64 b,.int .i64 c,.int .i64 d,.int .i64 e,.int .i64 f]:=by simp[dN,I.cq,I.size]
theorem qh(a b:Int):dN [.int .i64 0,.int .i64 0] [(0,.int .i64 a),(1,.int .i64 b)]=some [.int .i64 a,.int .i64 b]:=by simp[dN,I.cq,I.size]
theorem rJ(a:Item)(k d kn b s o dm:Int):(dN [.agg [.int .i64 0,.int .i64 0],.int .i64 0,.int .i64 0,.int .i64 0,.int .i64 0,.int .i64 0,.int .i64 0,.int .i64 0,.agg [.int .i64 0,.int .i64 0,.int .i64 0,.int .i64 0,.int .i64 0,.int .i64 0],.agg [.int .i64 0,.int .i64 0]] [(0,enc a),(1,.int .i64 k),(2,.int .i64 d),(3,.int .i64 kn),(4,.int .i64 b),(6,.int .i64 s),(7,.int .i64 o),(5,.int .i64 dm)]).map .agg=some (enc (⟨a,k,d,kn,b,dm,s,o,mX,⟨0,0⟩⟩:ak)):=by
 simp[dN,I.cq,I.size,I.sizes,gG,qn];rfl
theorem qo:I.agg [.int .i64 0,.int .i64 0,.int .i64 0,.int .i64 0,.int .i64 0,.int .i64 0,.int .i64 0,.int .i64 0,.int .i64 0]=enc z9:=rfl
theorem rm{A:af}{n:Nat}{w:I}{x y:fL}{rest:List aE} : dT A (some 9) n [] w (enc x) rest (some (enc y))=aF rest (A.aU n (.box (enc x))):=by
 rw[eG (s:=some 9) (du _) (by rw[fW];rfl) ((eT x).trans (eT y).symm),fT]
theorem qS(x:fL):cj (some 9) (enc x)=true:=by rw[fW];rfl
theorem ao5(n:fL) :
  (∀ y,fH (0:Int) 9 (fG 9 1 (n.l.map enc) y)=y)∧fU 0 [] (some (n.l.map (enc (α:=Int))))=some (.int .i64 (n.g 0))∧((0:Int).toNat=0)∧(∀ y,fH (1:Int) 9 (fG 9 1 (n.l.map enc) y)=y)∧fU 1 [] (some (n.l.map (enc (α:=Int))))=some (.int .i64 (n.g 1))∧((1:Int).toNat=1)∧(∀ y,fH (2:Int) 9 (fG 9 1 (n.l.map enc) y)=y)∧fU 2 [] (some (n.l.map (enc (α:=Int))))=some (.int .i64 (n.g 2))∧((2:Int).toNat=2)∧(∀ y,fH (3:Int) 9 (fG 9 1 (n.l.map enc) y)=y)∧fU 3 [] (some (n.l.map (enc (α:=Int))))=some (.int .i64 (n.g 3))∧((3:Int).toNat=3)∧(∀ y,fH (4:Int) 9 (fG 9 1 (n.l.map enc) y)=y)∧fU 4 [] (some (n.l.map (enc (α:=Int))))=some (.int .i64 (n.g 4))∧((4:Int).toNat=4)∧(∀ y,fH (5:Int) 9 (fG 9 1 (n.l.map enc) y)=y)∧fU 5 [] (some (n.l.map (enc (α:=Int))))=some (.int .i64 (n.g 5))∧((5:Int).toNat=5)∧(∀ y,fH (6:Int) 9 (fG 9 1 (n.l.map enc) y)=y)∧fU 6 [] (some (n.l.map (enc (α:=Int))))=some (.int .i64 (n.g 6))∧((6:Int).toNat=6)∧(∀ y,fH (7:Int) 9 (fG 9 1 (n.l.map enc) y)=y)∧fU 7 [] (some (n.l.map (enc (α:=Int))))=some (.int .i64 (n.g 7))∧((7:Int).toNat=7)∧(∀ y,fH (8:Int) 9 (fG 9 1 (n.l.map enc) y)=y)∧fU 8 [] (some (n.l.map (enc (α:=Int))))=some (.int .i64 (n.g 8))∧((8:Int).toNat=8) :=
 ⟨fun _=>gh 1 n (by decide) rfl,(eL n (by decide)).trans (hT _),rfl,fun _=>gh 1 n (by decide) rfl,(eL n (by decide)).trans (hT _),rfl,fun _=>gh 1 n (by decide) rfl,(eL n (by decide)).trans (hT _),rfl,fun _=>gh 1 n (by decide) rfl,(eL n (by decide)).trans (hT _),rfl,fun _=>gh 1 n (by decide) rfl,(eL n (by decide)).trans (hT _),rfl,fun _=>gh 1 n (by decide) rfl,(eL n (by decide)).trans (hT _),rfl,fun _=>gh 1 n (by decide) rfl,(eL n (by decide)).trans (hT _),rfl,fun _=>gh 1 n (by decide) rfl,(eL n (by decide)).trans (hT _),rfl,fun _=>gh 1 n (by decide) rfl,(eL n (by decide)).trans (hT _),rfl⟩
theorem vE(x d:Int)(h0:0<d)(h1:d≤1000):IntKind.i64.wrap (1+x%d)=1+x%d:=by
 have a1:=zv1 x (show d≠0 by omega);have a2:=zv7 x h0;exact cG _ (by omega) (by omega)
theorem Bg(m:bY)(ls:List fL)(picks:List Int)(hm:ed m=true)(hl:picks.length*8≤140737488355328):aA Tryz.prog 23 [enc m,enc ls,enc picks] (enc (mD m ls picks)):=by
 refine aA.bp Tryz.func23 Vf Xj Zw (t7 rfl) (fun hwf W0 D0 E1 =>?_);simp only[Dd,Pc,bl,zz4,Nat.reduceAdd];have hlen:ls.length≤maxLen:=((kL ls).1 hwf.2.1).1;simp only[maxLen] at hlen;clear hwf;obtain ⟨hw,hf0,hf2⟩:=M8 hm;have hgl:=M9 hm;obtain ⟨hn1,hn2⟩:=uD ls;obtain ⟨N,hN⟩:∃ N:Nat→Nat,N=fun k=>(fR m ls picks k (iG ls)).length:=⟨_,rfl⟩
 have hz:=abJ N;have R:=v6 @hz (v6 @fp (v6 @aZ (v6 @aO @ab)))
 repeat' ((first |(with_reducible refine .guard (fun hb =>?_) (fun hb =>?_) <;>try simp only[hb])|refine U.aI (by decide +kernel) rfl fun K hK =>?_|(refine .aD [0,1,2,3,6,7,8,9,10,11,12,14,24,35,70,74,78,91,97] hK ?_;clear hK K)|(with_reducible refine .done (hK _ ?_);clear hK K)|refine U.of rfl ?_|(with_reducible refine al.aH (fun h =>?_) (fun h =>?_) <;>try simp only[h])) <;>try simp only[aJ,R,Nat.reduceEqDiff,reduceIte,Nat.reduceBEq])
 all_goals clear R
 refine U.loop (fun h:Nat=>aw [(1,enc ls),(2,enc picks),(3,.ptr 3 []),(7,.ptr 7 []),(8,.own 908 (im m ls picks h).length),(9,.int .i64 h)] [(3,.box (enc m)),(7,.box (enc (iI N h 0))),(908,.b9 68 17 ((im m ls picks h).map enc))]) (fun h=>h≤3) (fun h=>3-h) 0 (by omega) ?_ (fun h hh =>?_)
 ·refine aB.p9 8 908 68 17 17 rfl rfl ?_;simp only[im,zx1,zv0];refine aB.bE ?_ ?_ ?_ ?_ <;>simp[aQ,bt,br,aY,aq,aS,bT,I.only,I.bV,ah.only,bg]
 have hal:=y7 m ls picks h;by_cases hh3:h<3
 case neg =>
  have hc:decide ((h:Int)<3)=false:=by simp;omega
  have he:h=3:=by omega
  subst he;have hfo:=mq (k:=(im m ls picks 3).length) (T:=68) (es:=im m ls picks 3) 17 rfl rfl;have R:=v6 @hc (v6 @hfo (v6 @aZ (v6 @aO @ab)))
  repeat' ((first |(with_reducible refine .guard (fun hb =>?_) (fun hb =>?_) <;>try simp only[hb])|refine U.aI (by decide +kernel) rfl fun K hK =>?_|(refine .aD [0,1,2,3,6,7,8,9,10,11,12,14,24,35,70,74,78,91,97] hK ?_;clear hK K)|(with_reducible refine .done (hK _ ?_);clear hK K)|refine U.of rfl ?_|(with_reducible refine al.aH (fun h =>?_) (fun h =>?_) <;>try simp only[h])) <;>try simp only[aJ,R,Nat.reduceEqDiff,reduceIte,Nat.reduceBEq])
  all_goals clear R
  all_goals rfl
 have hc:decide ((h:Int)<3)=true:=by simp;omega
 have hwh:=ea (i:=h) (by omega);have R:=v6 @hc (v6 @aZ (v6 @aO @ab))
 repeat' ((first |(with_reducible refine .guard (fun hb =>?_) (fun hb =>?_) <;>try simp only[hb])|refine U.aI (by decide +kernel) rfl fun K hK =>?_|(refine .aD [0,1,2,3,6,7,8,9,10,11,12,14,24,35,70,74,78,91,97] hK ?_;clear hK K)|(with_reducible refine .done (hK _ ?_);clear hK K)|refine U.of rfl ?_|(with_reducible refine al.aH (fun h =>?_) (fun h =>?_) <;>try simp only[h])) <;>try simp only[aJ,R,Nat.reduceEqDiff,reduceIte,Nat.reduceBEq])
 all_goals clear R
 refine U.loop (fun i:Nat=>aw [(1,enc ls),(2,enc picks),(3,.ptr 3 []),(7,.ptr 7 []),(8,.own 908 (im m ls picks h++fR m ls picks h i).length),(9,.int .i64 h),(10,.int .i64 i)] [(3,.box (enc m)),(7,.box (enc (iI N h (fR m ls picks h i).length))),(908,.b9 68 17 ((im m ls picks h++fR m ls picks h i).map enc))]) (fun i=>i≤iG ls) (fun i=>iG ls-i) 0 (zw3 _) ?_ (fun i hi =>?_)
 ·simp only[fR,zx6,zv0];refine aB.bE ?_ ?_ ?_ ?_ <;>simp[aQ,bt,br,aY,aq,aS,bT,I.only,ah.only,c9,bg]
 by_cases hlt:i<iG ls
 case neg =>
  have he:i=iG ls:=by omega
  subst he;have hnx:iI N h (fR m ls picks h (iG ls)).length=iI N (h+1) 0:=by
   have:(fR m ls picks h (iG ls)).length=N h:=by rw[hN]
   rw[this,ank]
  rw[hnx];by_cases hq:iG ls<ls.length
  ·have q1:=fw hq;have q20:iG ls=20:=by simp only[iG] at hq ⊢;omega
   have q2:decide ((iG ls:Int)<20)=false:=by rw[q20];rfl
   have R:=v6 @q1 (v6 @q2 (v6 @hwh (v6 @aZ (v6 @aO @ab))))
   repeat' ((first |(with_reducible refine .guard (fun hb =>?_) (fun hb =>?_) <;>try simp only[hb])|refine U.aI (by decide +kernel) rfl fun K hK =>?_|(refine .aD [0,1,2,3,6,7,8,9,10,11,12,14,24,35,70,74,78,91,97] hK ?_;clear hK K)|(with_reducible refine .done (hK _ ?_);clear hK K)|refine U.of rfl ?_|(with_reducible refine al.aH (fun h =>?_) (fun h =>?_) <;>try simp only[h])) <;>try simp only[aJ,R,Nat.reduceEqDiff,reduceIte,Nat.reduceBEq])
   all_goals clear R
   refine ⟨h+1,by omega,by omega,?_⟩;simp only[im];refine aB.bE ?_ ?_ ?_ ?_ <;>simp[aQ,bt,br,aY,aq,aS,bT,I.only,ah.only,c9,fI,bg]
  ·have q1:=fP hq;have R:=v6 @q1 (v6 @hwh (v6 @aZ (v6 @aO @ab)))
   repeat' ((first |(with_reducible refine .guard (fun hb =>?_) (fun hb =>?_) <;>try simp only[hb])|refine U.aI (by decide +kernel) rfl fun K hK =>?_|(refine .aD [0,1,2,3,6,7,8,9,10,11,12,14,24,35,70,74,78,91,97] hK ?_;clear hK K)|(with_reducible refine .done (hK _ ?_);clear hK K)|refine U.of rfl ?_|(with_reducible refine al.aH (fun h =>?_) (fun h =>?_) <;>try simp only[h])) <;>try simp only[aJ,R,Nat.reduceEqDiff,reduceIte,Nat.reduceBEq])
   all_goals clear R
   refine ⟨h+1,by omega,by omega,?_⟩;simp only[im];refine aB.bE ?_ ?_ ?_ ?_ <;>simp[aQ,bt,br,aY,aq,aS,bT,I.only,ah.only,c9,fI,bg]
 have q1:decide ((i:Int)<(ls.length:Int))=true:=fw (by omega);have q2:decide ((i:Int)<20)=true:=by simp;omega
 have hwi:=ea (i:=i) (by omega);have hil:i<ls.length:=by omega
 have he:=fun A=>fm (A:=A) 9 hil rfl;have hn:ls.getD i z9=ls[i]:=by rw[zz0,zy0 hil];rfl
 have hsu:fR m ls picks h (i+1)=rq m ls picks h (fR m ls picks h i) i:=rfl;have hhl:=uC m ls picks h i;simp only[rq,hn] at hsu;generalize ls[i]=n at he hsu;generalize fR m ls picks h i=o at hsu hhl ⊢;generalize im m ls picks h=pre at hal ⊢;have hin:=fun c y=>gh (n:=3) 1 (k:=(h:Int)) (iI N h c) (y:=y) ⟨by omega,by omega⟩ rfl;have hag:=fun c=>(eL (p:=[]) (iI N h c) hh3).trans (hT _);have hng:=fun c=>anj (N:=N) (c:=c) hh3;have hst:=fun (A:af) c v u rest=>pU (A:=A) (n:=7) (iI N h c) hh3 (v:=v) (u:=u) (rest:=rest);have hup:=fun c c'=>anl (N:=N) (c:=c) c' hh3;have hto:((h:Int)).toNat=h:=Int.toNat_natCast h;have hwo:=ea (i:=o.length) (by omega);have happ:=fun (A:af) d rest (y:ak)=>m9 (α:=ak) (A:=A) (d:=d) 68 17 136 908 (l:=(pre++o).length) (es:=pre++o) (ys:=[y]) (rest:=rest) rfl rfl (by simp) (by simp[maxLen];omega) (by simp;omega);have hbs:=fun y:ak=>nW 17 y rfl;have hR:=ao5 n;have w6:=vE (n.g 4) 6 (by omega) (by omega);have w2:=vE (n.g 5) 2 (by omega) (by omega);have w12:=vE (n.g 6) 12 (by omega) (by omega);rcases c1:(n.g 0%3 != (h:Int))
 case true =>
  have c1':¬ n.g 0%3=(h:Int):=by simpa using c1
  rw[if_neg (fun hx=>c1' hx.1)] at hsu;have R:=v6 @q1 (v6 @q2 (v6 @hwi (v6 @he (v6 @hR (v6 @c1 (v6 @qo (v6 @rm (v6 @qS (v6 @aZ (v6 @aO @ab))))))))))
  repeat' ((first |(with_reducible refine .guard (fun hb =>?_) (fun hb =>?_) <;>try simp only[hb])|refine U.aI (by decide +kernel) rfl fun K hK =>?_|refine .flat _ (gQ _ _ (by first | decide | omega) (by first | decide | omega)) rfl ?_|(refine .aD [0,1,2,3,6,7,8,9,10,11,12,14,24,35,70,74,78,91,97] hK ?_;clear hK K)|(with_reducible refine .done (hK _ ?_);clear hK K)|refine U.of rfl ?_|(with_reducible refine al.aH (fun h =>?_) (fun h =>?_) <;>try simp only[h])) <;>try simp only[aJ,R,Nat.reduceEqDiff,reduceIte,Nat.reduceBEq])
  all_goals clear R
  refine ⟨i+1,by omega,by omega,?_⟩;simp only[hsu];refine aB.bE ?_ ?_ ?_ ?_ <;>simp[aQ,bt,br,aY,aq,aS,bT,I.only,ah.only,c9,fI,bg]
 have c1':n.g 0%3=(h:Int):=by simpa using c1
 have hS:∀ hg:0<m.given.length,aA Tryz.prog 35 [enc m,enc (dc m (n.g 8%(m.given.length:Int)).toNat).mark,enc (rh picks i)] (enc (sI m (dc m (n.g 8%(m.given.length:Int)).toNat).mark (rh picks i))):=fun hg=>by
  have a1:=zv1 (n.g 8) (show (m.given.length:Int)≠0 by omega);have a2:=zv7 (n.g 8) (show (0:Int)<(m.given.length:Int) by omega);exact Sg m _ _ (by simp[rh];omega) hw (LN hm (by omega)) hf0 hf2
 have hSh:=Sq picks i hl;by_cases k0:n.g 1%7=0
 ·have k1:(n.g 1%7==0)=true:=by simp[k0]
  have k4:(n.g 1%7==4)=false:=by simp[k0]
  by_cases o0:o.length=0
  ·have z0:((o.length:Int)==0)=true:=by simp[o0]
   rw[if_neg (fun hx=>hx.2 ⟨k0,o0⟩)] at hsu;rcases cd:(n.g 7%7==1+n.g 4%6)
   all_goals
    have R:=v6 @q1 (v6 @q2 (v6 @hwi (v6 @he (v6 @hR (v6 @c1 (v6 @cd (v6 @k1 (v6 @z0 (v6 @hin (v6 @hag (v6 @hng (v6 @hto (v6 @w6 (v6 @w2 (v6 @w12 (v6 @qo (v6 @rm (v6 @qS (v6 @qh (v6 @rS (v6 @rJ (v6 @aZ (v6 @aO @ab)))))))))))))))))))))))
    repeat' ((first |(with_reducible refine .guard (fun hb =>?_) (fun hb =>?_) <;>try simp only[hb])|refine U.aI (by decide +kernel) rfl fun K hK =>?_|refine .flat _ (gQ _ _ (by first | decide | omega) (by first | decide | omega)) rfl ?_|(refine .aD [0,1,2,3,6,7,8,9,10,11,12,14,24,35,70,74,78,91,97] hK ?_;clear hK K)|(with_reducible refine .done (hK _ ?_);clear hK K)|refine U.of rfl ?_|(with_reducible refine al.aH (fun h =>?_) (fun h =>?_) <;>try simp only[h])) <;>try simp only[aJ,R,Nat.reduceEqDiff,reduceIte,Nat.reduceBEq])
    all_goals clear R
    refine ⟨i+1,by omega,by omega,?_⟩;simp only[hsu];refine aB.bE ?_ ?_ ?_ ?_ <;>simp[aQ,bt,br,aY,aq,aS,bT,I.only,ah.only,c9,fI,bg]
  ·have z0:((o.length:Int)==0)=false:=beq_eq_false_iff_ne.2 (by omega);rw[if_pos ⟨c1',fun hx=>o0 hx.2⟩] at hsu;rcases cd:(n.g 7%7==1+n.g 4%6)
   all_goals
    have hraw:lg m picks h o.length i n=⟨⟨h,o.length⟩,n.g 1%7,0,n.g 3%40,1+n.g 4%6,if n.g 7%7=1+n.g 4%6 then 0 else n.g 7%7,1+n.g 5%2,1+n.g 6%12,mX,⟨h,n.g 4%(o.length:Int)⟩⟩:=by simp[lg,k0]
    have cd':=cd;simp only[beq_iff_eq,beq_eq_false_iff_ne,ne_eq] at cd';simp only[cd',if_true,if_false] at hraw;rw[hraw] at hsu;have R:=v6 @q1 (v6 @q2 (v6 @hwi (v6 @hwo (v6 @he (v6 @hR (v6 @c1 (v6 @cd (v6 @k1 (v6 @k4 (v6 @z0 (v6 @hin (v6 @hag (v6 @hng (v6 @hst (v6 @hup (v6 @hto (v6 @w6 (v6 @w2 (v6 @w12 (v6 @happ (v6 @hbs (v6 @qo (v6 @rm (v6 @qS (v6 @qh (v6 @rS (v6 @rJ (v6 @aZ (v6 @aO @ab)))))))))))))))))))))))))))))
    repeat' ((first |(with_reducible refine .guard (fun hb =>?_) (fun hb =>?_) <;>try simp only[hb])|refine U.aI (by decide +kernel) rfl fun K hK =>?_|refine .flat _ (gQ _ _ (by first | decide | omega) (by first | decide | omega)) rfl ?_|refine .lead _ (s8 _) ?_|(refine .aD [0,1,2,3,6,7,8,9,10,11,12,14,24,35,70,74,78,91,97] hK ?_;clear hK K)|(with_reducible refine .done (hK _ ?_);clear hK K)|refine U.of rfl ?_|(with_reducible refine al.aH (fun h =>?_) (fun h =>?_) <;>try simp only[h])) <;>try simp only[aJ,R,Nat.reduceEqDiff,reduceIte,Nat.reduceBEq])
    all_goals clear R
    refine ⟨i+1,by omega,by omega,?_⟩;rw[hsu,←zz5];refine aB.bE ?_ ?_ ?_ ?_ <;>simp[aQ,bt,br,aY,aq,aS,bT,I.only,I.bV,ah.only,c9,fI,bg]
 have k1:(n.g 1%7==0)=false:=by simp[k0]
 rw[if_pos ⟨c1',fun hx=>k0 hx.1⟩] at hsu;by_cases k4':n.g 1%7=4
 ·have k4:(n.g 1%7==4)=true:=by simp[k4']
  by_cases fX:0<m.given.length
  ·have g1:decide ((0:Int)<(m.given.length:Int))=true:=decide_eq_true (by omega);have hS1:=hS fX;have hgi:∀ A,jh A 7 (n.g 8%(m.given.length:Int)) (enc m.given)=some (.ref (enc (dc m (n.g 8%(m.given.length:Int)).toNat))):=fun A=>by
    have a1:=zv1 (n.g 8) (show (m.given.length:Int)≠0 by omega);have a2:=zv7 (n.g 8) (show (0:Int)<(m.given.length:Int) by omega);have a3:n.g 8%(m.given.length:Int)=((n.g 8%(m.given.length:Int)).toNat:Int):=(Int.toNat_of_nonneg a1).symm;have:=yO (A:=A) (m:=m) (i:=(n.g 8%(m.given.length:Int)).toNat) (by rw[a3] at a2;exact Int.ofNat_lt.1 a2)
    rwa [←a3] at this
   rcases cd:(n.g 7%7==1+n.g 4%6)
   all_goals
    have hraw:lg m picks h o.length i n=⟨⟨h,o.length⟩,n.g 1%7,n.g 2%30,n.g 3%40,1+n.g 4%6,if n.g 7%7=1+n.g 4%6 then 0 else n.g 7%7,1+n.g 5%2,1+n.g 6%12,sI m (dc m (n.g 8%(m.given.length:Int)).toNat).mark (rh picks i),⟨0,0⟩⟩:=by simp[lg,k4',vr,fX]
    have cd':=cd;simp only[beq_iff_eq,beq_eq_false_iff_ne,ne_eq] at cd';simp only[cd',if_true,if_false] at hraw;rw[hraw] at hsu;have R:=v6 @q1 (v6 @q2 (v6 @hwi (v6 @hwo (v6 @he (v6 @hR (v6 @c1 (v6 @cd (v6 @k1 (v6 @k4 (v6 @g1 (v6 @hgi (v6 @hin (v6 @hag (v6 @hng (v6 @hst (v6 @hup (v6 @hto (v6 @w6 (v6 @w2 (v6 @w12 (v6 @happ (v6 @hbs (v6 @qo (v6 @rm (v6 @qS (v6 @fp (v6 @qh (v6 @rS (v6 @BR (v6 @EW (v6 @rJ (v6 @cI (v6 @aZ (v6 @aO @ab))))))))))))))))))))))))))))))))))
    repeat' ((first |(with_reducible refine .guard (fun hb =>?_) (fun hb =>?_) <;>try simp only[hb])|refine U.aI (by decide +kernel) rfl fun K hK =>?_|refine .flat _ (gQ _ _ (by first | decide | omega) (by first | decide | omega)) rfl ?_|refine .lead _ (s8 _) ?_|refine .lead _ (hSh) ?_|refine .lead _ (hS1) ?_|(refine .aD [0,1,2,3,6,7,8,9,10,11,12,14,24,35,70,74,78,91,97] hK ?_;clear hK K)|(with_reducible refine .done (hK _ ?_);clear hK K)|refine U.of rfl ?_|(with_reducible refine al.aH (fun h =>?_) (fun h =>?_) <;>try simp only[h])) <;>try simp only[aJ,R,Nat.reduceEqDiff,reduceIte,Nat.reduceBEq])
    all_goals clear R
    refine ⟨i+1,by omega,by omega,?_⟩;rw[hsu,←zz5];refine aB.bE ?_ ?_ ?_ ?_ <;>simp[aQ,bt,br,aY,aq,aS,bT,I.only,I.bV,ah.only,c9,fI,bg]
  ·have g1:decide ((0:Int)<(m.given.length:Int))=false:=decide_eq_false (by omega);rcases cd:(n.g 7%7==1+n.g 4%6)
   all_goals
    have hraw:lg m picks h o.length i n=⟨⟨h,o.length⟩,n.g 1%7,n.g 2%30,n.g 3%40,1+n.g 4%6,if n.g 7%7=1+n.g 4%6 then 0 else n.g 7%7,1+n.g 5%2,1+n.g 6%12,An,⟨0,0⟩⟩:=by simp[lg,k4',vr,fX]
    have cd':=cd;simp only[beq_iff_eq,beq_eq_false_iff_ne,ne_eq] at cd';simp only[cd',if_true,if_false] at hraw;rw[hraw] at hsu;have R:=v6 @q1 (v6 @q2 (v6 @hwi (v6 @hwo (v6 @he (v6 @hR (v6 @c1 (v6 @cd (v6 @k1 (v6 @k4 (v6 @g1 (v6 @hin (v6 @hag (v6 @hng (v6 @hst (v6 @hup (v6 @hto (v6 @w6 (v6 @w2 (v6 @w12 (v6 @happ (v6 @hbs (v6 @qo (v6 @rm (v6 @qS (v6 @fp (v6 @qh (v6 @rS (v6 @BR (v6 @EW (v6 @rJ (v6 @cI (v6 @aZ (v6 @aO @ab)))))))))))))))))))))))))))))))))
    repeat' ((first |(with_reducible refine .guard (fun hb =>?_) (fun hb =>?_) <;>try simp only[hb])|refine U.aI (by decide +kernel) rfl fun K hK =>?_|refine .flat _ (gQ _ _ (by first | decide | omega) (by first | decide | omega)) rfl ?_|refine .lead _ (s8 _) ?_|(refine .aD [0,1,2,3,6,7,8,9,10,11,12,14,24,35,70,74,78,91,97] hK ?_;clear hK K)|(with_reducible refine .done (hK _ ?_);clear hK K)|refine U.of rfl ?_|(with_reducible refine al.aH (fun h =>?_) (fun h =>?_) <;>try simp only[h])) <;>try simp only[aJ,R,Nat.reduceEqDiff,reduceIte,Nat.reduceBEq])
    all_goals clear R
    refine ⟨i+1,by omega,by omega,?_⟩;rw[hsu,←zz5];refine aB.bE ?_ ?_ ?_ ?_ <;>simp[aQ,bt,br,aY,aq,aS,bT,I.only,I.bV,ah.only,c9,fI,bg]
 ·have k4:(n.g 1%7==4)=false:=by simp[k4']
  rcases cd:(n.g 7%7==1+n.g 4%6)
  all_goals
   have hraw:lg m picks h o.length i n=⟨⟨h,o.length⟩,n.g 1%7,n.g 2%30,n.g 3%40,1+n.g 4%6,if n.g 7%7=1+n.g 4%6 then 0 else n.g 7%7,1+n.g 5%2,1+n.g 6%12,mX,⟨0,0⟩⟩:=by simp[lg,k0,k4']
   have cd':=cd;simp only[beq_iff_eq,beq_eq_false_iff_ne,ne_eq] at cd';simp only[cd',if_true,if_false] at hraw;rw[hraw] at hsu;have R:=v6 @q1 (v6 @q2 (v6 @hwi (v6 @hwo (v6 @he (v6 @hR (v6 @c1 (v6 @cd (v6 @k1 (v6 @k4 (v6 @hin (v6 @hag (v6 @hng (v6 @hst (v6 @hup (v6 @hto (v6 @w6 (v6 @w2 (v6 @w12 (v6 @happ (v6 @hbs (v6 @qo (v6 @rm (v6 @qS (v6 @qh (v6 @rS (v6 @rJ (v6 @aZ (v6 @aO @ab))))))))))))))))))))))))))))
   repeat' ((first |(with_reducible refine .guard (fun hb =>?_) (fun hb =>?_) <;>try simp only[hb])|refine U.aI (by decide +kernel) rfl fun K hK =>?_|refine .flat _ (gQ _ _ (by first | decide | omega) (by first | decide | omega)) rfl ?_|refine .lead _ (s8 _) ?_|(refine .aD [0,1,2,3,6,7,8,9,10,11,12,14,24,35,70,74,78,91,97] hK ?_;clear hK K)|(with_reducible refine .done (hK _ ?_);clear hK K)|refine U.of rfl ?_|(with_reducible refine al.aH (fun h =>?_) (fun h =>?_) <;>try simp only[h])) <;>try simp only[aJ,R,Nat.reduceEqDiff,reduceIte,Nat.reduceBEq])
   all_goals clear R
   refine ⟨i+1,by omega,by omega,?_⟩;rw[hsu,←zz5];refine aB.bE ?_ ?_ ?_ ?_ <;>simp[aQ,bt,br,aY,aq,aS,bT,I.only,I.bV,ah.only,c9,fI,bg]
def wj:aP:=⟨0,0,0,0,0,0,0,false,[]⟩
def lv:I:=.agg [.int .i64 0,.int .i64 0,.int .i64 0,.int .i64 0,.int .i64 0,.int .i64 0,.int .i64 0,.bool false,.nils 6]
theorem qp:I.agg [.int .i64 0,.int .i64 0,.int .i64 0,.int .i64 0,.int .i64 0,.int .i64 0,.int .i64 0,.bool false,.nils 6]=lv:=rfl
theorem ry:(∀ (A:af) n w rest,dT A (some 9) n [] w lv rest (some lv)=aF rest (A.aU n (.box lv)))∧(∀ (A:af) n w (b:aP) rest,dT A (some 9) n [] w (enc b) rest (some lv)=aF rest (A.aU n (.box (enc b)))) ∧
  (∀ aC A,bC aC A lv=some (enc wj))∧cj (some 9) lv=true∧((dN [.int .i64 0,.int .i64 0,.int .i64 0,.int .i64 0,.int .i64 0,.int .i64 0,.int .i64 0,.bool false,.nils 6] []).map .agg=some lv)∧(lv.cq=true) :=
 ⟨fun A n w rest=>by rw[eG (s:=some 9) (v:=lv) (old:=lv) rfl rfl rfl,fT],fun A n w b rest=>apY,fun aC A=>by simp[lv,bC,cn];rfl,rfl,rfl,rfl⟩
def jW(l:List ak)(no known:Int):aP×Int:=if eS l [ep no 9999] [known]=0 then (match cM (cA l 100000 known) no with
 |none=>(wj,42)
 |some b=>(b,0)) else (wj,eS l [ep no 9999] [known])
abbrev gb(l:List ak):Prop:=l.Pairwise fun a b=>before a.bd b.bd=true
theorem pS{l:List ak}(h:gb l){i j:Nat}(hij:i<j)(hj:j<l.length):before (ae l i).bd (ae l j).bd=true:=by
 rw[←fN hj,←fN (show i<l.length by omega)];exact List.pairwise_iff_getElem.1 h i j (by omega) hj hij
theorem oI{l:List ak}(h:c8 l=true):gb l:=(oH.1 h).2.2
theorem NM(l:List ak)(a:Item):dQ l a≤l.length:=List.findIdx_le_length
theorem zM{l:List ak}{a:Item}{i:Nat}(hi:i≤l.length)(h1:∀ k,k<i→before (ae l k).bd a=true)(h2:i<l.length→before (ae l i).bd a=false):dQ l a=i:=by
 simp only[dQ];by_cases hlt:i<l.length
 ·refine (List.findIdx_eq hlt).2 ⟨by rw[fN hlt,h2 hlt];rfl,fun j hj =>?_⟩;rw[fN (by omega),h1 j hj];rfl
 ·have e:i=l.length:=by omega
  rw[e];refine List.findIdx_eq_length.2 fun x hx =>?_;obtain ⟨k,hk,rfl⟩:=zu3 hx;rw[fN hk,h1 k (by omega)];rfl
theorem aoN{l:List ak}(hs:gb l){a:Item}{k:Nat}(h1:dQ l a≤k)(hk:k<l.length):before (ae l k).bd a=false:=by
 have hp:dQ l a<l.length:=by omega
 have h2:(!before (l[dQ l a]).bd a)=true:=List.findIdx_getElem (w:=hp);rw[fN hp] at h2;by_cases e:k=dQ l a
 ·rw[e];simpa using h2
 ·cases hb:before (ae l k).bd a with
  |false=>rfl
  |true =>
   have:=qg (pS hs (show dQ l a<k by omega) hk) hb;rw[this] at h2;cases h2
theorem aoL{l:List ak}{a:Item}{k:Nat}(h:k<dQ l a):before (ae l k).bd a=true:=by
 have hk:k<l.length:=Nat.lt_of_lt_of_le h (NM l a);have:=List.not_of_lt_findIdx (p:=fun x:ak => !before x.bd a) (xs:=l) (i:=k) h;rw[fN hk] at this;simpa using this
theorem uf{l:List ak}(hs:gb l)(a:Item):jg l a=(decide (dQ l a<l.length)&&decide ((ae l (dQ l a)).bd=a)):=by
 rw[Bool.eq_iff_iff,zz3,decide_eq_true_eq,decide_eq_true_eq];constructor
 ·intro h;simp only[jg,List.any_eq_true,decide_eq_true_eq] at h;obtain ⟨x,hx,rfl⟩:=h;obtain ⟨k,hk,rfl⟩:=zu3 hx;rw[fN hk];have h1:dQ l (ae l k).bd=k:=zM (by omega) (fun j hj=>pS hs hj hk) (fun _=>o5 _);rw[h1];exact ⟨hk,rfl⟩
 ·rintro ⟨h1,h2⟩;exact yz h1 h2
theorem A1(x:ak)(a:Item):aA Tryz.prog 143 [enc x,enc a] (enc (ma x.bd a)):=by
 refine aA.bp Tryz.func143 Uv Wt YK (t7 rfl) (fun hwf W0 D0 E1 =>?_);simp only[Cr,On,bl,zz4];have R:=v6 @aO @ab
 repeat' ((first |refine U.aI (by decide +kernel) rfl fun K hK =>?_|refine .flat _ (vL _ _) rfl ?_|(refine .aD [0,1,2,3,4] hK ?_;clear hK K)|(with_reducible refine .done (hK _ ?_);clear hK K)|refine U.of rfl ?_|(with_reducible refine al.aH (fun h =>?_) (fun h =>?_) <;>try simp only[h])) <;>try simp only[aJ,R,Nat.reduceEqDiff,reduceIte,Nat.reduceBEq])
 all_goals clear R
theorem Rw(l:List ak)(a:Item)(hs:gb l)(hl:l.length≤1000):aA Tryz.prog 142 [enc l,enc a,.func 143 []] (.tuple [enc (dQ l a:Int),enc (jg l a)]):=by
 refine aA.bp Tryz.func142 Uu Ws YJ (t7 rfl) (fun hwf W0 D0 E1 =>?_);simp only[Cq,Om,bl,zz4,Nat.reduceAdd];clear hwf;have R:=v6 @gK (v6 @aZ (v6 @aO @ab))
 repeat' ((first |(with_reducible refine .guard (fun hb =>?_) (fun hb =>?_) <;>try simp only[hb])|refine U.aI (by decide +kernel) rfl fun K hK =>?_|(refine .aD [0,1,2,4,6,7,8,9,10,11,17,31] hK ?_;clear hK K)|(with_reducible refine .done (hK _ ?_);clear hK K)|refine U.of rfl ?_|(with_reducible refine al.aH (fun h =>?_) (fun h =>?_) <;>try simp only[h])) <;>try simp only[aJ,R,Nat.reduceEqDiff,reduceIte,Nat.reduceBEq])
 all_goals clear R
 refine U.loop (fun s:Nat×Nat=>aw [(0,enc l),(2,.func 143 []),(4,.ptr 4 []),(8,.int .i64 l.length),(9,.int .i64 s.1),(10,.int .i64 s.2)] [(4,.box (enc a))]) (fun s=>s.1≤s.2∧s.2≤l.length∧(∀ k,k<s.1→before (ae l k).bd a=true)∧∀ k,s.2≤k→k<l.length→before (ae l k).bd a=false) (fun s=>s.2-s.1) (0,l.length) ⟨zw3 _,zz7 _,fun k hk=>by omega,fun k h1 h2=>by omega⟩ ?_ ?_
 ·refine aB.bE ?_ ?_ ?_ ?_ <;>simp[aQ,bt,br,aY,aq,aS,bT,I.only,I.bV,ah.only,bg]
 rintro ⟨i,j⟩ ⟨h1,h2,h3,h4⟩;simp only at h1 h2 h3 h4 ⊢;by_cases hlt:i<j
 ·have hc:=fw hlt;have w1:=kN i j (by omega);have w2:=nx (x:=i+j) (by omega);obtain ⟨h,hh⟩:∃ h,h=(i+j) / 2:=⟨_,rfl⟩
  have w5:=sR (n:=h) (by omega);have hhl:h<l.length:=by omega
  have he:=fun A=>kv (A:=A) hhl;have hn:=Ep (ae l h).bd a;have hw:=ea (i:=h) (by omega);rcases hb:before (ae l h).bd a
  all_goals
   rw[hb] at hn;have R:=v6 @hc (v6 @w1 (v6 @w2 (v6 @w5 (v6 @he (v6 @hn (v6 @hw (v6 @oC (v6 @oB (v6 @gK (v6 @dL (v6 @aZ (v6 @aO @ab))))))))))))
   repeat' ((first |(with_reducible refine .guard (fun hb =>?_) (fun hb =>?_) <;>try simp only[hb])|refine U.aI (by decide +kernel) rfl fun K hK =>?_|refine .flat _ (A1 _ _) rfl ?_|(refine .aD [0,1,2,4,6,7,8,9,10,11,17,31] hK ?_;clear hK K)|(with_reducible refine .done (hK _ ?_);clear hK K)|refine U.of rfl ?_|(with_reducible refine al.aH (fun h =>?_) (fun h =>?_) <;>try simp only[h])) <;>try simp only[aJ,R,←hh,zz9,Nat.reduceEqDiff,reduceIte,Nat.reduceBEq])
   all_goals clear R
  ·refine ⟨(i,h),⟨by simp only;omega,by simp only;omega,h3,fun k hk hkl =>?_⟩,by simp only;omega,?_⟩
   ·simp only at hk;cases hbk:before (ae l k).bd a with
    |false=>rfl
    |true =>
     by_cases e:k=h
     ·rw[e,hb] at hbk;cases hbk
     ·have:=qg (pS hs (show h<k by omega) hkl) hbk;rw[this] at hb;cases hb
   ·refine aB.bE ?_ ?_ ?_ ?_ <;>simp[aQ,bt,br,aY,aq,aS,bT,I.only,I.bV,ah.only,bg]
  ·refine ⟨(h+1,j),⟨by simp only;omega,h2,fun k hk =>?_,h4⟩,by simp only;omega,?_⟩
   ·simp only at hk;by_cases e:k=h
    ·rw[e];exact hb
    ·cases hbk:before (ae l k).bd a with
     |true=>rfl
     |false =>
      have:=qg (pS hs (show k<h by omega) hhl) hb;rw[this] at hbk;cases hbk
   ·refine aB.bE ?_ ?_ ?_ ?_ <;>simp[aQ,bt,br,aY,aq,aS,bT,I.only,I.bV,ah.only,bg]
 ·have hij:i=j:=by omega
  subst hij;have hc:=fP hlt;have hp:dQ l a=i:=zM h2 h3 fun h=>h4 i (zz7 _) h;have hh:=uf hs a;rw[hp] at hh;rw[hp,hh];by_cases hil:i<l.length
  ·have hc2:=fw hil;have he:=fun A=>kv (A:=A) hil;have hz:=Yb (ae l i).bd a;have hd:decide (i<l.length)=true:=decide_eq_true hil;have R:=v6 @hc (v6 @hc2 (v6 @he (v6 @hz (v6 @hd (v6 @gK (v6 @dL (v6 @aZ (v6 @aO @ab))))))))
   repeat' ((first |(with_reducible refine .guard (fun hb =>?_) (fun hb =>?_) <;>try simp only[hb])|refine U.aI (by decide +kernel) rfl fun K hK =>?_|refine .flat _ (A1 _ _) rfl ?_|(refine .aD [0,1,2,4,6,7,8,9,10,11,17,31] hK ?_;clear hK K)|(with_reducible refine .done (hK _ ?_);clear hK K)|refine U.of rfl ?_|(with_reducible refine al.aH (fun h =>?_) (fun h =>?_) <;>try simp only[h])) <;>try simp only[aJ,R,zz9,Nat.reduceEqDiff,reduceIte,Nat.reduceBEq])
   all_goals clear R
   all_goals simp
  ·have hc2:=fP hil;have hd:decide (i<l.length)=false:=decide_eq_false hil;have R:=v6 @hc (v6 @hc2 (v6 @hd (v6 @gK (v6 @aZ (v6 @aO @ab)))))
   repeat' ((first |(with_reducible refine .guard (fun hb =>?_) (fun hb =>?_) <;>try simp only[hb])|refine U.aI (by decide +kernel) rfl fun K hK =>?_|(refine .aD [0,1,2,4,6,7,8,9,10,11,17,31] hK ?_;clear hK K)|(with_reducible refine .done (hK _ ?_);clear hK K)|refine U.of rfl ?_|(with_reducible refine al.aH (fun h =>?_) (fun h =>?_) <;>try simp only[h])) <;>try simp only[aJ,R,Nat.reduceEqDiff,reduceIte,Nat.reduceBEq])
   all_goals clear R
   all_goals rfl
theorem AQ(l:List ak)(a:Item)(hs:gb l)(hl:l.length≤1000):aA Tryz.prog 103 [enc l,enc a] (.tuple [enc (dQ l a:Int),enc (jg l a)]):=by
 have hF:=Rw l a hs hl;refine aA.bp Tryz.func103 T0 V0 Yh (t7 rfl) (fun hwf W0 D0 E1 =>?_);simp only[BW,NT,bl,zz4];clear hwf;have R:=v6 @gK (v6 @aZ (v6 @aO @ab))
 repeat' ((first |refine U.aI (by decide +kernel) rfl fun K hK =>?_|refine .lead _ (hF) ?_|(refine .aD [0,1,3,4,5] hK ?_;clear hK K)|(with_reducible refine .done (hK _ ?_);clear hK K)|refine U.of rfl ?_|(with_reducible refine al.aH (fun h =>?_) (fun h =>?_) <;>try simp only[h])) <;>try simp only[aJ,R,Nat.reduceEqDiff,reduceIte,Nat.reduceBEq])
 all_goals clear R
theorem an9(h c:Nat)(k d kn b s o dm f:Int)(r:aX 6 Int)(hh:h≤5)(hc:c≤9999)(h1:0≤k∧k≤6)(h2:0≤d∧d≤100)(h3:0≤kn∧kn≤100)(h4:1≤b∧b≤6)(h5:1≤s∧s≤2)(h6:1≤o∧o≤12)(h7:0≤dm∧dm≤6∧dm≠b)(h8:k=0→0≤f∧f<c)(h9:k=4→iJ r=true) :
  gB (jt ⟨⟨h,c⟩,k,if k=0 then 0 else d,kn,b,dm,s,o,if k=4 then r else mX,if k=0 then ⟨h,f⟩ else ⟨0,0⟩⟩)=true:=by
 obtain hk | hk | hk | hk | hk | hk | hk:k=0∨k=1∨k=2∨k=3∨k=4∨k=5∨k=6:=by omega
 all_goals
  subst hk;simp[gB,oc,jt,ou,b7]
 all_goals first
  |omega
  |(have:=h8 rfl;omega)
  |(refine ⟨?_,?_⟩ <;>first | exact ⟨by omega,h9 rfl⟩ | exact h9 rfl | omega)
  |(have:=h9 rfl;simp[this];omega)
theorem aoa{m:bY}(hm:ed m=true)(picks:List Int)(h c i:Nat)(n:fL)(hh:h≤5)(hc:c≤9999)(h0:n.g 1%7=0→0<c):gB (jt (lg m picks h c i n))=true:=by
 obtain ⟨hw,-,-⟩:=M8 hm;refine an9 h c _ _ _ _ _ _ _ _ _ hh hc ?_ ?_ ?_ ?_ ?_ ?_ ?_ ?_ ?_
 iterate 6 omega
 ·refine ⟨?_,?_,?_⟩ <;>split <;>omega
 ·intro hk;have:=h0 hk;exact ⟨zv1 _ (by omega),zv7 _ (by omega)⟩
 ·intro _;simp only[vr];split
  ·rename_i hg;have a1:=zv1 (n.g 8) (show (m.given.length:Int)≠0 by omega);have a2:=zv7 (n.g 8) (show (0:Int)<(m.given.length:Int) by omega);exact apC hw (LN hm (by omega)) _
  ·decide
def mG(e:ak):Prop:=0≤e.bU∧e.bU≤12∧(e.kind=1∨e.kind=2→1≤e.dF∧e.dF≤2∧1≤e.eD∧e.eD≤6)
theorem amS{x:ak}(h1:1≤x.bU∧x.bU≤12)(h2:1≤x.dF∧x.dF≤2)(h3:1≤x.eD∧x.eD≤6):mG (jt x):=by
 refine ⟨?_,?_,fun hk =>?_⟩
 ·show 0≤(if x.kind=1∨x.kind=3∨x.kind=5 then x.bU else 0)
  split <;>omega
 ·show (if x.kind=1∨x.kind=3∨x.kind=5 then x.bU else 0)≤12
  split <;>omega
 ·have hk:x.kind=1∨x.kind=2:=hk
  show 1≤(if x.kind=1∨x.kind=2 then x.dF else 0)∧(if x.kind=1∨x.kind=2 then x.dF else 0)≤2∧1≤(if x.kind=0 then 0 else x.eD)∧(if x.kind=0 then 0 else x.eD)≤6
  rw[if_pos hk,if_neg (by omega)];omega
theorem amU(m:bY)(picks:List Int)(h c i:Nat)(n:fL):mG (jt (lg m picks h c i n)) :=
 amS (by show 1≤1+n.g 6%12∧1+n.g 6%12≤12;omega) (by show 1≤1+n.g 5%2∧1+n.g 5%2≤2;omega) (by show 1≤1+n.g 4%6∧1+n.g 4%6≤6;omega)
theorem y8{m:bY}(hm:ed m=true)(ls:List fL)(picks:List Int)(h:Nat)(hh:h≤5):∀ i,i≤9999→(∀ x∈fR m ls picks h i,gB x=true∧mG x)∧∀ k (hk:k<(fR m ls picks h i).length),((fR m ls picks h i)[k]).bd=⟨h,k⟩
 |0,_=>⟨by simp[fR],by simp[fR]⟩
 |i+1,hi=>by
  obtain ⟨h1,h2⟩:=y8 hm ls picks h hh i (by omega);have hl:=uC m ls picks h i;simp only[fR,rq];split
  ·rename_i hc;refine ⟨fun x hx =>?_,fun k hk =>?_⟩
   ·rcases zy5.1 hx with hx | hx
    ·exact h1 x hx
    ·simp only[zu6] at hx;subst hx;exact ⟨aoa hm picks h _ i _ hh (by omega) (fun hk=>Nat.pos_of_ne_zero fun e=>hc.2 ⟨hk,e⟩),amU ..⟩
   ·rw[List.getElem_append];split
    ·exact h2 k _
    ·rename_i hk2;simp only[zz2,zv3] at hk;have e:k=(fR m ls picks h i).length:=by omega
     subst e;simp[jt,lg]
  ·exact ⟨h1,h2⟩
theorem Mw{m:bY}(hm:ed m=true)(ls:List fL)(picks:List Int){h i:Nat}(hh:h≤5)(hi:i≤9999){x:ak}(hx:x∈fR m ls picks h i):x.bd.fc=(h:Int):=by
 obtain ⟨k,hk,rfl⟩:=zu3 hx;rw[(y8 hm ls picks h hh i hi).2 k hk]
theorem uB{m:bY}(hm:ed m=true)(ls:List fL)(picks:List Int):∀ h,h≤5→(∀ x∈im m ls picks h,gB x=true∧mG x∧x.bd.fc<(h:Int))∧gb (im m ls picks h)
 |0,_=>⟨by simp[im],.nil⟩
 |h+1,hh=>by
  obtain ⟨h1,h2⟩:=uB hm ls picks h (by omega);have hn:=(uD ls).2;obtain ⟨h3,h4⟩:=y8 hm ls picks h (by omega) (iG ls) (by omega);simp only[im];refine ⟨fun x hx =>?_,List.pairwise_append.2 ⟨h2,List.pairwise_iff_getElem.2 fun i j hi hj hij =>?_,fun a ha b hb =>?_⟩⟩
  ·rcases zy5.1 hx with hx | hx
   ·obtain ⟨a,b,c⟩:=h1 x hx;exact ⟨a,b,by omega⟩
   ·obtain ⟨a,b⟩:=h3 x hx;exact ⟨a,b,by rw[Mw hm ls picks (by omega) (by omega) hx];omega⟩
  ·rw[h4 i hi,h4 j hj];simp[before];omega
  ·have e1:=(h1 a ha).2.2;have e2:=Mw hm ls picks (by omega) (by omega) hb;simp[before,e2];omega
theorem M5{m:bY}(hm:ed m=true)(ls:List fL)(picks:List Int):c8 (mD m ls picks)=true:=by
 obtain ⟨h1,h2⟩:=uB hm ls picks 3 (by omega);exact oH.2 ⟨y7 m ls picks 3,fun x hx=>(h1 x hx).1,h2⟩
theorem amT{m:bY}(hm:ed m=true)(ls:List fL)(picks:List Int)(i:Nat):mG (ae (mD m ls picks) i):=by
 by_cases h:i<(mD m ls picks).length
 ·rw[←fN h];exact ((uB hm ls picks 3 (by omega)).1 _ (zx5 h)).2.1
 ·have:ae (mD m ls picks) i=default:=by simp[ae,zz0,List.getElem?_eq_none (Nat.le_of_not_lt h)]
  rw[this];exact ⟨by decide,by decide,by decide⟩
def mF(b:aP):Prop:=0≤b.bU∧b.bU≤12∧1≤b.dF∧b.dF≤2∧1≤b.no∧b.no≤9999
theorem amR{b b':aP}{x:ak}(hb:mF b)(hx:mG x)(h:lu b x=some b'):mF b':=by
 simp only[lu] at h;obtain ⟨x1,x2,x3⟩:=hx;obtain ⟨b1,b2,b3,b4,b5,b6⟩:=hb
 repeat' split at h
 all_goals first
  |(cases h;done)
  |(simp only[u8] at h;subst h;exact ⟨by simp only;omega,by simp only;omega,b3,b4,b5,b6⟩)
theorem amQ{bs bs':List aP}{x:ak}(hb:∀ b∈bs,mF b)(hx:mG x)(h:eR fh bs x=some bs'):∀ b∈bs',mF b:=by
 simp only[eR] at h;split at h
 ·rename_i hk;split at h
  ·simp only[u8] at h;subst h;intro b hm;simp only[fh,zy5,zu6] at hm;rcases hm with hm | rfl
   ·exact hb b hm
   ·obtain ⟨x1,x2,x3⟩:=hx;have:=x3 hk;exact ⟨x1,x2,this.1,this.2.1,this.2.2.1,by simp only[gz];omega⟩
  ·cases h
 ·split at h
  ·cases h
  ·rename_i b0 hb0;simp only[zz1] at h;obtain ⟨b',hb',rfl⟩:=h;intro b hm;simp only[mR,zw1] at hm;obtain ⟨a,ha,rfl⟩:=hm;split
   ·exact amR (hb b0 (LG hb0).1) hx hb'
   ·exact hb a ha
theorem MB(l:List ak)(hl:∀ i,mG (ae l i)):∀ (o:List Nat) (s:List aP×List Nat),(∀ b∈s.1,mF b)→∀ b∈(o.foldl (lV fh l) s).1,mF b
 | [],_,h=>h
 |i::o,s,h=>by
  refine MB l hl o _ ?_;simp only[lV];split
  ·rename_i bs hbs;exact amQ h (hl i) hbs
  ·exact h
theorem MC{l:List ak}(hl:∀ i,mG (ae l i))(day known:Int):∀ b∈cA l day known,mF b:=MB l hl _ _ (by simp)
def o6(bs:List aP)(o s:Int):Nat:=(bs.filter fun b => !decide (0≤b.dW)&&(b.bU==o&&b.dF==s)).length
def mW(bs:List aP)(o:Nat):Nat→Nat
 |0=>0
 |s+1=>mW bs o s+o6 bs ((o+1:Nat):Int) ((s+1:Nat):Int)
def kg(bs:List aP):Nat→Nat
 |0=>0
 |o+1=>kg bs o+mW bs o 2
def pB(bs:List aP)(n:Nat):Nat:=(bs.filter fun b => !decide (0≤b.dW)&&(decide (1≤b.bU)&&decide (b.bU≤(n:Int)))).length
theorem Yc(b:aP)(bs:List aP)(o s:Int):o6 (b::bs) o s=o6 bs o s+if (!decide (0≤b.dW)&&(b.bU==o&&b.dF==s))=true then 1 else 0:=by
 simp only[o6,zx8];split <;>simp
theorem aqc{bs:List aP}(hb:∀ b∈bs,mF b)(o:Nat):pB bs (o+1)=pB bs o+mW bs o 2:=by
 induction bs with
 |nil=>rfl
 |cons b bs ih =>
  have ih:=ih fun x hx=>hb x (by simp[hx]);obtain ⟨b1,b2,b3,b4,-,-⟩:=hb b (by simp);have hs:b.dF=1∨b.dF=2:=by omega
  simp only[mW,Yc] at ih ⊢;simp only[pB,zx8] at ih ⊢;by_cases hd:0≤b.dW
  ·simp only[hd,decide_true,Bool.not_true,Bool.false_and,zz6,if_false];omega
  ·simp only[hd,decide_false,Bool.not_false,Bool.true_and];by_cases h1:b.bU=((o+1:Nat):Int)
   ·have e1:(decide (1≤b.bU)&&decide (b.bU≤((o+1:Nat):Int)))=true:=by simp;omega
    have e2:(decide (1≤b.bU)&&decide (b.bU≤(o:Int)))=false:=by simp;omega
    rw[e1,e2,if_pos rfl,if_neg (by decide),zu5];rcases hs with hs | hs
    ·have f1:(b.bU==((o+1:Nat):Int)&&b.dF==((0+1:Nat):Int))=true:=by simp[h1,hs]
     have f2:(b.bU==((o+1:Nat):Int)&&b.dF==((0+1+1:Nat):Int))=false:=by simp[h1,hs]
     rw[if_pos f1,if_neg (by rw[f2];decide)];omega
    ·have f1:(b.bU==((o+1:Nat):Int)&&b.dF==((0+1:Nat):Int))=false:=by simp[h1,hs]
     have f2:(b.bU==((o+1:Nat):Int)&&b.dF==((0+1+1:Nat):Int))=true:=by simp[h1,hs]
     rw[if_pos f2,if_neg (by rw[f1];decide)];omega
   ·have f:∀ s:Int,(b.bU==((o+1:Nat):Int)&&b.dF==s)=false:=fun s=>by
     have:(b.bU==((o+1:Nat):Int))=false:=beq_eq_false_iff_ne.2 h1;rw[this];rfl
    have e:(decide (1≤b.bU)&&decide (b.bU≤((o+1:Nat):Int)))=(decide (1≤b.bU)&&decide (b.bU≤(o:Int))):=by
     rw[Bool.eq_iff_iff];simp;omega
    simp only[f,zz6,if_false,e];split <;>(try simp only[zu5]) <;>omega
theorem QT{bs:List aP}(hb:∀ b∈bs,mF b):∀ o,kg bs o=pB bs o
 |0=>by
  have:(bs.filter fun b => !decide (0≤b.dW)&&(decide (1≤b.bU)&&decide (b.bU≤((0:Nat):Int))))=[]:=by
   rw[List.filter_eq_nil_iff];intro b _;simp;omega
  simp only[kg,pB,this,zv0]
 |o+1=>by rw[kg,QT hb o,aqc hb o]
def pf(l:List ak)(day known no:Int):Int:=(og l no day known).1
theorem LR{l:List ak}{day known:Int}(hok:c8 l=true)(hd:b7 0 100000 day=true)(hk:b7 0 100000 known=true){b:aP}(hb:b∈cA l day known)(hm:mF b)(ha:¬ 0≤b.dW):og l b.no day known=(b.bU,0):=by
 have hg:cM (cA l day known) b.no=some b:=alg (pk hok day known).1 hb;have hno:b7 1 9999 b.no=true:=by
  obtain ⟨-,-,-,-,h5,h6⟩:=hm;simp[b7];omega
 have hc:eS l [ep b.no 9999] [day,known]=0:=by
  have e1:(ep b.no 9999).g 0=b.no:=rfl;have e2:(ep b.no 9999).g 1=9999:=rfl;simp only[eS,hok,if_true,List.all_cons,List.all_nil,e1,e2,hno,Bool.and_true,List.any_cons,List.any_nil,hd,hk,Bool.not_true,Bool.or_false,zz6,if_false]
 simp only[og,hc,if_true,hg,if_neg ha]
theorem aoH{l:List ak}{day known:Int}(hok:c8 l=true)(hl:∀ i,mG (ae l i))(hd:b7 0 100000 day=true)(hk:b7 0 100000 known=true) :
  ((cS (((cA l day known).filter fun b => !decide (0≤b.dW)).map (·.no))).filter fun no=>pf l day known no != 0).length=pB (cA l day known) 12:=by
 have hb:=MC hl day known;rw[((lT _).filter _).length_eq,List.filter_map,zy1,List.filter_filter,pB]
 congr 1
 refine List.filter_congr fun b hm =>?_;obtain ⟨m1,m2,-,-,-,-⟩:=hb b hm;simp only[Function.comp];by_cases ha:0≤b.dW
 ·simp[ha]
 ·have:=LR hok hd hk hm (hb b hm) ha;simp only[pf,this,ha,decide_false,Bool.not_false,Bool.and_true,Bool.true_and];rw[Bool.eq_iff_iff];simp;omega
def mJ(l:List ak)(day known:Int)(gA:List Int)(i:Nat):Nat:=((gA.take i).filter fun no=>pf l day known no != 0).length
theorem aoG(l:List ak)(day known:Int){gA:List Int}{i:Nat}(h:i<gA.length):mJ l day known gA (i+1)=mJ l day known gA i+if pf l day known gA[i] != 0 then 1 else 0:=by
 simp only[mJ];rw[zz8 h,List.filter_append,zz2,zx8,zu2];split <;>simp_all
theorem aoF(l:List ak)(day known:Int)(gA:List Int)(i:Nat):mJ l day known gA i≤gA.length :=
 zu4 (zv5 _ _) (by rw[zy4];omega)
theorem Es(bs:List aP)(o s:Int):o6 bs o s≤bs.length:=zv5 _ _
theorem AA(bs:List aP)(o:Nat):∀ s,mW bs o s≤s*bs.length
 |0=>zw3 _
 |s+1=>by
  have h1:=AA bs o s;have h2:=Es bs ((o+1:Nat):Int) ((s+1:Nat):Int);rw[mW,Nat.succ_mul];omega
theorem QS(bs:List aP):∀ o,kg bs o≤o*(2*bs.length)
 |0=>zw3 _
 |o+1=>by
  have h1:=QS bs o;have h2:=AA bs o 2;rw[kg,Nat.succ_mul];omega
theorem aqA{a b:Nat}(h:a+b<9223372036854775807):IntKind.i64.wrap ((a:Int)+(b:Int))=((a+b:Nat):Int):=kN a b h
theorem Sh(c:List Int)(ls:List fL)(n:jT)(hc:c.length*8≤140737488355328):aA Tryz.prog 4 [enc c,enc ls,enc n] (enc true):=by
 obtain ⟨m,hm⟩:∃ m,m=nv c:=⟨_,rfl⟩
 have hokm:ed m=true:=by rw[hm];exact Na c
 have h24:=Bh c (by omega);rw[←hm] at h24;have h23:=Bg m ls c hokm hc;have hok:=M5 hokm ls c;have hev:=amT hokm ls c;generalize mD m ls c=l at h23 hok hev;obtain ⟨D,hD⟩:∃ D,D=n.g 0%32:=⟨_,rfl⟩
 obtain ⟨cC,hKn⟩:∃ cC,cC=n.g 1%45:=⟨_,rfl⟩
 have hDb:0≤D∧D<32:=by rw[hD];exact ⟨zv1 _ (by decide),zv7 _ (by decide)⟩
 have hKb:0≤cC∧cC<45:=by rw[hKn];exact ⟨zv1 _ (by decide),zv7 _ (by decide)⟩
 have hd:b7 0 100000 D=true:=by simp[b7];omega
 have hk:b7 0 100000 cC=true:=by simp[b7];omega
 have hb:=MC hev D cC;have hbl:=(pk hok D cC).2.1;have hck:∀ ns,(ns.all fun q:jT=>b7 1 (q.g 1) (q.g 0))=true→eS l ns [D,cC]=0:=fun ns h=>by
  simp only[eS,hok,if_true,h,List.any_cons,List.any_nil,hd,hk,Bool.not_true,Bool.or_false,zz6,if_false]
 have h26:=Bi l D cC;have hA:oW l D cC=(cS (((cA l D cC).filter fun b => !decide (0≤b.dW)).map (·.no)),0):=by simp only[oW,hck [] rfl,if_true]
 rw[hA] at h26;have hall:=aoH hok hev hd hk;have hsum:=QT hb 12;have hmem:∀ no∈cS (((cA l D cC).filter fun b => !decide (0≤b.dW)).map (·.no)),og l no D cC=(pf l D cC no,0):=fun no hno=>by
  rw[(lT _).mem_iff,zw1] at hno;obtain ⟨b,hbm,rfl⟩:=hno;obtain ⟨m1,m2⟩:=zu8.1 hbm;have:=LR hok hd hk m1 (hb b m1) (by simpa using m2);simp only[pf,this]
 have hnl:(cS (((cA l D cC).filter fun b => !decide (0≤b.dW)).map (·.no))).length≤60:=by
  rw[(lT _).length_eq,zy1];exact zu4 (zv5 _ _) hbl
 generalize cS (((cA l D cC).filter fun b => !decide (0≤b.dW)).map (·.no))=gA at h26 hall hmem hnl;have hC:∀ o s:Nat,1≤o→o≤12→1≤s→s≤2→qk l o s D cC=((o6 (cA l D cC) o s:Int),0):=fun o s h1 h2 h3 h4=>by
  have h0:=hck [ep o 99,ep s 9] (by
   have e1:(ep (o:Int) 99).g 0=o:=rfl;have e2:(ep (o:Int) 99).g 1=99:=rfl;have e3:(ep (s:Int) 9).g 0=s:=rfl;have e4:(ep (s:Int) 9).g 1=9:=rfl;simp only[List.all_cons,List.all_nil,e1,e2,e3,e4,b7];simp;omega)
  simp only[qk,h0,if_true];rfl
 have hSl:=QS (cA l D cC);have hSs:=AA (cA l D cC);have hcl:=Es (cA l D cC);obtain ⟨bs,hbs⟩:∃ bs,bs=cA l D cC:=⟨_,rfl⟩
 rw[←hbs] at hall hsum hC hSl hSs hcl hbl;refine aA.bp Tryz.func4 Vp Xt ZG (t7 rfl) (fun hwf W0 D0 E1 =>?_);simp only[gf,Pn,bl,zz4,Nat.reduceAdd];clear hwf;have R:=v6 @yY (v6 @dY (v6 @aZ (v6 @aO @ab)))
 repeat' ((first |(with_reducible refine .guard (fun hb =>?_) (fun hb =>?_) <;>try simp only[hb])|refine U.aI (by decide +kernel) rfl fun K hK =>?_|refine .lead _ (h24) ?_|refine .lead _ (h23) ?_|refine .flat _ (gQ _ _ (by decide) (by decide)) rfl ?_|refine .lead _ (h26) ?_|(refine .aD [0,1,2,5,6,7,8,9,10,11,12,13,14,15,16,17,18,19,20,40,44,59,61,65,69,82] hK ?_;clear hK K)|(with_reducible refine .done (hK _ ?_);clear hK K)|refine U.of rfl ?_|(with_reducible refine al.aH (fun h =>?_) (fun h =>?_) <;>try simp only[h])) <;>try simp only[aJ,R,←hD,←hKn,Nat.reduceEqDiff,reduceIte,Int.reduceBNe,Nat.reduceBEq])
 all_goals clear R
 refine U.loop (fun i:Nat=>aw [(7,enc l),(8,.int .i64 D),(9,.int .i64 cC),(10,enc gA),(12,.int .i64 (mJ l D cC gA i)),(13,.int .i64 i)] []) (fun i=>i≤gA.length) (fun i=>gA.length-i) 0 (zw3 _) ?_ (fun i hi =>?_)
 ·have e:mJ l D cC gA 0=0:=by simp[mJ]
  rw[e];refine aB.bE ?_ ?_ ?_ ?_ <;>simp[aQ,bt,br,aY,aS,I.only,bg]
 have hol:=aoF l D cC gA i;by_cases hlt:i<gA.length
 ·have hc1:=fw hlt;have he:=fun A=>fm (A:=A) 1 hlt rfl;have hw:=ea (i:=i) (by omega);have hwo:=ea (i:=mJ l D cC gA i) (by omega);have hsu:=aoG l D cC hlt;have hF:=Bj l gA[i] D cC;rw[hmem _ (zx5 hlt)] at hF;rcases q:(pf l D cC gA[i] != 0)
  all_goals
   rw[q] at hsu;simp only[if_true,zz6,if_false,Nat.add_zero] at hsu;have R:=v6 @hc1 (v6 @he (v6 @hw (v6 @hwo (v6 @q (v6 @aZ (v6 @aO @ab))))))
   repeat' ((first |(with_reducible refine .guard (fun hb =>?_) (fun hb =>?_) <;>try simp only[hb])|refine U.aI (by decide +kernel) rfl fun K hK =>?_|refine .flat _ (hF) rfl ?_|(refine .aD [0,1,2,5,6,7,8,9,10,11,12,13,14,15,16,17,18,19,20,40,44,59,61,65,69,82] hK ?_;clear hK K)|(with_reducible refine .done (hK _ ?_);clear hK K)|refine U.of rfl ?_|(with_reducible refine al.aH (fun h =>?_) (fun h =>?_) <;>try simp only[h])) <;>try simp only[aJ,R,Nat.reduceEqDiff,reduceIte,Int.reduceBNe,Nat.reduceBEq])
   all_goals clear R
   refine ⟨i+1,by omega,by omega,?_⟩;rw[hsu];refine aB.bE ?_ ?_ ?_ ?_ <;>simp[aQ,bt,br,aY,aS,I.only,bg]
 have hc1:=fP hlt;have hge:i=gA.length:=by omega
 subst hge;have hfin:mJ l D cC gA gA.length=kg bs 12:=by
  rw[hsum,←hall,mJ,zu7]
 rw[hfin];have R:=v6 @hc1 (v6 @aZ (v6 @aO @ab))
 repeat' ((first |(with_reducible refine .guard (fun hb =>?_) (fun hb =>?_) <;>try simp only[hb])|refine U.aI (by decide +kernel) rfl fun K hK =>?_|(refine .aD [0,1,2,5,6,7,8,9,10,11,12,13,14,15,16,17,18,19,20,40,44,59,61,65,69,82] hK ?_;clear hK K)|(with_reducible refine .done (hK _ ?_);clear hK K)|refine U.of rfl ?_|(with_reducible refine al.aH (fun h =>?_) (fun h =>?_) <;>try simp only[h])) <;>try simp only[aJ,R,Nat.reduceEqDiff,reduceIte,Nat.reduceBEq])
 all_goals clear R
 refine U.loop (fun o:Nat=>aw [(7,enc l),(8,.int .i64 D),(9,.int .i64 cC),(12,.int .i64 (kg bs 12:Nat)),(16,.int .i64 (kg bs o:Nat)),(17,.int .i64 ((o+1:Nat):Int))] []) (fun o=>o≤12) (fun o=>12-o) 0 (zw3 _) ?_ (fun o ho =>?_)
 ·simp only[kg];refine aB.bE ?_ ?_ ?_ ?_ <;>simp[aQ,bt,br,aY,aS,I.only,bg]
 have h1:=hSl o;have h2:o*(2*bs.length)≤12*(2*bs.length):=Nat.mul_le_mul_right _ ho;by_cases ho12:o<12
 case neg =>
  have e:o=12:=by omega
  subst e;have q1:decide (((12+1:Nat):Int)≤12)=false:=rfl;have q2:∀ x:Int,(x==x)=true:=fun x=>by simp
  have R:=v6 @q1 (v6 @q2 (v6 @aZ (v6 @aO @ab)))
  repeat' ((first |(with_reducible refine .guard (fun hb =>?_) (fun hb =>?_) <;>try simp only[hb])|refine U.aI (by decide +kernel) rfl fun K hK =>?_|refine .flat _ (Bf) rfl ?_|(refine .aD [0,1,2,5,6,7,8,9,10,11,12,13,14,15,16,17,18,19,20,40,44,59,61,65,69,82] hK ?_;clear hK K)|(with_reducible refine .done (hK _ ?_);clear hK K)|refine U.of rfl ?_|(with_reducible refine al.aH (fun h =>?_) (fun h =>?_) <;>try simp only[h])) <;>try simp only[aJ,R,Nat.reduceEqDiff,reduceIte,Nat.reduceBEq])
  all_goals clear R
 have q1:decide (((o+1:Nat):Int)≤12)=true:=decide_eq_true (by omega);have hwo:=ea (i:=o+1) (by omega);have R:=v6 @q1 (v6 @aZ (v6 @aO @ab))
 repeat' ((first |(with_reducible refine .guard (fun hb =>?_) (fun hb =>?_) <;>try simp only[hb])|refine U.aI (by decide +kernel) rfl fun K hK =>?_|(refine .aD [0,1,2,5,6,7,8,9,10,11,12,13,14,15,16,17,18,19,20,40,44,59,61,65,69,82] hK ?_;clear hK K)|(with_reducible refine .done (hK _ ?_);clear hK K)|refine U.of rfl ?_|(with_reducible refine al.aH (fun h =>?_) (fun h =>?_) <;>try simp only[h])) <;>try simp only[aJ,R,Nat.reduceEqDiff,reduceIte,Nat.reduceBEq])
 all_goals clear R
 refine U.loop (fun s:Nat=>aw [(7,enc l),(8,.int .i64 D),(9,.int .i64 cC),(12,.int .i64 (kg bs 12:Nat)),(16,.int .i64 ((kg bs o+mW bs o s:Nat):Int)),(17,.int .i64 ((o+1:Nat):Int)),(18,.int .i64 ((s+1:Nat):Int))] []) (fun s=>s≤2) (fun s=>2-s) 0 (zw3 _) ?_ (fun s hs =>?_)
 ·simp only[mW,Nat.add_zero];refine aB.bE ?_ ?_ ?_ ?_ <;>simp[aQ,bt,br,aY,aS,I.only,bg]
 by_cases hs2:s<2
 case neg =>
  have e:s=2:=by omega
  subst e;have q3:decide (((2+1:Nat):Int)≤2)=false:=rfl;have R:=v6 @q3 (v6 @hwo (v6 @aZ (v6 @aO @ab)))
  repeat' ((first |(with_reducible refine .guard (fun hb =>?_) (fun hb =>?_) <;>try simp only[hb])|refine U.aI (by decide +kernel) rfl fun K hK =>?_|(refine .aD [0,1,2,5,6,7,8,9,10,11,12,13,14,15,16,17,18,19,20,40,44,59,61,65,69,82] hK ?_;clear hK K)|(with_reducible refine .done (hK _ ?_);clear hK K)|refine U.of rfl ?_|(with_reducible refine al.aH (fun h =>?_) (fun h =>?_) <;>try simp only[h])) <;>try simp only[aJ,R,Nat.reduceEqDiff,reduceIte,Nat.reduceBEq])
  all_goals clear R
  refine ⟨o+1,by omega,by omega,?_⟩;simp only[kg];refine aB.bE ?_ ?_ ?_ ?_ <;>simp[aQ,bt,br,aY,aS,I.only,bg]
 have q3:decide (((s+1:Nat):Int)≤2)=true:=decide_eq_true (by omega);have hws:=ea (i:=s+1) (by omega);have h3:=hSs o s;have h4:s*bs.length≤2*bs.length:=Nat.mul_le_mul_right _ hs;have h5:=hcl ((o+1:Nat):Int) ((s+1:Nat):Int);have hwa:=aqA (a:=kg bs o+mW bs o s) (b:=o6 bs ((o+1:Nat):Int) ((s+1:Nat):Int)) (by omega);have hF:=Bk l ((o+1:Nat):Int) ((s+1:Nat):Int) D cC;rw[hC (o+1) (s+1) (by omega) (by omega) (by omega) (by omega)] at hF;have R:=v6 @q3 (v6 @hws (v6 @hwa (v6 @aZ (v6 @aO @ab))))
 repeat' ((first |(with_reducible refine .guard (fun hb =>?_) (fun hb =>?_) <;>try simp only[hb])|refine U.aI (by decide +kernel) rfl fun K hK =>?_|refine .flat _ (hF) rfl ?_|(refine .aD [0,1,2,5,6,7,8,9,10,11,12,13,14,15,16,17,18,19,20,40,44,59,61,65,69,82] hK ?_;clear hK K)|(with_reducible refine .done (hK _ ?_);clear hK K)|refine U.of rfl ?_|(with_reducible refine al.aH (fun h =>?_) (fun h =>?_) <;>try simp only[h])) <;>try simp only[aJ,R,Nat.reduceEqDiff,reduceIte,Int.reduceBNe,Nat.reduceBEq])
 all_goals clear R
 refine ⟨s+1,by omega,by omega,?_⟩;simp only[mW,←Nat.add_assoc];refine aB.bE ?_ ?_ ?_ ?_ <;>simp[aQ,bt,br,aY,aS,I.only,bg]
end Go.Proofs.YtcldiigclhgafaaGreat
namespace Go.Proofs.YtcldiigclhgafaaGreat
open Go Go.Abs Go.ChangeShapes Go.WideShapes Go.ChangeAt Go.RowKit
open Go.Abs.Enc (enc)
theorem ano:jU Tryz.prog 130 (aX 9 Int):=zJ (yM (by kernel_rfl)) uQ (by kernel_rfl) (by decide)
theorem MT:jU Tryz.prog 43 (List (aX 9 Int)):=Nw (by kernel_rfl) ano (by kernel_rfl)
theorem Mm{H:Type}{P:Program}{ts:List TypeId}{ds:List (DataW H)}(hz:(DataW.weightsEach P ts ds).all (· ≤ reachBytes)=true){j:Nat}{t e:TypeId}{d:DataW H}{n:Nat}(ht:ts[j]?=some t)(hd:ds[j]?=some d)(hu:P.underlying t=some (.slice e))(hb:8≤P.bytesOf e)
  (h:n=0∨∃ elems spare,d=.slice elems spare∧elems.length=n):n*8≤140737488355328:=by
 rcases h with h | ⟨elems,spare,rfl,h⟩
 ·omega
 ·have h1:=sized_slice hz ht hd hu;have h2:reachBytes<2^47:=reachBytes_lt;have h3:(elems.length+spare.length)*8≤(elems.length+spare.length)*P.bytesOf e:=Nat.mul_le_mul_left _ hb;omega
theorem alS(os:Os)(started:os.Started)(H:Type)(enc0:TypeId×Value→H) :
  ReturnsInHanded {} Tryz.checked os 4 .any (Rows.herdSumsSpec.pre6 enc0 Tryz.prog Tryz.f4 Rows.herdSumsRow.domain false) (Rows.herdSumsSpec.post enc0 Tryz.prog Tryz.f4 false true false false):=by
 refine returnsInHanded_of_change_sized (C:=Tryz.checked) Tryz.own started (by kernel_rfl) Tryz.func4
  (ChangeSpec.witness6 (enc:=enc0) (C:=Tryz.checked) false ⟨#[],#[.slice none 0 0,.slice none 0 0,.agg #[.int .i64 0,.int .i64 0]],[]⟩ 8 (by kernel_rfl) (by kernel_rfl) (by kernel_rfl) (by kernel_rfl)) ?_
 intro W base args ds gs before hval0 hW hcnd hz0 _;have hval:∀ (j:Nat) t v,Tryz.f4.params[j]?=some t→args[j]?=some v→Value.okWide Tryz.prog W .any base t v:=hval0;have hz:(DataW.weightsEach Tryz.prog (Tryz.f4.params.toList++Rows.herdSumsSpec.plain.varTypes Tryz.prog) (ds++gs)).all (· ≤ reachBytes)=true:=hz0;have hW':=hW;obtain ⟨p,q,hA0,hV,hbef,hfz,hnd⟩:=hW;have hA:DataW.TrodAll enc0 Tryz.prog W 0 (fun _=>true) true Tryz.f4.params.toList args.toList ds p:=hA0;rw[Tryz.params4] at hA hval hz;obtain ⟨v0,v1,v2,d0,d1,d2,p0,p1,p2,rfl,rfl,rfl,h0,h1,h2⟩:=trodAll_three hA;obtain ⟨rfl,rfl⟩:=trodVars_none hV;obtain ⟨a0,k0,l0⟩:=Nv MS (e:=3) (by kernel_rfl) (hval 0 29 v0 rfl rfl) h0;obtain ⟨a1,c1,k1⟩:=zI MT rfl (by kernel_rfl) (hval 1 43 v1 rfl rfl) h1;obtain ⟨a2,c2,k2⟩:=Nu ann rfl (by kernel_rfl) (hval 2 28 v2 rfl rfl) h2;have n0:=Mm hz (j:=0) (t:=29) (e:=3) rfl rfl (by kernel_rfl) (of_decide_eq_true (by kernel_rfl)) l0;exact Me (tb:=4) Tryz.Md (by rw[Tryz.params4]) rfl rfl (by rw[hbef];simp) rfl rfl (by kernel_rfl) (by kernel_rfl) hW' h0 h1 h2 (by
  intro t ht;simp only[zx2,List.mem_nil_iff,or_false] at ht;rcases ht with rfl | rfl | rfl <;>exact ⟨by kernel_rfl,of_decide_eq_true (by kernel_rfl)⟩) (Sh a0 a1 a2 n0) (Qi k0 ⟨c1,k1⟩ ⟨c2,k2⟩)
theorem alR:Rows.HerdSumsSaid :=
 OpenClaim.holds_of_wide 4 Tryz.f4 rfl rfl rfl rfl rfl rfl rfl ⟨rfl,rfl,rfl,rfl,rfl⟩ rfl rfl rfl rfl rfl (by kernel_rfl) Tryz.func4 (by kernel_rfl)
  (of_decide_eq_true (by kernel_rfl)) (by unfold Func.isWrapper;first | (rw[if_pos (by decide +kernel)];kernel_rfl) | (rw[if_neg (by decide +kernel)];exact ⟨rfl,rfl⟩))
  (fun os started H enc0 _=>alS os started H enc0)
#print axioms alR
end Go.Proofs.YtcldiigclhgafaaGreat
namespace Go.Proofs.YtcldiigclhgafaaGreat
open Go Go.Abs
open Go.Abs.Enc (enc)
theorem abM(a b:Bool):cw .b (.bool a) (.bool b)=some (a==b):=by simp[cw]
def jP(xs:List Int):List (Nat×ah):=[(1000002,.box (.own 1000080 xs.length)),(1000080,.b9 3 1 (xs.map enc))]
theorem apZ(xs ys:List Int):fJ (jP xs) (jP ys):=by
 refine ⟨fun n=>by simp only[jP,aq,ao];(repeat' split) <;>rfl,fun n x h =>?_,fun n h =>?_⟩
 ·simp only[jP,ao] at h
  repeat' split at h
  all_goals first | (cases h;done) | (simp only[u8] at h;subst h;exact ⟨by simp[jP,aq,ao,ah.only,I.only,c9],rfl⟩)
 ·simp only[jP,aq,ao] at h
  repeat' split at h
  all_goals first | omega | (simp at h;done)
theorem ap8(l:List ak)(known:Int):(eW l known).length≤l.length:=by
 have:=zv5 (fun i=>(gZ l known).getD i false) (List.range l.length)
 rwa [List.length_range] at this
theorem aqK(l:List ak)(known:Int)(hl:l.length≤60):cF Tryz.prog 144 [.nils 1,.func 146 [.ref (enc l),.ref (enc (gZ l known))]] [] (fun r os'=>r=enc (cU (eW l known))∧os'=[]):=by
 refine cF.bp Tryz.func144 Uw Wu YL (t7 rfl) (t7 rfl) (fun n h=>by simp[aq,ao] at h) (fun hwf W0 D0 E1 =>?_);simp only[Cs,Oo,bl,zz4];clear hwf;refine .ar (by decide +kernel) fun K hK =>?_;simp only[G5,ab,simprocAttr];refine .done (hK _ ?_);clear hK K;refine U.seq (U.seq ?_);refine .bx (by decide +kernel) fun K hK =>?_;simp only[G6,ab,simprocAttr]
 try simp only[aO,ab,simprocAttr]
 refine .done (hK _ ?_);clear hK K;try simp only[au]
 refine U.sub (aB.vY 2 80 3 1 1 [] _ rfl rfl rfl (B:=aw [(2,.ptr 2 []),(6,.func 146 [.ref (enc l),.ref (enc (gZ l known))])] [(2,.box (.own 80 0)),(80,.b9 3 1 [])]) ?_) ?_
 ·simp only[fT];refine aB.bE ?_ ?_ ?_ ?_ <;>simp[aQ,bt,br,aY,aq,aS,bT,I.only,I.bV,ah.only,bg]
 refine U.block (U.kF (osb0:=jP []) (tsR:=[(2,.ptr 1000002 [])]) (ρ:=[(1999999,999999),(1000002,2),(1000080,80)])
  (fun k os=>os=jP (cU ((eW l known).take k)))
  (fun _ _=>False)
  rfl (t7 rfl) (by simp only[ab,simprocAttr]) (by simp[I.cg,I.bJ,dL]) wC (A2 l (gZ l known) hl (Ax l known)) (fun _=>rfl) rfl rfl rfl (fun o=>⟨?_,?_⟩) ?_ ?_ ?_ ?_ ?_ ?_ ?_)
 ·intro n x hx;simp only[dw,jP,ao] at hx
  repeat' split at hx
  all_goals first | (cases hx;done) | (subst_vars;simp only[u8] at hx;subst hx;simp[dw,jP,aq,bD,ao,ah.aN,I.aN,I.cZ,ah.only,I.only,I.bV,ah.eZ])
 ·intro a b ha hb;simp only[dw,jP,aq,ao] at ha hb
  repeat' split at ha
  all_goals first | (simp at ha;done) | skip
  all_goals (repeat' split at hb)
  all_goals first | (simp at hb;done) | (subst_vars;simp[bD])
 ·simp[mU,aS,I.aN,bD,I.only,jP,aq,ao]
 ·rintro k os rfl;exact apZ ..
 ·rintro e os h;exact h.elim
 ·simp[jP,cU]
 ·rintro k osb hk rfl W1 D1 E1 Mc o1 o2;have hk':k<(eW l known).length:=hk;have hsl:=ap8 l known;obtain ⟨i,hi⟩:∃ i,i=(eW l known).getD k 0:=⟨_,rfl⟩
  have hit:((iX (fun i=>(gZ l known).getD i false) l.length).getD k 0)=i:=hi.symm;have hsu:(eW l known).take (k+1)=(eW l known).take k++[i]:=by
   rw[hi,zz8 hk',zz0,zy0 hk'];rfl
  have hdl:((eW l known).take k).length≤60:=by rw[zy4];omega
  generalize (eW l known).take k=dk at hsu hdl ⊢;simp only[hit,qX,dw,jP];have R:=v6 @aO @ab
  repeat' ((first |refine U.aI (by decide +kernel) rfl fun K hK =>?_|(refine .aD [0,1,2,4,5,6,7] hK ?_;clear hK K)|(with_reducible refine .done (hK _ ?_);clear hK K)|refine U.of rfl ?_|(with_reducible refine al.aH (fun h =>?_) (fun h =>?_) <;>try simp only[h])) <;>try simp only[aJ,R,simprocAttr])
  all_goals clear R
  refine ⟨by simp[],?_⟩;have hap:=fun (A:af) d rest=>m9 (α:=Int) (A:=A) (d:=d) 3 1 8 1000080 (l:=(cU dk).length) (es:=cU dk) (ys:=[(i:Int)]) (rest:=rest) rfl rfl (by simp) (by simp[cU,maxLen];omega) (by simp[cU];omega);have R:=v6 @hap (v6 @nd (v6 @dY (v6 @QH (v6 @eU (v6 @aZ (v6 @aO @ab))))))
  repeat' ((first |refine U.aI (by decide +kernel) rfl fun K hK =>?_|(refine .aD [0,1,2,4,5,6,7] hK ?_;clear hK K)|(with_reducible refine .done (hK _ ?_);clear hK K)|refine U.of rfl ?_|(with_reducible refine al.aH (fun h =>?_) (fun h =>?_) <;>try simp only[h])) <;>try simp only[aJ,R,simprocAttr])
  all_goals clear R
  refine ⟨_,?_,rfl⟩;have hti:cU (dk++[i])=cU dk++[(i:Int)]:=by simp[cU]
  rw[hsu,hti];generalize cU dk=xs;intro n x hx;simp only[dw,ao] at hx
  (repeat' split at hx) <;>first
   |(cases hx;done)
   |(subst_vars;simp only[u8] at hx;subst hx;simp[dw,aq,aw,ao,ah.only,I.only,bg,ah.eZ,c9,fI,I.bV])
 ·rintro os rfl;have eN:(eW l known).take (iX (fun i=>(gZ l known).getD i false) l.length).length=eW l known:=zu7;simp only[eN,jP,dB,zy2,zx1,bD,ah.aN,I.aN,eP,au,bP,reduceIte,Nat.reduceEqDiff,zz9,zy3];have hfo:=mq (k:=(cU (eW l known)).length) (T:=3) (es:=cU (eW l known)) 1 rfl rfl;have R:=v6 @dY (v6 @aZ (v6 @aO @ab))
  repeat' ((first |refine U.aI (by decide +kernel) rfl fun K hK =>?_|(refine .aD [0,1,2,4,5,6,7] hK ?_;clear hK K)|(with_reducible refine .done (hK _ ?_);clear hK K)|refine U.of rfl ?_|(with_reducible refine al.aH (fun h =>?_) (fun h =>?_) <;>try simp only[h])) <;>try simp only[aJ,R,simprocAttr])
  all_goals clear R
  rw[eA];exact ⟨[],[enc (cU (eW l known))],pj,⟨⟨_,rfl,.inr hfo⟩,trivial⟩,rfl,rfl⟩
 ·rintro e os h;exact h.elim
theorem rB(l:List ak)(no known:Int):aA Tryz.prog 39 [enc l,enc no,enc known] (.tuple [enc (jW l no known).1,enc (jW l no known).2]):=by
 refine aA.bp Tryz.func39 Vo Xs ZF (t7 rfl) (fun hwf W0 D0 E1 =>?_);simp only[Dn,Pm,bl,zz4,Nat.reduceAdd];clear hwf;have hC:=oR l [ep no 9999] [known];simp only[jW];generalize hc:eS l [ep no 9999] [known]=e at hC ⊢;by_cases he:e=0
 ·have hn:=oE he;subst he;have hok:=ng hc;have hF:=oS l known hok;have hk:=qF (cA l 100000 known) no;cases hg:cM (cA l 100000 known) no with
  |none =>
   rw[hg] at hk;have R:=v6 @hn (v6 @hk (v6 @nd (v6 @qp (v6 @ry dG))))
   repeat' ((first |refine U.aI (by decide +kernel) rfl fun K hK =>?_|refine .flat _ (hC) rfl ?_|refine .lead _ (hF) ?_|(refine .aD [0,1,2,6,7,8,9,18,30] hK ?_;clear hK K)|(with_reducible refine .done (hK _ ?_);clear hK K)|refine U.of rfl ?_|(with_reducible refine al.aH (fun h =>?_) (fun h =>?_) <;>try simp only[h])) <;>try simp only[aJ,R,simprocAttr])
   all_goals clear R
  |some b =>
   rw[hg] at hk;have R:=v6 @hn (v6 @hk (v6 @nd (v6 @qp (v6 @ry dG))))
   repeat' ((first |refine U.aI (by decide +kernel) rfl fun K hK =>?_|refine .flat _ (hC) rfl ?_|refine .lead _ (hF) ?_|(refine .aD [0,1,2,6,7,8,9,18,30] hK ?_;clear hK K)|(with_reducible refine .done (hK _ ?_);clear hK K)|refine U.of rfl ?_|(with_reducible refine al.aH (fun h =>?_) (fun h =>?_) <;>try simp only[h])) <;>try simp only[aJ,R,simprocAttr])
   all_goals clear R
 ·have hn:=oF he;have R:=v6 @hn (v6 @he (v6 @nd (v6 @qp (v6 @ry dG))))
  repeat' ((first |refine U.aI (by decide +kernel) rfl fun K hK =>?_|refine .flat _ (hC) rfl ?_|(refine .aD [0,1,2,6,7,8,9,18,30] hK ?_;clear hK K)|(with_reducible refine .done (hK _ ?_);clear hK K)|refine U.of rfl ?_|(with_reducible refine al.aH (fun h =>?_) (fun h =>?_) <;>try simp only[h])) <;>try simp only[aJ,R,simprocAttr])
  all_goals clear R
theorem LX{α:Type}(f:α→Int)(a x:α)(m:List α):mz f (a::m) x=if f a≤f x then a::mz f m x else x::a::m:=by
 by_cases h:f a≤f x <;>simp[mz,h]
theorem yG{α:Type}{f:α→Int}{x y:α} : ∀ {l:List α},y∈mz f l x↔y=x∨y∈l
 | []=>by simp[mz]
 |a::l=>by
  rw[LX];split
  ·simp only[zx2,yG (l:=l)];constructor <;>(rintro (h | h | h) <;>simp[h])
  ·simp only[zx2]
theorem LY{x:Int} : ∀ {l:List Int},gD l→x∉l→gD (mz id l x)
 | [],_,_=>by simp[mz,gD]
 |a::l,h,hx=>by
  simp only[gD,zw6] at h;simp only[zx2,not_or] at hx;rw[LX];split
  ·rename_i hle;simp only[id] at hle;refine zw6.2 ⟨fun y hy =>?_,LY h.2 hx.2⟩;rcases yG.1 hy with rfl | hy
   ·omega
   ·exact h.1 y hy
  ·rename_i hle;simp only[id] at hle;refine zw6.2 ⟨fun y hy =>?_,zw6.2 h⟩;rcases zx2.1 hy with rfl | hy
   ·omega
   ·have:=h.1 y hy;omega
theorem SK{l:List Int}{x:Int}(h:gD l):gD (ly l x):=by
 simp only[ly];split
 ·exact h
 ·rename_i hx;exact LY h hx
theorem SJ{l:List Int}{x y:Int} : y∈ly l x↔y=x∨y∈l:=by
 simp only[ly];split
 ·rename_i hx;constructor
  ·exact .inr
  ·rintro (rfl | h)
   ·exact hx
   ·exact h
 ·exact yG
theorem Fy:∀ (l o:List Int),gD o→gD (l.foldl ly o)
 | [],_,h=>h
 |_::l,_,h=>Fy l _ (SK h)
theorem Fx{y:Int} : ∀ (l o:List Int),y∈l.foldl ly o↔y∈o∨y∈l
 | [],o=>by simp
 |x::l,o=>by
  rw[List.foldl_cons,Fx l,SJ,zx2];constructor
  ·rintro ((h | h) | h) <;>simp[h]
  ·rintro (h | h | h) <;>simp[h]
theorem vu(l:List Int):gD (iU l):=Fy l [] .nil
theorem sL{l:List Int}{y:Int} : y∈iU l↔y∈l:=by simp[iU,Fx]
def km(l:List ak):List Int×Int:=if c8 l then (iU (l.map (·.known)),0) else ([],41)
def o8(m:bY)(a b:List aP):List Int:=(iU (a.map (·.no)++b.map (·.no))).filter fun no => !jM m (cM a no) (cM b no)
theorem apP{a b:List Int}(h:∀ y,y∈a↔y∈b):iU a=iU b:=Aa (vu a) (vu b) fun y=>by rw[sL,sL,h]
def kY(m:bY)(l:List ak)(a:Item)(known:Int):List Int×Int:=if ed m then (if eS l [] [known]=0 then (if jg l a then (o8 m (cA l 100000 known) (cA (eO l (dQ l a)) 100000 known),0) else ([],3)) else ([],eS l [] [known])) else ([],13)
theorem U.apQ{W0:World}{D0:aW}{nn:Nat}{ow:Nat→Prop}{E1:a8}{Y:Value→List I→List (Nat×ah)→cO→Prop}{lj:Option Nat}{y:aR}{Q:Exit→af→Prop}{ts:List (Nat×I)}{os:List (Nat×ah)}{a b d n:Nat}{xs:List Int}(hx:xs≠[])
  (hd:Abs.cm ts d=.own n xs.length) (hn:ao os n=some (.c4 3 xs)) (hlt:n<1000000) (hl:xs.length≤60) (ht:∀ t,lM n xs.length (Abs.cm ts t)) (ho:aY (fun j => ![n].contains j) (cR [n] os))
  (ts':List (Nat×I)) (h1:∀ q∈ts',q.1≠a∧q.1≠b∧Abs.cm ts q.1=q.2∧q.2.only (fun j=>j != n)=true)
  (hda:d≠a) (hdb:d≠b)
  (h:∀ q,U ⟨Tryz.prog,W0,D0,nn,ow,E1,Y,lj⟩ y Q (aw ((d,.view n [] 1 0 xs.length)::ts') ((n,.box (.agg ((cS xs++List.replicate q 0).map enc)))::cR [n] os))) :
  U ⟨Tryz.prog,W0,D0,nn,ow,E1,Y,lj⟩ (.seq (.bX none [⟨some a,.mv (.t d),none⟩,⟨some b,.call 107 [.t a],none⟩]) y) Q (aw ts os):=by
 have hdrop:∀ m,ao (cR [n] os) m=if m=n then none else ao os m:=fun m=>by
  have:=nu [n] os m;simpa using this
 have ho':∀ m y,ao os m=some y→m≠n→y.only (fun j=>j != n)=true:=fun m y hy hm=>by
  have:=uX ho m y (by rw[hdrop,if_neg hm];exact hy);exact rz (fun j hj=>by simpa using hj) this
 refine U.AI hn hx hlt ht (fun m y hy hm=>.inr (ho' m y hy hm)) fun q =>?_;refine U.seq (U.bX (cl:=[]) (by rfl) fun K hK =>?_);have hd':Abs.cm (ts.map fun p=>(p.1,fB n xs.length p.2)) d=.view n [] 1 0 xs.length:=by
  rw[oy _ rfl,hd];simp[fB]
 simp only[ab,simprocAttr,hd'];refine .bQ false [(1000000,n)] (bK 1000000 (xs++List.replicate q 0)) [.view 1000000 [] 1 0 xs.length] _ rfl (vJ xs _ (by omega)) ?_ ?_ ?_ ?_
 ·refine ⟨fun m y hy =>?_,fun m m' h h' _=>by rw[cz.1 h,cz.1 h']⟩;simp only[bK,ao] at hy;split at hy
  ·rename_i hm;cases hy;subst hm;exact ⟨by simp only[bD,if_true,ao,ah.aN,I.aN,eP],fZ _ _,rfl⟩
  ·cases hy
 ·exact ⟨.inl ⟨by simp[I.aN,bD],cz.2 rfl,rfl⟩,trivial⟩
 ·rintro eF os2 ⟨rfl,rfl⟩;refine ⟨fun m y hy =>?_,fun m m' h h' _=>by rw[cz.1 h,cz.1 h'],fun m hm=>by rw[cz.1 hm];exact cz.2 rfl,fun m a b=>by rw[cz.1 a] at b;simp[bK,aq,ao] at b,rfl,fun _=>rfl⟩;simp only[bK,ao] at hy;split at hy
  ·cases hy;exact ⟨fZ _ _,rfl,fun h=>by cases h⟩
  ·cases hy
 ·rintro eF os2 ⟨rfl,rfl⟩
  try simp only[bK,dB,zy2,zx1,ah.aN,I.aN,eP,bD,reduceIte,zz9,zy3,I.cZ,ab,simprocAttr]
  refine .done (hK _ ?_);clear hK K;refine U.sub (aB.dj (ts':=(d,I.view n [] 1 0 xs.length)::ts') ⟨?_,Az fun p hp =>?_⟩ (fun m =>?_)) (h q)
  ·simp only[Abs.cm,hda,hdb,if_false];exact hd'
  ·obtain ⟨k1,k2,k3,k4⟩:=h1 p hp;have h5:Abs.cm (ts.map fun p=>(p.1,fB n xs.length p.2)) p.1=p.2:=by
    rw[oy _ rfl,k3,rr k4]
   simp only[Abs.cm,k1,k2,if_false,h5]
  ·by_cases hm:m=n
   ·simp[ao,hm]
   ·simp only[ao,if_neg hm,sh,hdrop];cases h6:ao os m with
    |none=>rfl
    |some y =>
     have h7:iW (fB n xs.length) y=y:=AE _ (rz (fun j hj=>by simpa using hj) (ho' _ _ h6 hm));simp[h7]
def dp(xs:List Int):Nat→List Int
 |0=>[]
 |r+1=>if r=0∨xs.getD r 0≠xs.getD (r-1) 0 then dp xs r++[xs.getD r 0] else dp xs r
theorem Et(xs:List Int):∀ r,(dp xs r).length≤r
 |0=>zz7 _
 |r+1=>by
  have:=Et xs r;simp only[dp];split <;>simp <;>omega
theorem uc{xs:List Int}{i:Nat}(h:i<xs.length):xs.getD i 0=xs[i]:=by
 rw[zz0,zy0 h];rfl
theorem Eu{xs:List Int}(hs:xs.Pairwise (· ≤ ·)):∀ r,r≤xs.length→gD (dp xs r)∧∀ y,y∈dp xs r↔y∈xs.take r
 |0,_=>⟨.nil,by simp[dp]⟩
 |r+1,h=>by
  obtain ⟨h1,h2⟩:=Eu hs r (by omega);have hx:=uc (xs:=xs) (i:=r) (by omega);rw[zz8 (by omega),←hx];simp only[dp];by_cases h0:r=0
  ·subst h0;simp[dp,gD]
  have hp:=uc (xs:=xs) (i:=r-1) (by omega);have hle:∀ y∈xs.take r,y≤xs.getD (r-1) 0:=fun y hy=>by
   obtain ⟨i,hi,rfl⟩:=List.mem_take_iff_getElem.1 hy;rw[hp];by_cases e:i=r-1
   ·simp only[e];omega
   ·exact List.pairwise_iff_getElem.1 hs i (r-1) (by omega) (by omega) (by omega)
  have hpr:xs.getD (r-1) 0≤xs.getD r 0:=by
   rw[hp,hx];exact List.pairwise_iff_getElem.1 hs (r-1) r (by omega) (by omega) (by omega)
  have hpm:xs.getD (r-1) 0∈xs.take r:=by
   rw[hp,List.mem_take_iff_getElem];exact ⟨r-1,by omega,rfl⟩
  by_cases he:xs.getD r 0=xs.getD (r-1) 0
  ·rw[if_neg (fun h=>h.elim h0 (fun h=>h he))];refine ⟨h1,fun y =>?_⟩;rw[h2,zy5,zu6];constructor
   ·exact .inl
   ·rintro (h | rfl)
    ·exact h
    ·rw[he];exact hpm
  ·rw[if_pos (.inr he)];refine ⟨List.pairwise_append.2 ⟨h1,by simp,fun y hy z hz =>?_⟩,fun y=>by rw[zy5,zy5,h2]⟩;have:=hle y ((h2 y).1 hy);simp only[zu6] at hz;subst hz;omega
theorem wS(xs:List Int):dp (cS xs) (cS xs).length=iU xs:=by
 obtain ⟨h1,h2⟩:=Eu (Qz xs) _ (zz7 _);refine Aa h1 (vu xs) fun y =>?_;rw[h2,zu7,sL,(lT xs).mem_iff]
def Ye(xs:List Int)(N:Nat):cO:=fun r os'=>∃ ws:List Int,r=.view 1000000 [] 1 0 (dp xs xs.length).length∧os'=bK 1000000 ws∧ws.take (dp xs xs.length).length=dp xs xs.length∧ws.length=N
theorem Ma{m lo l i:Nat}(h:i<l)(fs:List I):lK m [] 1 lo l 1 (i:Int) (some fs)=some (.ptr m [lo+i]):=uo h
theorem AS(xs q:List Int)(hn:xs.length≤200):cF Tryz.prog 108 [.view 1000000 [] 1 0 xs.length] (bK 1000000 (xs++q)) (Ye xs (xs++q).length):=by
 refine cF.bp Tryz.func108 DV Eb Ev (t7 rfl) (t7 rfl) mP (fun hwf W0 D0 E1 =>?_);simp only[wm,zR,bl];clear hwf;have hcl:∀ k,k≤xs.length→dp xs k=xs.take k→(dp xs k).length=k:=fun k hk e=>by rw[e,zy4];omega
 by_cases h2:xs.length<2
 ·have hd2:decide ((xs.length:Int)<2)=true:=by simp;omega
  have e:dp xs xs.length=xs:=by
   have:xs.length=0∨xs.length=1:=by omega
   rcases this with e | e
   ·rw[e,List.eq_nil_of_length_eq_zero e];rfl
   ·obtain ⟨x,rfl⟩:=List.length_eq_one_iff.1 e;simp[dp]
  have R:=v6 @hd2 (v6 @cL (v6 @aZ (v6 @aO @ab)))
  repeat' ((first |refine U.aI (by decide +kernel) rfl fun K hK =>?_|(refine .aD [0,2,3,4,5,8,13,25,32,44] hK ?_;clear hK K)|(with_reducible refine .done (hK _ ?_);clear hK K)|refine U.of rfl ?_|(with_reducible refine al.aH (fun h =>?_) (fun h =>?_) <;>try simp only[h])) <;>try simp only[aJ,R,simprocAttr])
  all_goals clear R
  rw[eA];exact ⟨bK 1000000 (xs++q),[.view 1000000 [] 1 0 xs.length],iE rfl (fun p=>fZ p _),⟨⟨_,rfl,.inl ⟨rfl,rfl,rfl⟩⟩,trivial⟩,xs++q,by rw[e];rfl,rfl,by rw[e,List.take_left],rfl⟩
 have hd2:decide ((xs.length:Int)<2)=false:=by simp;omega
 have hat:∀ i,i<xs.length→(xs++q).getD i 0=xs.getD i 0:=fun i hi=>by
  simp only[zz0];rw[zy9 hi]
 have R:=v6 @hd2 (v6 @cL (v6 @aZ (v6 @aO @ab)))
 repeat' ((first |refine U.aI (by decide +kernel) rfl fun K hK =>?_|(refine .aD [0,2,3,4,5,8,13,25,32,44] hK ?_;clear hK K)|(with_reducible refine .done (hK _ ?_);clear hK K)|refine U.of rfl ?_|(with_reducible refine al.aH (fun h =>?_) (fun h =>?_) <;>try simp only[h])) <;>try simp only[aJ,R,simprocAttr])
 all_goals clear R
 refine U.loop (fun k:Nat=>aw [(0,.view 1000000 [] 1 0 xs.length),(3,.int .i64 k)] (bK 1000000 (xs++q))) (fun k=>1≤k∧k≤xs.length∧dp xs k=xs.take k) (fun k=>xs.length-k) 1 ⟨zz7 _,by omega,?_⟩ ?_ (fun k hk =>?_)
 ·have e1:dp xs 1=[xs.getD 0 0]:=by simp[dp]
  rw[e1,zz8 (by omega),uc (by omega)];rfl
 ·try simp only[bK]
  refine aB.bE ?_ ?_ ?_ ?_ <;>simp[aQ,bt,br,aY,aq,aS,bT,I.only,ah.only,c9,fI]
 obtain ⟨k1,k2,k3⟩:=hk;simp only[bK];by_cases hlt:k<xs.length
 case neg =>
  have hc:=fP hlt;have hge:k=xs.length:=by omega
  subst hge;rw[zu7] at k3;have R:=v6 @hc (v6 @cL (v6 @aZ (v6 @aO @ab)))
  repeat' ((first |refine U.aI (by decide +kernel) rfl fun K hK =>?_|(refine .aD [0,2,3,4,5,8,13,25,32,44] hK ?_;clear hK K)|(with_reducible refine .done (hK _ ?_);clear hK K)|refine U.of rfl ?_|(with_reducible refine al.aH (fun h =>?_) (fun h =>?_) <;>try simp only[h])) <;>try simp only[aJ,R,simprocAttr])
  all_goals clear R
  rw[eA];exact ⟨bK 1000000 (xs++q),[.view 1000000 [] 1 0 xs.length],iE rfl (fun p=>fZ p _),⟨⟨_,rfl,.inl ⟨rfl,rfl,rfl⟩⟩,trivial⟩,xs++q,by rw[k3];rfl,rfl,by rw[k3,List.take_left],rfl⟩
 have hc:=fw hlt;have hw:=ea (i:=k) (by omega);have hw1:IntKind.i64.wrap ((k:Int)-1)=((k-1:Nat):Int):=by rw[cG _ (by omega) (by omega)];omega
 have v1:=il (n:=xs.length) (i:=k) hlt;have v2:=il (n:=xs.length) (i:=k-1) (by omega);have l1:=fV (xs:=xs++q) (i:=k) (by simp;omega);have l2:=fV (xs:=xs++q) (i:=k-1) (by simp;omega);rw[hat _ (by omega)] at l1 l2;have hsu:dp xs (k+1)=if xs.getD k 0≠xs.getD (k-1) 0 then dp xs k++[xs.getD k 0] else dp xs k:=by
  simp only[dp];simp[show k≠0 by omega]
 rcases hq:(xs.getD k 0==xs.getD (k-1) 0)
 ·have hne:xs.getD k 0≠xs.getD (k-1) 0:=by simpa using hq
  have R:=v6 @hc (v6 @hw (v6 @hw1 (v6 @v1 (v6 @v2 (v6 @l1 (v6 @l2 (v6 @hq (v6 @cL (v6 @aZ (v6 @aO @ab))))))))))
  repeat' ((first |refine U.aI (by decide +kernel) rfl fun K hK =>?_|(refine .aD [0,2,3,4,5,8,13,25,32,44] hK ?_;clear hK K)|(with_reducible refine .done (hK _ ?_);clear hK K)|refine U.of rfl ?_|(with_reducible refine al.aH (fun h =>?_) (fun h =>?_) <;>try simp only[h])) <;>try simp only[aJ,R,simprocAttr])
  all_goals clear R
  refine ⟨k+1,⟨by omega,by omega,?_⟩,by omega,?_⟩
  ·rw[hsu,if_pos hne,k3,zz8 hlt,uc hlt]
  ·try simp only[bK]
   refine aB.bE ?_ ?_ ?_ ?_ <;>simp[aQ,bt,br,aY,aq,aS,bT,I.only,ah.only,c9,fI]
 have heq:xs.getD k 0=xs.getD (k-1) 0:=by simpa using hq
 rw[if_neg (fun h=>h heq)] at hsu;have hsl:=kG (n:=1000000) (p:=[]) (sz:=1) (k:=xs.length) (total:=(xs++q).length) (i:=k) (by omega) (by simp) (by simp;omega);have hml:((xs++q).map (enc (α:=Int))).length=(xs++q).length:=by simp
 have R:=v6 @hc (v6 @hw1 (v6 @v1 (v6 @v2 (v6 @l1 (v6 @l2 (v6 @hq (v6 @hml (v6 @hsl (v6 @cL (v6 @aZ (v6 @aO @ab)))))))))))
 repeat' ((first |refine U.aI (by decide +kernel) rfl fun K hK =>?_|(refine .aD [0,2,3,4,5,8,13,25,32,44] hK ?_;clear hK K)|(with_reducible refine .done (hK _ ?_);clear hK K)|refine U.of rfl ?_|(with_reducible refine al.aH (fun h =>?_) (fun h =>?_) <;>try simp only[h])) <;>try simp only[aJ,R,zw5,simprocAttr])
 all_goals clear R
 refine U.loop (fun s:Nat×List Int=>aw [(0,.view 1000000 [] 1 0 xs.length),(3,.int .i64 (dp xs (k+s.1)).length),(4,.view 1000000 [] 1 k (xs.length-k)),(5,.int .i64 s.1)] (bK 1000000 s.2)) (fun s=>1≤s.1∧k+s.1≤xs.length∧s.2.length=(xs++q).length∧s.2.take (dp xs (k+s.1)).length=dp xs (k+s.1)∧(dp xs (k+s.1)).length+1≤k+s.1∧∀ j,k+s.1≤j+1→s.2[j]?=(xs++q)[j]?) (fun s=>xs.length-k-s.1) (1,xs++q) ⟨zz7 _,by simp only;omega,rfl,?_,?_,fun j _=>rfl⟩ ?_ ?_
 ·simp only[hsu,k3,zy4];rw[Nat.min_eq_left (by omega),zx7 (by omega)]
 ·simp only[hsu,hcl k k2 k3];omega
 ·simp only[hsu,hcl k k2 k3,bK];refine aB.bE ?_ ?_ ?_ ?_ <;>simp[aQ,bt,br,aY,aq,aS,bT,I.only,ah.only,c9,fI]
 rintro ⟨t,ws⟩ ⟨t1,t2,t3,t4,t5,t6⟩;simp only at t1 t2 t3 t4 t5 t6 ⊢;simp only[bK];have htl:(xs++q).length=xs.length+q.length:=zz2;have hgt:∀ j,k+t≤j+1→j<xs.length→ws.getD j 0=xs.getD j 0:=fun j h1 h2=>by
  rw[zz0,t6 j h1,←zz0,hat j h2]
 by_cases hlt2:t<xs.length-k
 ·have hc2:decide ((t:Int)<((xs.length-k:Nat):Int))=true:=by simp;omega
  have hw2:=ea (i:=t) (by omega);have hw3:IntKind.i64.wrap ((t:Int)-1)=((t-1:Nat):Int):=by rw[cG _ (by omega) (by omega)];omega
  have hw4:=ea (i:=(dp xs (k+t)).length) (by omega);have v3:=Ma (m:=1000000) (lo:=k) (l:=xs.length-k) (i:=t) hlt2;have v4:=Ma (m:=1000000) (lo:=k) (l:=xs.length-k) (i:=t-1) (by omega);have v5:=il (n:=xs.length) (i:=(dp xs (k+t)).length) (by omega);have l3:=fV (xs:=ws) (i:=k+t) (by omega);have l4:=fV (xs:=ws) (i:=k+(t-1)) (by omega);rw[hgt _ (by omega) (by omega)] at l3 l4;have s1:=fun (A:af) v u rest=>mV (A:=A) (n:=1000000) (xs:=ws) (i:=(dp xs (k+t)).length) (by omega) v u rest;have l5:=fV (xs:=ws) (i:=(dp xs (k+t)).length) (by omega);have hsu2:dp xs (k+(t+1))=if xs.getD (k+t) 0≠xs.getD (k+(t-1)) 0 then dp xs (k+t)++[xs.getD (k+t) 0] else dp xs (k+t):=by
   rw[show k+(t+1)=(k+t)+1 by omega];simp only[dp];rw[show k+t-1=k+(t-1) by omega];have h0:(k+t=0)=False:=by simp;omega
   simp only[h0,false_or]
  generalize hL:dp xs (k+t)=ay at *;rcases hq2:(xs.getD (k+t) 0 != xs.getD (k+(t-1)) 0)
  ·have heq2:xs.getD (k+t) 0=xs.getD (k+(t-1)) 0:=by simpa using hq2
   rw[if_neg (fun h=>h heq2)] at hsu2;have R:=v6 @hc2 (v6 @hw2 (v6 @hw3 (v6 @v3 (v6 @v4 (v6 @l3 (v6 @l4 (v6 @hq2 (v6 @cL (v6 @aZ (v6 @aO @ab))))))))))
   repeat' ((first |refine U.aI (by decide +kernel) rfl fun K hK =>?_|(refine .aD [0,2,3,4,5,8,13,25,32,44] hK ?_;clear hK K)|(with_reducible refine .done (hK _ ?_);clear hK K)|refine U.of rfl ?_|(with_reducible refine al.aH (fun h =>?_) (fun h =>?_) <;>try simp only[h])) <;>try simp only[aJ,R,simprocAttr])
   all_goals clear R
   refine ⟨(t+1,ws),⟨by simp only;omega,by simp only;omega,t3,?_,?_,fun j hj=>t6 j (by simp only at hj;omega)⟩,by simp only;omega,?_⟩
   ·simp only[hsu2];exact t4
   ·simp only[hsu2];omega
   ·simp only[hsu2];refine aB.bE ?_ ?_ ?_ ?_ <;>simp[aQ,bt,br,aY,aq,aS,bT,I.only,ah.only,c9]
  ·have hne2:xs.getD (k+t) 0≠xs.getD (k+(t-1)) 0:=by simpa using hq2
   rw[if_pos hne2] at hsu2;have R:=v6 @hc2 (v6 @hw2 (v6 @hw3 (v6 @hw4 (v6 @v3 (v6 @v4 (v6 @v5 (v6 @l3 (v6 @l4 (v6 @l5 (v6 @s1 (v6 @hq2 (v6 @cL (v6 @aZ (v6 @aO @ab))))))))))))))
   repeat' ((first |refine U.aI (by decide +kernel) rfl fun K hK =>?_|(refine .aD [0,2,3,4,5,8,13,25,32,44] hK ?_;clear hK K)|(with_reducible refine .done (hK _ ?_);clear hK K)|refine U.of rfl ?_|(with_reducible refine al.aH (fun h =>?_) (fun h =>?_) <;>try simp only[h])) <;>try simp only[aJ,R,simprocAttr])
   all_goals clear R
   refine ⟨(t+1,ws.set ay.length (xs.getD (k+t) 0)),⟨by simp only;omega,by simp only;omega,by simpa using t3,?_,?_,fun j hj =>?_⟩,by simp only;omega,?_⟩
   ·simp only[hsu2,zz2,zv3];rw[zz8 (by simp;omega),List.take_set_of_le (zz7 _),t4];simp
   ·simp only[hsu2,zz2,zv3];omega
   ·simp only at hj;rw[List.getElem?_set_ne (by omega)];exact t6 j (by omega)
   ·simp only[hsu2,zz2,zv3];generalize ws.set _ _=ws2;refine aB.bE ?_ ?_ ?_ ?_ <;>simp[aQ,bt,br,aY,aq,aS,bT,I.only,ah.only,c9]
 ·have hc2:decide ((t:Int)<((xs.length-k:Nat):Int))=false:=by simp;omega
  have hkt:k+t=xs.length:=by omega
  rw[hkt] at t4 t5 ⊢;have hsl2:=kG (n:=1000000) (p:=[]) (sz:=1) (k:=xs.length) (total:=ws.length) (i:=(dp xs xs.length).length) (by omega) (by omega) (by omega);have hsl3:=fun us:List Int=>fun (hu:us.length=ws.length)=>pQ (n:=1000000) (p:=[]) (sz:=1) (k:=xs.length) (total:=us.length) (i:=(dp xs xs.length).length) (by omega) (by omega);have hml2:∀ us:List Int,(us.map (enc (α:=Int))).length=us.length:=fun us=>by simp
  have hclr:=fun (A:af) rest ho=>rO (A:=A) (rest:=rest) (esz:=1) (α:=Int) 0 (n:=1000000) (lo:=(dp xs xs.length).length) (k:=xs.length-(dp xs xs.length).length) (xs:=ws) ho (by omega);simp only[ig] at hclr;obtain ⟨us,hus⟩:∃ us,us=ws.take (dp xs xs.length).length++(List.replicate (xs.length-(dp xs xs.length).length) 0++ws.drop ((dp xs xs.length).length+(xs.length-(dp xs xs.length).length))):=⟨_,rfl⟩
  have hul:us.length=ws.length:=by
   rw[hus];simp only[zz2,zy4,zv4,zy8];omega
  have hut:us.take (dp xs xs.length).length=dp xs xs.length:=by
   rw[hus,zx7 (by rw[zy4];omega),List.take_take,Nat.min_self,t4]
  have hsl3:=hsl3 us hul;simp only[←hus] at hclr;generalize hL:dp xs xs.length=ay at *;refine U.seq (U.seq ?_);refine .bx (by decide +kernel) fun K hK =>?_;simp only[FY,ab,simprocAttr]
  try simp only[hc2,cL,ab,simprocAttr]
  refine .done (hK _ ?_);clear hK K;try simp only[au]
  refine U.bL ?_;simp only[al,ab,simprocAttr];refine ⟨fun h =>?_,fun h =>?_⟩
  ·cases h
  refine U.exit ?_;try simp only[au,bP,simprocAttr]
  refine .ar (by decide +kernel) fun K hK =>?_;simp only[FW,ab,simprocAttr]
  try simp only[hml2,hsl2,zw5,cL,ab,simprocAttr]
  rw[hclr _ _ rfl]
  try simp only[ab,simprocAttr]
  refine .done (hK _ ?_);clear hK K;refine .ar (by decide +kernel) fun K hK =>?_;simp only[FX,ab,simprocAttr]
  try simp only[hml2,hsl3,zw5,cL,ab,simprocAttr]
  refine .done (hK _ ?_);clear hK K;refine U.ret ?_;simp only[bP,au,eA];exact ⟨bK 1000000 us,[.view 1000000 [] 1 0 ay.length],iE rfl (fun p=>fZ p _),⟨⟨_,rfl,.inl ⟨rfl,rfl,rfl⟩⟩,trivial⟩,us,by rw[hL];rfl,rfl,by rw[hL];exact hut,by omega⟩
theorem AT:aA Tryz.prog 108 [enc ([]:List Int)] (enc ([]:List Int)):=by
 refine aA.bp Tryz.func108 DV Eb Ev (t7 rfl) (fun hwf W0 D0 E1 =>?_);simp only[wm,zR,bl];clear hwf;have h0:decide (((([]:List Int).length:Nat):Int)<2)=true:=rfl;have h1:decide ((0:Int)<2)=true:=rfl;have R:=v6 @h0 (v6 @h1 (v6 @aZ (v6 @aO @ab)))
 repeat' ((first |refine U.aI (by decide +kernel) rfl fun K hK =>?_|(refine .aD [0,2,3,4,5,8,13,25,32,44] hK ?_;clear hK K)|(with_reducible refine .done (hK _ ?_);clear hK K)|refine U.of rfl ?_|(with_reducible refine al.aH (fun h =>?_) (fun h =>?_) <;>try simp only[h])) <;>try simp only[aJ,R,simprocAttr])
 all_goals clear R
theorem Si(l:List ak):aA Tryz.prog 44 [enc l] (.tuple [enc (km l).1,enc (km l).2]):=by
 have hF:=rC l;refine aA.bp Tryz.func44 Vq Xu ZH (t7 rfl) (fun hwf W0 D0 E1 =>?_);simp only[Dp,Po,bl];clear hwf;simp only[km];rcases q1:c8 l
 ·rw[q1,if_neg (by decide)] at hF;have R:=v6 @aO @ab
  repeat' ((first |refine U.aI (by decide +kernel) rfl fun K hK =>?_|refine .flat _ (hF) rfl ?_|(refine .aD [0,2,3,4,5,7,11,13,14,15,16] hK ?_;clear hK K)|(with_reducible refine .done (hK _ ?_);clear hK K)|refine U.of rfl ?_|(with_reducible refine al.aH (fun h =>?_) (fun h =>?_) <;>try simp only[h])) <;>try simp only[aJ,R,simprocAttr])
  all_goals clear R
  all_goals rfl
 rw[q1,if_pos rfl] at hF;have hll:=kD q1;have R:=v6 @aZ (v6 @aO @ab)
 repeat' ((first |refine U.aI (by decide +kernel) rfl fun K hK =>?_|refine .flat _ (hF) rfl ?_|(refine .aD [0,2,3,4,5,7,11,13,14,15,16] hK ?_;clear hK K)|(with_reducible refine .done (hK _ ?_);clear hK K)|refine U.of rfl ?_|(with_reducible refine al.aH (fun h =>?_) (fun h =>?_) <;>try simp only[h])) <;>try simp only[aJ,R,simprocAttr])
 all_goals clear R
 refine U.loop (fun i:Nat=>aw [(5,.own 905 ((l.take i).map (·.known)).length),(13,enc l),(14,.int .i64 l.length),(15,.int .i64 i)] [(905,.c4 3 ((l.take i).map (·.known)))]) (fun i=>i≤l.length) (fun i=>l.length-i) 0 (zw3 _) ?_ (fun i hi =>?_)
 ·refine aB.vZ 5 905 3 1 rfl rfl ?_;simp only[List.take_zero,zx1,zv0];refine aB.bE ?_ ?_ ?_ ?_ <;>simp[aQ,bt,br,aY,aq,aS,bT,I.only,ah.only,bg]
 have htl:((l.take i).map (·.known)).length≤60:=by rw[zy1,zy4];omega
 by_cases hlt:i<l.length
 ·have hc:=fw hlt;have hw:=ea (i:=i) (by omega);have he:=fun A=>kv (A:=A) hlt;have hsu:(l.take (i+1)).map (·.known)=(l.take i).map (·.known)++[(ae l i).known]:=by
   rw[zz8 hlt,zx4,fN hlt];rfl
  generalize (l.take i).map (·.known)=xs at htl hsu ⊢;have happ:=fun (A:af) d rest=>tk (A:=A) (d:=d) (e:=3) (bytes:=8) (n:=905) (l:=xs.length) (xs:=xs) (y:=(ae l i).known) (rest:=rest) rfl (by simp[maxLen];omega) (by omega);have R:=v6 @hc (v6 @hw (v6 @he (v6 @happ dG)))
  repeat' ((first |refine U.aI (by decide +kernel) rfl fun K hK =>?_|(refine .aD [0,2,3,4,5,7,11,13,14,15,16] hK ?_;clear hK K)|(with_reducible refine .done (hK _ ?_);clear hK K)|refine U.of rfl ?_|(with_reducible refine al.aH (fun h =>?_) (fun h =>?_) <;>try simp only[h])) <;>try simp only[aJ,R,simprocAttr])
  all_goals clear R
  refine ⟨i+1,by omega,by omega,?_⟩;simp only[hsu];refine aB.bE ?_ ?_ ?_ ?_ <;>simp[aQ,bt,br,aY,aq,aS,bT,I.only,ah.only,bg]
 have hc:=fP hlt;have hge:i=l.length:=by omega
 subst hge;rw[zu7] at htl ⊢;refine .ar (by decide +kernel) fun K hK =>?_;simp only[Kr,ab,simprocAttr]
 try simp only[hc,simprocAttr]
 refine .done (hK _ ?_);clear hK K;refine U.seq ?_;refine U.bL ?_;simp only[al,ab,simprocAttr];refine ⟨fun h =>?_,fun h =>?_⟩
 ·cases h
 refine U.exit ?_;try simp only[au,bP,simprocAttr]
 rw[←wS];generalize l.map (·.known)=xs at htl;by_cases hx:xs=[]
 ·subst hx;refine U.iU (a:=25) (b:=26) (d:=5) (n:=905) (xs:=[]) rfl rfl (by decide) (by simp) (qR (by simp[lM,I.only,bg])) (by simp[cR,aY]) [] (by simp) (by decide) (by decide) ?_;have e:cS []=[]:=by simp[cS]
  rw[e];have hN:=AT;have R:=v6 @aZ (v6 @aO @ab)
  repeat' ((first |refine U.aI (by decide +kernel) rfl fun K hK =>?_|refine .lead _ (hN) ?_|(refine .aD [0,2,3,4,5,7,11,13,14,15,16] hK ?_;clear hK K)|(with_reducible refine .done (hK _ ?_);clear hK K)|refine U.of rfl ?_|(with_reducible refine al.aH (fun h =>?_) (fun h =>?_) <;>try simp only[h])) <;>try simp only[aJ,R,simprocAttr])
  all_goals clear R
  all_goals rfl
 ·refine U.apQ hx (a:=25) (b:=26) (d:=5) (n:=905) (xs:=xs) rfl rfl (by decide) (by omega) (qR (by simp[lM,I.only,bg])) (by simp[cR,aY]) [] (by simp) (by decide) (by decide) fun q =>?_;have hsl:(cS xs).length=xs.length:=(lT xs).length_eq;rw[←hsl];generalize cS xs=ys at hsl ⊢;refine .ar (by decide +kernel) fun K hK =>?_;simp only[Kq,ab,simprocAttr]
  try simp only[cR,simprocAttr]
  refine .bQ false [(1000000,905)] (bK 1000000 (ys++List.replicate q 0)) [.view 1000000 [] 1 0 ys.length] _ rfl (AS ys _ (by omega)) ?_ ?_ ?_ ?_
  ·refine ⟨fun m y hy =>?_,fun m m' h h' _=>by rw[cz.1 h,cz.1 h']⟩;simp only[bK,ao] at hy;split at hy
   ·rename_i hm;cases hy;subst hm;exact ⟨by simp only[bD,if_true,ao,ah.aN,I.aN,eP],fZ _ _,rfl⟩
   ·cases hy
  ·exact ⟨.inl ⟨by simp[I.aN,bD],cz.2 rfl,rfl⟩,trivial⟩
  ·rintro eF os2 ⟨ws,rfl,rfl,h1,h2⟩;exact dn.sr (fun p=>fZ p _) (fun h=>by cases h) rfl (fun h=>by cases h)
  ·rintro eF os2 ⟨ws,rfl,rfl,h1,h2⟩
   try simp only[bK,dB,zy2,zx1,ah.aN,I.aN,eP,bD,reduceIte,zz9,zy3,ab,simprocAttr]
   refine .done (hK _ ?_);clear hK K;refine U.ret ?_;simp only[ab,simprocAttr]
   try simp only[pc (α:=Int) (sz:=1) rfl,h1,ab,simprocAttr]
   all_goals rfl
theorem vT(a b:aP):aA Tryz.prog 47 [enc a,enc b] (enc (decide (a=b))):=by
 refine aA.bp Tryz.func47 Vr Xv ZI (t7 rfl) (fun hwf W0 D0 E1 =>?_);simp only[Dq,Pp,bl,zz4];have hla:a.bS.length≤maxLen∧b.bS.length≤maxLen:=⟨((kL a.bS).1 hwf.1.2.2.2.2.2.2.2.2.1).1,((kL b.bS).1 hwf.2.1.2.2.2.2.2.2.2.2.1).1⟩
 clear hwf;simp only[maxLen] at hla;have R:=v6 @abM (v6 @dY (v6 @qP (v6 @aZ (v6 @aO @ab))))
 repeat' ((first |(with_reducible refine .guard (fun hb =>?_) (fun hb =>?_) <;>try simp only[hb])|refine U.aI (by decide +kernel) rfl fun K hK =>?_|(refine .aD [0,1,2,3,4,5,68,73,86] hK ?_;clear hK K)|(with_reducible refine .done (hK _ ?_);clear hK K)|refine U.of rfl ?_|(with_reducible refine al.aH (fun h =>?_) (fun h =>?_) <;>try simp only[h])) <;>try simp only[aJ,R,simprocAttr])
 all_goals clear R
 all_goals first
  |(have:¬ a=b:=by rintro rfl;simp_all
    simp[this];done)
  |skip
 have hf:a.no=b.no∧a.dF=b.dF∧a.fg=b.fg∧a.bU=b.bU∧a.ju=b.ju∧a.born=b.born∧a.dW=b.dW∧a.found=b.found∧a.bS.length=b.bS.length:=by
  refine ⟨?_,?_,?_,?_,?_,?_,?_,?_,?_⟩ <;>first | (simp_all;done) | (simp_all;omega)
 have hab:a.bS=b.bS→a=b:=fun h=>by
  cases a;cases b;simp_all
 have hl:=hf.2.2.2.2.2.2.2.2;clear hf;refine U.loop (fun i:Nat=>aw [(2,.ptr 2 []),(3,.ptr 3 []),(5,.int .i64 i)] [(2,.box (enc a)),(3,.box (enc b))]) (fun i=>i≤a.bS.length∧∀ k,k<i→a.bS[k]?=b.bS[k]?) (fun i=>a.bS.length-i) 0 ⟨zw3 _,fun k h=>by omega⟩ ?_ (fun i hi =>?_)
 ·refine aB.bE ?_ ?_ ?_ ?_ <;>simp[aQ,bt,br,aY,aq,aS,bT,I.only,ah.only,bg]
 obtain ⟨hi1,hi2⟩:=hi;by_cases hlt:i<a.bS.length
 ·have hc:=fw hlt;have he:=fun A=>fm (A:=A) 6 hlt rfl;have hlt2:i<b.bS.length:=by omega
  have he2:=fun A=>fm (A:=A) 6 hlt2 rfl;have hw:=ea (i:=i) (by omega);have hex:=AO a.bS[i] b.bS[i];rcases hp:decide ((a.bS[i]).l=(b.bS[i]).l)
  ·have R:=v6 @hc (v6 @he (v6 @he2 (v6 @hp (v6 @qt (v6 @dY (v6 @qP (v6 @aZ (v6 @aO @ab))))))))
   repeat' ((first |(with_reducible refine .guard (fun hb =>?_) (fun hb =>?_) <;>try simp only[hb])|refine U.aI (by decide +kernel) rfl fun K hK =>?_|(refine .aD [0,1,2,3,4,5,68,73,86] hK ?_;clear hK K)|(with_reducible refine .done (hK _ ?_);clear hK K)|refine U.of rfl ?_|(with_reducible refine al.aH (fun h =>?_) (fun h =>?_) <;>try simp only[h])) <;>try simp only[aJ,R,simprocAttr])
   all_goals clear R
   have:¬ a=b:=by rintro rfl;simp at hp
   simp[this]
  ·have R:=v6 @hc (v6 @he (v6 @he2 (v6 @hp (v6 @hw (v6 @qt (v6 @dY (v6 @qP (v6 @aZ (v6 @aO @ab)))))))))
   repeat' ((first |(with_reducible refine .guard (fun hb =>?_) (fun hb =>?_) <;>try simp only[hb])|refine U.aI (by decide +kernel) rfl fun K hK =>?_|(refine .aD [0,1,2,3,4,5,68,73,86] hK ?_;clear hK K)|(with_reducible refine .done (hK _ ?_);clear hK K)|refine U.of rfl ?_|(with_reducible refine al.aH (fun h =>?_) (fun h =>?_) <;>try simp only[h])) <;>try simp only[aJ,R,simprocAttr])
   all_goals clear R
   refine ⟨i+1,⟨by omega,fun k hk =>?_⟩,by omega,?_⟩
   ·by_cases e:k=i
    ·subst e;have:a.bS[k]=b.bS[k]:=hex.2 (by simpa using hp);simp[hlt,hlt2,this]
    ·exact hi2 k (by omega)
   ·refine aB.bE ?_ ?_ ?_ ?_ <;>simp[aQ,bt,br,aY,aq,aS,bT,I.only,ah.only,bg]
 ·have hc:=fP hlt;have R:=v6 @hc (v6 @dY (v6 @qP (v6 @aZ (v6 @aO @ab))))
  repeat' ((first |(with_reducible refine .guard (fun hb =>?_) (fun hb =>?_) <;>try simp only[hb])|refine U.aI (by decide +kernel) rfl fun K hK =>?_|(refine .aD [0,1,2,3,4,5,68,73,86] hK ?_;clear hK K)|(with_reducible refine .done (hK _ ?_);clear hK K)|refine U.of rfl ?_|(with_reducible refine al.aH (fun h =>?_) (fun h =>?_) <;>try simp only[h])) <;>try simp only[aJ,R,simprocAttr])
  all_goals clear R
  have:a=b:=hab (List.ext_getElem? fun k=>by
   by_cases hk:k<i
   ·exact hi2 k hk
   ·rw[List.getElem?_eq_none (by omega),List.getElem?_eq_none (by omega)])
  simp[this]
def EL(xs:List Int)(p:Int→Bool)(N:Nat):cO:=fun r os'=>∃ us:List Int,r=.view 1000000 [] 1 0 (xs.filter fun x => !p x).length∧os'=bK 1000000 us∧us.take (xs.filter fun x => !p x).length=(xs.filter fun x => !p x)∧us.length=N
theorem RB(xs q:List Int)(hn:xs.length≤200)(hq:0<(xs++q).length)(f:FuncId)(caps:List I)(hcaps:I.eY caps=true)(p:Int→Bool)(hf:∀ x∈xs,aA Tryz.prog f (enc x::caps) (enc (p x))) :
  cF Tryz.prog 151 [.view 1000000 [] 1 0 xs.length,.func f caps] (bK 1000000 (xs++q)) (EL xs p (xs++q).length):=by
 refine cF.bp Tryz.func151 DY Ee Ez (t7 rfl) (t7 rfl) mP (fun hwf W0 D0 E1 =>?_);simp only[wu,zU,bl,zz4];clear hwf;have hcl:I.cg caps=true:=kR caps hcaps;have hfc:∀ aC A,cn aC A caps=some caps:=fun aC A=>kq aC A caps hcaps;have hon:∀ q,I.bV q caps=true:=fun q=>kE q caps hcl;have hF:=vP xs f caps hcaps p hf;have hfp:lH 1 0 xs.length (some ((xs++q).map enc))=some (enc xs):=xp rfl;simp only[bK];cases hfi:xs.findIdx? p with
 |none =>
  have hi:ku p xs=-1:=by simp[ku,hfi]
  rw[hi] at hF;rw[List.findIdx?_eq_none_iff] at hfi;have hk:(xs.filter fun x => !p x)=xs:=by
   rw[List.filter_eq_self];intro x hx;simp[hfi x hx]
  have q1:((-1:Int)==-1)=true:=rfl;have R:=v6 @q1 (v6 @hfp (v6 @hfc (v6 @gK (v6 @cL (v6 @aZ (v6 @aO @ab))))))
  repeat' ((first |refine U.aI (by decide +kernel) rfl fun K hK =>?_|refine .flat _ (hF) rfl ?_|(refine .aD [0,1,4,5,6,7,12,19,29] hK ?_;clear hK K)|(with_reducible refine .done (hK _ ?_);clear hK K)|refine U.of rfl ?_|(with_reducible refine al.aH (fun h =>?_) (fun h =>?_) <;>try simp only[h])) <;>try simp only[aJ,R,Nat.reduceEqDiff,reduceIte,Nat.reduceBEq])
  all_goals clear R
  rw[eA];exact ⟨bK 1000000 (xs++q),[.view 1000000 [] 1 0 xs.length],iE rfl (fun p=>fZ p _),⟨⟨_,rfl,.inl ⟨rfl,rfl,rfl⟩⟩,trivial⟩,xs++q,by rw[hk];rfl,rfl,by rw[hk,List.take_left],rfl⟩
 |some i0 =>
  obtain ⟨q1,q2,q3⟩:=zu0.1 hfi;have hi:ku p xs=(i0:Int):=by simp[ku,hfi]
  rw[hi] at hF;have hstart:xs.take i0=(xs.take (i0+1)).filter fun x => !p x:=by
   rw[zz8 q1,List.filter_append,zx8,q2];simp only[Bool.not_true,zz6,if_false,zu2,zx6]
   symm
   rw[List.filter_eq_self];intro x hx;obtain ⟨j,hj,rfl⟩:=List.mem_take_iff_getElem.1 hx;have:=q3 j (by omega);simpa using this
  have n1:((i0:Int)==-1)=false:=beq_eq_false_iff_ne.2 (by omega);have hwi:=ea (i:=i0) (by omega);have R:=v6 @n1 (v6 @hwi (v6 @hfp (v6 @hfc (v6 @gK (v6 @cL (v6 @aZ (v6 @aO @ab)))))))
  repeat' ((first |refine U.aI (by decide +kernel) rfl fun K hK =>?_|refine .flat _ (hF) rfl ?_|(refine .aD [0,1,4,5,6,7,12,19,29] hK ?_;clear hK K)|(with_reducible refine .done (hK _ ?_);clear hK K)|refine U.of rfl ?_|(with_reducible refine al.aH (fun h =>?_) (fun h =>?_) <;>try simp only[h])) <;>try simp only[aJ,R,Nat.reduceEqDiff,reduceIte,Nat.reduceBEq])
  all_goals clear R
  refine U.loop (fun s:List Int×Nat×Nat=>aw [(0,.view 1000000 [] 1 0 xs.length),(1,.func f caps),(5,.int .i64 s.2.1),(6,.int .i64 s.2.2)] (bK 1000000 s.1)) (fun s=>s.1.length=(xs++q).length∧s.2.1<s.2.2∧s.2.2≤xs.length∧s.1.take s.2.1=(xs.take s.2.2).filter (fun x => !p x)∧s.1.drop s.2.2=(xs++q).drop s.2.2) (fun s=>xs.length-s.2.2) (xs++q,i0,i0+1) ⟨rfl,by simp only;omega,by simp only;omega,?_,rfl⟩ ?_ ?_
  ·simp only;rw[zx7 (by omega)];exact hstart
  ·simp only[bK];refine aB.bE ?_ ?_ ?_ ?_ <;>simp[*,aQ,bt,br,aY,aq,aS,bT,I.only,ah.only,c9,fI]
  rintro ⟨ws,i,j⟩ ⟨c1,c2,c3,gf,jv⟩;simp only at c1 c2 c3 gf jv ⊢;simp only[bK];have hlen:(xs++q).length=xs.length+q.length:=zz2;by_cases hlt:j<xs.length
  ·have hc:=fw hlt;have hwj:=ea (i:=j) (by omega);have hwi2:=ea (i:=i) (by omega);have v1:=il (n:=xs.length) (i:=j) hlt;have v2:=il (n:=xs.length) (i:=i) (by omega);have l1:=fV (xs:=ws) (i:=j) (by omega);have l2:=fV (xs:=ws) (i:=i) (by omega);have hwj2:ws.getD j 0=xs[j]:=by
    have h1:(ws.drop j)[0]?=((xs++q).drop j)[0]?:=by rw[jv]
    simp only[List.getElem?_drop,Nat.add_zero] at h1;rw[zz0,h1,zy9 hlt,zy0 hlt];rfl
   rw[hwj2] at l1;have hP:=hf _ (zx5 hlt);have ht:(xs.take (j+1)).filter (fun x => !p x)=(xs.take j).filter (fun x => !p x)++if (!p xs[j]) then [xs[j]] else []:=by
    rw[zz8 hlt,List.filter_append,zx8,zu2]
   have s1:=fun (A:af) v u rest=>mV (A:=A) (n:=1000000) (xs:=ws) (i:=i) (by omega) v u rest;generalize xs[j]=y at l1 hP ht;rcases hp:p y
   ·rw[hp] at hP ht;simp only[Bool.not_false,if_true] at ht;have R:=v6 @hc (v6 @hwj (v6 @hwi2 (v6 @v1 (v6 @v2 (v6 @l1 (v6 @l2 (v6 @s1 (v6 @hfc (v6 @gK (v6 @cL (v6 @aZ (v6 @aO @ab))))))))))))
    repeat' ((first |refine U.aI (by decide +kernel) rfl fun K hK =>?_|refine .flat _ (hP) rfl ?_|(refine .aD [0,1,4,5,6,7,12,19,29] hK ?_;clear hK K)|(with_reducible refine .done (hK _ ?_);clear hK K)|refine U.of rfl ?_|(with_reducible refine al.aH (fun h =>?_) (fun h =>?_) <;>try simp only[h])) <;>try simp only[aJ,R,zz9,Nat.reduceEqDiff,reduceIte,Nat.reduceBEq])
    all_goals clear R
    refine ⟨(ws.set i y,i+1,j+1),⟨by simp[c1],by simp only;omega,by simp only;omega,?_,?_⟩,by simp only;omega,?_⟩
    ·simp only;rw[ht,←gf,zz8 (by simp;omega),List.take_set_of_le (zz7 _)];simp
    ·simp only;rw[List.drop_set_of_lt (by omega)];have:(ws.drop j).drop 1=((xs++q).drop j).drop 1:=by rw[jv]
     simpa[List.drop_drop] using this
    ·simp only[];generalize ws.set i y=us;refine aB.bE ?_ ?_ ?_ ?_ <;>simp[*,aQ,bt,br,aY,aq,aS,bT,I.only,ah.only,c9]
   ·rw[hp] at hP ht;simp only[Bool.not_true,zz6,if_false,zx6] at ht;have R:=v6 @hc (v6 @hwj (v6 @v1 (v6 @l1 (v6 @hfc (v6 @gK (v6 @cL (v6 @aZ (v6 @aO @ab))))))))
    repeat' ((first |refine U.aI (by decide +kernel) rfl fun K hK =>?_|refine .flat _ (hP) rfl ?_|(refine .aD [0,1,4,5,6,7,12,19,29] hK ?_;clear hK K)|(with_reducible refine .done (hK _ ?_);clear hK K)|refine U.of rfl ?_|(with_reducible refine al.aH (fun h =>?_) (fun h =>?_) <;>try simp only[h])) <;>try simp only[aJ,R,zz9,Nat.reduceEqDiff,reduceIte,Nat.reduceBEq])
    all_goals clear R
    refine ⟨(ws,i,j+1),⟨c1,by simp only;omega,by simp only;omega,?_,?_⟩,by simp only;omega,?_⟩
    ·simp only;rw[ht];exact gf
    ·simp only;have:(ws.drop j).drop 1=((xs++q).drop j).drop 1:=by rw[jv]
     simpa[List.drop_drop] using this
    ·simp only[];refine aB.bE ?_ ?_ ?_ ?_ <;>simp[*,aQ,bt,br,aY,aq,aS,bT,I.only,ah.only,c9]
  ·have hj:j=xs.length:=by omega
   subst hj;have hc:=fP hlt;rw[zu7] at gf;have hlk:(xs.filter fun x => !p x).length=i:=by rw[←gf,zy4];omega
   have hsl2:=kG (n:=1000000) (p:=[]) (sz:=1) (k:=xs.length) (total:=ws.length) (i:=i) (by omega) (by omega) (by omega);have hsl3:=fun us:List Int=>fun (hu:us.length=ws.length)=>pQ (n:=1000000) (p:=[]) (sz:=1) (k:=xs.length) (total:=us.length) (i:=i) (by omega) (by omega);have hml2:∀ us:List Int,(us.map (enc (α:=Int))).length=us.length:=fun us=>by simp
   have hclr:=fun (A:af) rest ho=>rO (A:=A) (rest:=rest) (esz:=1) (α:=Int) 0 (n:=1000000) (lo:=i) (k:=xs.length-i) (xs:=ws) ho (by omega);simp only[ig] at hclr;obtain ⟨us,hus⟩:∃ us,us=ws.take i++(List.replicate (xs.length-i) 0++ws.drop (i+(xs.length-i))):=⟨_,rfl⟩
   have hul:us.length=ws.length:=by
    rw[hus];simp only[zz2,zy4,zv4,zy8];omega
   have hut:us.take i=xs.filter fun x => !p x:=by
    rw[hus,zx7 (by rw[zy4];omega),List.take_take,Nat.min_self,gf]
   have hsl3:=hsl3 us hul;simp only[←hus] at hclr;refine U.seq (U.seq ?_);refine .bx (by decide +kernel) fun K hK =>?_;simp only[Hc,ab,Nat.reduceEqDiff,reduceIte]
   try simp only[hc,cL,ab,Nat.reduceEqDiff,reduceIte]
   refine .done (hK _ ?_);clear hK K;try simp only[au]
   refine U.bL ?_;simp only[al,ab,Nat.reduceEqDiff,reduceIte];refine ⟨fun h =>?_,fun h =>?_⟩
   ·cases h
   refine U.exit ?_;try simp only[au,bP,reduceIte]
   refine .ar (by decide +kernel) fun K hK =>?_;simp only[Ha,ab,Nat.reduceEqDiff,reduceIte]
   try simp only[hml2,hsl2,zw5,cL,ab,Nat.reduceEqDiff,reduceIte]
   rw[hclr _ _ rfl]
   try simp only[ab]
   refine .done (hK _ ?_);clear hK K;refine .ar (by decide +kernel) fun K hK =>?_;simp only[Hb,ab,Nat.reduceEqDiff,reduceIte]
   try simp only[hml2,hsl3,zw5,cL,ab,Nat.reduceEqDiff,reduceIte]
   refine .done (hK _ ?_);clear hK K;refine U.ret ?_;simp only[eA];exact ⟨bK 1000000 us,[.view 1000000 [] 1 0 i],iE rfl (fun p=>fZ p _),⟨⟨_,rfl,.inl ⟨rfl,rfl,rfl⟩⟩,trivial⟩,us,by rw[hlk];rfl,rfl,by rw[hlk];exact hut,by omega⟩
end Go.Proofs.YtcldiigclhgafaaGreat
namespace Go.Proofs.YtcldiigclhgafaaGreat
open Go Go.Abs Go.Shelf
open Go.Abs.Enc (enc)
def sC:Go.Shelf.Ren:=⟨fun | 4=>190 | n=>n,fun | 22=>29 | 25=>3 | n=>n,fun n=>n⟩
theorem amt:Go.Proofs.Lays8.n4 Tryz.prog sC := {
 mixed:=by kernel_rfl
 f4:=⟨Tryz.f190.name,by kernel_rfl,Tryz.func190.trans (congrArg some (by kernel_rfl))⟩
 t0:=Tryz.underlying0
 a0:=Tryz.isAgg0
 z0:=Tryz.sizeOf0
 v0:=Tryz.zeroValue0
 t3:=Tryz.underlying3
 a3:=Tryz.isAgg3
 z3:=Tryz.sizeOf3
 v3:=Tryz.zeroValue3
 t4:=Tryz.underlying4
 a4:=Tryz.isAgg4
 z4:=Tryz.sizeOf4
 v4:=Tryz.zeroValue4
 t9:=Tryz.underlying9
 a9:=Tryz.isAgg9
 z9:=Tryz.sizeOf9
 v9:=Tryz.zeroValue9
 t20:=Tryz.underlying20
 a20:=Tryz.isAgg20
 z20:=Tryz.sizeOf20
 v20:=Tryz.zeroValue20
 t22:=Tryz.underlying29
 a22:=Tryz.isAgg29
 z22:=Tryz.sizeOf29
 v22:=Tryz.zeroValue29 }
theorem yA(w:World)(o:Obj):(w.drew.alloc o).heap=w.heap.push o:=rfl
theorem alW:∃ i,Tryz.prog.info? 3=some i∧i.zero=some (.int .i64 0)∧i.size=1∧i.bytes=8:=by
 have h:(Tryz.prog.info? 3).map (fun i=>(i.zero,i.size,i.bytes))=some (some (.int .i64 0),1,8):=by kernel_rfl
 cases h2:Tryz.prog.info? 3 with
 |none=>rw[h2] at h;cases h
 |some i =>
  rw[h2] at h;simp only[zy6,u8,Prod.mk.injEq] at h;exact ⟨i,rfl,h.1,h.2.1,h.2.2⟩
theorem aqH(n:Nat):(Builtin.zeroCells (Value.int .i64 0).cells n).toList=(List.replicate n (0:Int)).map (Value.int .i64):=by
 have e:(Value.int .i64 0).cells = #[.int .i64 0]:=rfl;rw[e];refine List.ext_getElem (by simp[Builtin.zeroCells]) fun i h1 h2 =>?_;simp[Builtin.zeroCells,Nat.mod_one]
end Go.Proofs.YtcldiigclhgafaaGreat
namespace Go.Proofs.YtcldiigclhgafaaGreat
open Go Go.Abs Go.Shelf Go.RowKit
open Go.Abs.Enc (enc)
theorem R0(n:Nat)(h0:0<n)(hn:n≤1000):cF Tryz.prog 190 [.nils 1,enc (n:Int)] [] (fun r os'=>∃ k,n≤k∧r=.view 9 [] 1 0 0∧os'=bK 9 (List.replicate k 0)):=by
 refine ⟨D5,fun w D E vs _ hD hO hv =>?_⟩;have az:∀ m,E m=none:=fun m=>by
  have:=hO.bQ m;simpa only[ao,df] using this
 simp only[aK] at hv;obtain ⟨v,rest,cs,rfl,hp,hr,v2,rest2,cs2,rfl,hp2,hr2,rfl⟩:=hv;have e1:cs=[.slice none 0 0]:=hr;subst e1;have hv1:v=.slice none 0 0:=by
  have:[Value.slice none 0 0]=[v]:=hp;simpa using this.symm
 subst hv1;have e2:cs2=[.int .i64 n]∧_:=hr2;obtain ⟨e2,-⟩:=e2;subst e2;have hv2:v2=.int .i64 n:=by
  have:[Value.int .i64 (n:Int)]=[v2]:=hp2;simpa using this.symm
 subst hv2;obtain ⟨i0,q1,q2,q3,q4⟩:=alW;refine (Go.Proofs.Any8.slices_Grow_grow amt i0 (.int .i64 0) q1 q2 (by omega) none 0 0 n [] w (zz7 _) (by omega) (by rw[q4];omega) (by omega) (by simp) (fun _=>rfl) (fun a h=>by cases h)).mono ?_;rintro e w' ⟨rfl,hw'⟩;obtain ⟨K,hK⟩:∃ K,K=grownCap w (0+n) 0 (sC.t 25):=⟨_,rfl⟩
 have hKn:n≤K:=by rw[hK];simpa using grownCap_ge w (0+n) 0 (sC.t 25)
 have hKm:K≤maxLen:=by rw[hK];exact grownCap_le_maxLen w _ _ _ (by simp only[maxLen];omega)
 rw[←hK] at hw' ⊢;obtain ⟨cells,hc⟩:∃ cells,cells=(([]:List Value).toArray++Builtin.zeroCells (Value.int .i64 0).cells (0+n-0)++Builtin.zeroCells (Value.int .i64 0).cells (K-(0+n))):=⟨_,rfl⟩
 rw[←hc] at hw';have hcl:cells.toList=(List.replicate K (0:Int)).map (Value.int .i64):=by
  rw[hc];simp only[Array.toList_append,aqH,zy3,zz4,Nat.sub_zero];rw[←zx4,List.replicate_append_replicate,show n+(K-n)=K by omega]
 have hb:w'.heap[w.heap.size]?=some (.cells cells (sC.t 25) (0,0)):=by
  rw[hw',yA];simp
 have hother:∀ k,k<w.heap.size→w'.heap[k]?=w.heap[k]?:=fun k hk=>by
  rw[hw',yA];simp[Array.getElem?_push,Nat.ne_of_lt hk]
 have hsz:w.heap.size<w'.heap.size:=by rw[hw',yA];simp
 have o1:w'.os=w.os:=by rw[hw'];rfl
 have o2:w'.tape=w.tape:=by rw[hw'];rfl
 have o3:w'.output=w.output:=by rw[hw'];rfl
 have hsh:(I.agg ((List.replicate K (0:Int)).map enc)).aV=.ez (List.replicate K .one):=by rw[rf,zv4]
 refine ⟨_,D,fun m=>if m=9 then some (.aC w.heap.size (I.agg ((List.replicate K (0:Int)).map enc)).aV) else none,.view 9 [] 1 0 0,bK 9 (List.replicate K 0),rfl,⟨K,hKn,rfl,rfl⟩,?_,⟨fun m =>?_,fun a b e e' b' ha hb' _ _ =>?_⟩,⟨o1,o2,o3,Nat.le_of_lt hsz,fun k hk =>?_⟩,fun _ _ h=>h,fun b0 o h=>Nat.lt_trans (hD b0 o h) hsz,fun _ _ h _ _=>h,fun m e h _ =>?_,⟨fun b0 o u hd hc0 =>?_,fun b0 es ck hd hc0 =>?_⟩⟩
 ·refine ⟨[.slice (some ⟨w.heap.size,0,none⟩) 0 K],rfl,w.heap.size,_,0,List.replicate K .one,if_pos rfl,?_,?_,?_,by simpa using hKm,by simp,fun s hs =>?_⟩
  ·rw[hsh];rfl
  ·rw[hsh];rfl
  ·simp
  ·rw[List.eq_of_mem_replicate hs];rfl
 ·by_cases hm:m=9
  ·subst hm;simp only[bK,ao,if_true];refine ⟨w.heap.size,cells,sC.t 25,if_pos rfl,.inl (zz7 _),hb,?_,fun o h=>Nat.lt_irrefl _ (hD _ o h)⟩
   show aL w' D _ _ _
   rw[hcl];exact qY fun y hy=>by
    rw[List.eq_of_mem_replicate hy];simp[IntKind.min,IntKind.max,IntKind.bits,IntKind.signed]
  ·simp only[bK,ao,if_neg hm,df]
 ·split at ha
  ·split at hb'
   ·rename_i h1 h2;rw[h1,h2]
   ·cases hb'
  ·cases ha
 ·exact hother k (Nat.lt_of_not_le fun h=>hk (.inl h))
 ·rw[az m] at h;cases h
 ·simp only[World.cell?,hother b0 (hD b0 o hd)] at hc0 ⊢;exact hc0
 ·rw[hother b0 (hD b0 0 hd)];exact hc0
end Go.Proofs.YtcldiigclhgafaaGreat
namespace Go.Proofs.YtcldiigclhgafaaGreat
open Go Go.Abs
open Go.Abs.Enc (enc)
theorem MQ:(∀ A z,rM A (.nils z)=some (.int .i64 ((0:Nat):Int)))∧(∀ A z,jj A (.nils z)=some (.int .i64 0))∧decide ((0:Int)<0)=false∧decide ((((0:Nat):Int))<0)=false∧((0:Nat):Int)=0∧IntKind.i64.wrap ((0:Int)-0)=0∧IntKind.i64.wrap ((0:Int)+0)=0 :=
 ⟨fun _ _=>rfl,fun _ _=>rfl,rfl,rfl,rfl,by decide,by decide⟩
theorem R1:cF Tryz.prog 190 [.nils 1,enc (0:Int)] [] (fun r os'=>r=.nils 1∧os'=[]):=by
 refine cF.bp Tryz.func190 D5 W2 Zf (t7 rfl) (t7 rfl) (fun m hm=>by simp[aq,ao] at hm) (fun hwf W0 D0 E1 =>?_);simp only[CW,OV,bl,zz4];clear hwf;have R:=v6 @MQ (v6 @MU (v6 @aZ (v6 @aO @ab)))
 repeat' ((first |refine U.aI (by decide +kernel) rfl fun K hK =>?_|(refine .aD [0,1,4,6,16] hK ?_;clear hK K)|(with_reducible refine .done (hK _ ?_);clear hK K)|refine U.of rfl ?_|(with_reducible refine al.aH (fun h =>?_) (fun h =>?_) <;>try simp only[h])) <;>try simp only[aJ,R,Nat.reduceEqDiff,reduceIte,Nat.reduceBEq])
 all_goals clear R
 rw[eA];exact ⟨[],[.nils 1],pj,⟨⟨_,rfl,.inl ⟨rfl,rfl,rfl⟩⟩,trivial⟩,rfl,rfl⟩
theorem S4(A:af)(d:Option Nat)(e bytes:Nat)(z:I)(rest:List aE):gE A d e 1 bytes z (enc ([]:List Int)) rest (.nils 1)=aF rest (A.aT d (.nils 1)):=by
 show gE A d e 1 bytes z (.slice 1 []) rest (.nils 1)=_
 simp[gE,eB,fu]
theorem Fv{xss:List (List Int)}(h:xss.flatten=[]){i:Nat}(hi:i<xss.length):xss[i]=[]:=List.flatten_eq_nil_iff.1 h _ (zx5 hi)
theorem RA(xss:List (List Int))(hl:xss.length≤60)(h0:xss.flatten=[]):aA Tryz.prog 150 [enc xss] (enc ([]:List Int)):=by
 refine aA.bp Tryz.func150 DX Ed Ey (t7 rfl) (fun hwf W0 D0 E1 =>?_);simp only[wq,zT,bl];clear hwf;have R:=v6 @aZ (v6 @aO @ab)
 repeat' ((first |refine U.aI (by decide +kernel) rfl fun K hK =>?_|(refine .aD [0,2,3,5,6,8,9,10,11,12,20,25,26,27,28] hK ?_;clear hK K)|(with_reducible refine .done (hK _ ?_);clear hK K)|refine U.of rfl ?_|(with_reducible refine al.aH (fun h =>?_) (fun h =>?_) <;>try simp only[h])) <;>try simp only[aJ,R,Nat.reduceEqDiff,reduceIte,Nat.reduceBEq])
 all_goals clear R
 refine U.loop (fun i:Nat=>aw [(0,enc xss),(3,.int .i64 0),(9,enc xss),(10,.int .i64 xss.length),(11,.int .i64 i)] []) (fun i=>i≤xss.length) (fun i=>xss.length-i) 0 (zw3 _) ?_ (fun i hi =>?_)
 ·refine aB.bE ?_ ?_ ?_ ?_ <;>simp[aQ,bt,br,aY,aS,I.only,bg]
 by_cases hlt:i<xss.length
 ·have hc:=fw hlt;have hw:=ea (i:=i) (by omega);have he:=fun A=>fm (A:=A) 1 hlt rfl;rw[Fv h0 hlt] at he;have hln:((([]:List Int).length:Nat):Int)=0:=rfl;have R:=v6 @hc (v6 @hw (v6 @he (v6 @MQ (v6 @hln (v6 @aZ (v6 @aO @ab))))))
  repeat' ((first |refine U.aI (by decide +kernel) rfl fun K hK =>?_|(refine .aD [0,2,3,5,6,8,9,10,11,12,20,25,26,27,28] hK ?_;clear hK K)|(with_reducible refine .done (hK _ ?_);clear hK K)|refine U.of rfl ?_|(with_reducible refine al.aH (fun h =>?_) (fun h =>?_) <;>try simp only[h])) <;>try simp only[aJ,R,Nat.reduceEqDiff,reduceIte,Nat.reduceBEq])
  all_goals clear R
  refine ⟨i+1,by omega,by omega,?_⟩;refine aB.bE ?_ ?_ ?_ ?_ <;>simp[aQ,bt,br,aY,aS,I.only,bg]
 have hc:=fP hlt;have R:=v6 @hc (v6 @aZ (v6 @aO @ab))
 repeat' ((first |refine U.aI (by decide +kernel) rfl fun K hK =>?_|(refine .aD [0,2,3,5,6,8,9,10,11,12,20,25,26,27,28] hK ?_;clear hK K)|(with_reducible refine .done (hK _ ?_);clear hK K)|refine U.of rfl ?_|(with_reducible refine al.aH (fun h =>?_) (fun h =>?_) <;>try simp only[h])) <;>try simp only[aJ,R,Nat.reduceEqDiff,reduceIte,Nat.reduceBEq])
 all_goals clear R
 refine .bQ false [(9,906)] [] [.nils 1,enc (0:Int)] _ rfl R1 fK.nil ⟨.inl ⟨rfl,rfl,rfl⟩,.inl ⟨rfl,rfl,rfl⟩,trivial⟩ ?_ ?_
 ·rintro x os' ⟨rfl,rfl⟩;exact dn.nil (fun _=>rfl) (fun h=>by cases h)
 rintro x os' ⟨rfl,rfl⟩
 try simp only[fy,zy3,ab,Nat.reduceEqDiff,reduceIte]
 refine .done (hK _ ?_);clear hK K;have R:=v6 @aZ (v6 @aO @ab)
 repeat' ((first |refine U.aI (by decide +kernel) rfl fun K hK =>?_|(refine .aD [0,2,3,5,6,8,9,10,11,12,20,25,26,27,28] hK ?_;clear hK K)|(with_reducible refine .done (hK _ ?_);clear hK K)|refine U.of rfl ?_|(with_reducible refine al.aH (fun h =>?_) (fun h =>?_) <;>try simp only[h])) <;>try simp only[aJ,R,Nat.reduceEqDiff,reduceIte,Nat.reduceBEq])
 all_goals clear R
 refine U.loop (fun i:Nat=>aw [(6,.nils 1),(25,enc xss),(26,.int .i64 xss.length),(27,.int .i64 i)] []) (fun i=>i≤xss.length) (fun i=>xss.length-i) 0 (zw3 _) ?_ (fun i hi =>?_)
 ·refine aB.bE ?_ ?_ ?_ ?_ <;>simp[aQ,bt,br,aY,aS,I.only,bg]
 by_cases hlt:i<xss.length
 ·have hc:=fw hlt;have hw:=ea (i:=i) (by omega);have he:=fun A=>fm (A:=A) 1 hlt rfl;rw[Fv h0 hlt] at he;have R:=v6 @hc (v6 @hw (v6 @he (v6 @S4 (v6 @aZ (v6 @aO @ab)))))
  repeat' ((first |refine U.aI (by decide +kernel) rfl fun K hK =>?_|(refine .aD [0,2,3,5,6,8,9,10,11,12,20,25,26,27,28] hK ?_;clear hK K)|(with_reducible refine .done (hK _ ?_);clear hK K)|refine U.of rfl ?_|(with_reducible refine al.aH (fun h =>?_) (fun h =>?_) <;>try simp only[h])) <;>try simp only[aJ,R,Nat.reduceEqDiff,reduceIte,Nat.reduceBEq])
  all_goals clear R
  refine ⟨i+1,by omega,by omega,?_⟩;refine aB.bE ?_ ?_ ?_ ?_ <;>simp[aQ,bt,br,aY,aS,I.only,bg]
 have hc:=fP hlt;have R:=v6 @hc (v6 @aZ (v6 @aO @ab))
 repeat' ((first |refine U.aI (by decide +kernel) rfl fun K hK =>?_|(refine .aD [0,2,3,5,6,8,9,10,11,12,20,25,26,27,28] hK ?_;clear hK K)|(with_reducible refine .done (hK _ ?_);clear hK K)|refine U.of rfl ?_|(with_reducible refine al.aH (fun h =>?_) (fun h =>?_) <;>try simp only[h])) <;>try simp only[aJ,R,Nat.reduceEqDiff,reduceIte,Nat.reduceBEq])
 all_goals clear R
 all_goals rfl
theorem zG(p:Nat→Bool)(k:Nat):I.bV p (List.replicate k (.int .i64 0))=true:=by
 have:=c9 p (List.replicate k (0:Int))
 rwa [List.map_replicate] at this
theorem S8{A:af}{d:Option Nat}{e bytes:Nat}(z:I){n:Nat}{fs ys:List Int}{k:Nat}{rest:List aE}(hy:ys≠[])(ho:A.o n=some (.box (.agg ((fs++List.replicate (k-fs.length) 0).map enc))))(hk:(fs++ys).length≤k) :
  gE A d e 1 bytes z (enc ys) rest (.view n [] 1 0 fs.length)=aF rest ((A.aU n (.box (.agg (((fs++ys)++List.replicate (k-(fs++ys).length) 0).map enc)))).aT d (.view n [] 1 0 (fs++ys).length)):=by
 rw[zz2] at hk;have h3:fs.length+ys.length≤(fs++List.replicate (k-fs.length) (0:Int)).length:=by rw[zz2,zv4];omega
 rw[BE (esz:=1) z (show Enc.sz Int=1 from rfl) hy ho h3];have e1:(fs++List.replicate (k-fs.length) (0:Int)).take fs.length=fs:=List.take_left;have e2:(fs++List.replicate (k-fs.length) (0:Int)).drop (fs.length+ys.length)=List.replicate (k-(fs++ys).length) 0:=by
  rw[List.drop_append,List.drop_of_length_le (by omega),zy3,List.drop_replicate,zz2]
  congr 1;omega
 rw[e1,e2,zz2,zz5]
def Ej(fs:List Int):cO:=fun r os'=>∃ k,r=.view 906 [] 1 0 fs.length∧os'=bK 906 (fs++List.replicate k 0)
theorem Rz(xss:List (List Int))(hl:xss.length≤60)(hn:xss.flatten.length≤200)(h0:xss.flatten≠[]):cF Tryz.prog 150 [enc xss] [] (Ej xss.flatten):=by
 refine cF.bp Tryz.func150 DX Ed Ey (t7 rfl) (t7 rfl) (fun m hm=>by simp[aq,ao] at hm) (fun hwf W0 D0 E1 =>?_);simp only[wq,zT,bl];clear hwf;have hpre:∀ i,(xss.take i).flatten.length≤xss.flatten.length:=fun i=>by
  have:xss.flatten=(xss.take i).flatten++(xss.drop i).flatten:=by rw[←List.flatten_append,zx0]
  rw[this,zz2];omega
 have hsucc:∀ i (h:i<xss.length),(xss.take (i+1)).flatten=(xss.take i).flatten++xss[i]:=fun i h=>by
  rw[zz8 h,List.flatten_append];simp
 have R:=v6 @aZ (v6 @aO @ab)
 repeat' ((first |refine U.aI (by decide +kernel) rfl fun K hK =>?_|(refine .aD [0,2,3,5,6,8,9,10,11,12,20,25,26,27,28] hK ?_;clear hK K)|(with_reducible refine .done (hK _ ?_);clear hK K)|refine U.of rfl ?_|(with_reducible refine al.aH (fun h =>?_) (fun h =>?_) <;>try simp only[h])) <;>try simp only[aJ,R,Nat.reduceEqDiff,reduceIte,Nat.reduceBEq])
 all_goals clear R
 refine U.loop (fun i:Nat=>aw [(0,enc xss),(3,.int .i64 (xss.take i).flatten.length),(9,enc xss),(10,.int .i64 xss.length),(11,.int .i64 i)] []) (fun i=>i≤xss.length) (fun i=>xss.length-i) 0 (zw3 _) ?_ (fun i hi =>?_)
 ·simp only[List.take_zero,List.flatten_nil,zv0];refine aB.bE ?_ ?_ ?_ ?_ <;>simp[aQ,bt,br,aY,aS,I.only,bg]
 by_cases hlt:i<xss.length
 ·have hc:=fw hlt;have hw:=ea (i:=i) (by omega);have he:=fun A=>fm (A:=A) 1 hlt rfl;have h1:=hpre (i+1);rw[hsucc i hlt,zz2] at h1;have hs:=hsucc i hlt;generalize xss[i]=y at he h1 hs;generalize (xss.take i).flatten=fs at h1 hs;have hadd:IntKind.i64.wrap ((fs.length:Int)+(y.length:Int))=(((fs++y).length:Nat):Int):=by
   rw[cG _ (by omega) (by omega),zz2];omega
  have hneg:decide ((((fs++y).length:Nat):Int)<0)=false:=by simp;omega
  have R:=v6 @hc (v6 @hw (v6 @he (v6 @hadd (v6 @hneg (v6 @aZ (v6 @aO @ab))))))
  repeat' ((first |refine U.aI (by decide +kernel) rfl fun K hK =>?_|(refine .aD [0,2,3,5,6,8,9,10,11,12,20,25,26,27,28] hK ?_;clear hK K)|(with_reducible refine .done (hK _ ?_);clear hK K)|refine U.of rfl ?_|(with_reducible refine al.aH (fun h =>?_) (fun h =>?_) <;>try simp only[h])) <;>try simp only[aJ,R,Nat.reduceEqDiff,reduceIte,Nat.reduceBEq])
  all_goals clear R
  refine ⟨i+1,by omega,by omega,?_⟩;rw[hs];refine aB.bE ?_ ?_ ?_ ?_ <;>simp[aQ,bt,br,aY,aS,I.only,bg]
 have hc:=fP hlt;have hge:i=xss.length:=by omega
 subst hge;rw[zu7];have hpos:0<xss.flatten.length:=List.length_pos_iff.2 h0;have R:=v6 @hc (v6 @aZ (v6 @aO @ab))
 repeat' ((first |refine U.aI (by decide +kernel) rfl fun K hK =>?_|(refine .aD [0,2,3,5,6,8,9,10,11,12,20,25,26,27,28] hK ?_;clear hK K)|(with_reducible refine .done (hK _ ?_);clear hK K)|refine U.of rfl ?_|(with_reducible refine al.aH (fun h =>?_) (fun h =>?_) <;>try simp only[h])) <;>try simp only[aJ,R,Nat.reduceEqDiff,reduceIte,Nat.reduceBEq])
 all_goals clear R
 refine .bQ false [(9,906)] [] [.nils 1,enc ((xss.flatten.length:Nat):Int)] _ rfl (R0 xss.flatten.length hpos (by omega)) fK.nil ⟨.inl ⟨rfl,rfl,rfl⟩,.inl ⟨rfl,rfl,rfl⟩,trivial⟩ ?_ ?_
 ·rintro x os' ⟨k,_,rfl,rfl⟩;exact dn.oG (fun p=>fZ p _) (fun h=>by cases h) rfl (fun h=>by cases h) rfl (by decide)
 rintro x os' ⟨k,hk,rfl,rfl⟩
 try simp only[bK,fy,eP,zz9,zy3,reduceIte,ab,Nat.reduceEqDiff,reduceIte]
 refine .done (hK _ ?_);clear hK K;have R:=v6 @aZ (v6 @aO @ab)
 repeat' ((first |refine U.aI (by decide +kernel) rfl fun K hK =>?_|(refine .aD [0,2,3,5,6,8,9,10,11,12,20,25,26,27,28] hK ?_;clear hK K)|(with_reducible refine .done (hK _ ?_);clear hK K)|refine U.of rfl ?_|(with_reducible refine al.aH (fun h =>?_) (fun h =>?_) <;>try simp only[h])) <;>try simp only[aJ,R,Nat.reduceEqDiff,reduceIte,Nat.reduceBEq])
 all_goals clear R
 refine U.loop (fun i:Nat=>aw [(6,.view 906 [] 1 0 (xss.take i).flatten.length),(25,enc xss),(26,.int .i64 xss.length),(27,.int .i64 i)] (bK 906 ((xss.take i).flatten++List.replicate (k-(xss.take i).flatten.length) 0))) (fun i=>i≤xss.length) (fun i=>xss.length-i) 0 (zw3 _) ?_ (fun i hi =>?_)
 ·simp only[List.take_zero,List.flatten_nil,zv0,zy3,Nat.sub_zero,bK];refine aB.bE ?_ ?_ ?_ ?_ <;>simp[*,aQ,bt,br,aY,aq,aS,bT,I.only,ah.only,bg,ig,zG]
 by_cases hlt:i<xss.length
 ·have hc:=fw hlt;have hw:=ea (i:=i) (by omega);have he:=fun A=>fm (A:=A) 1 hlt rfl;have h1:=hpre (i+1);have hs:=hsucc i hlt;rw[hs] at h1;generalize xss[i]=y at he h1 hs;generalize (xss.take i).flatten=fs at h1 hs;simp only[bK];have R:=v6 @hc (v6 @hw (v6 @he (v6 @aZ (v6 @aO @ab))))
  repeat' ((first |refine U.aI (by decide +kernel) rfl fun K hK =>?_|(refine .aD [0,2,3,5,6,8,9,10,11,12,20,25,26,27,28] hK ?_;clear hK K)|(with_reducible refine .done (hK _ ?_);clear hK K)|refine U.of rfl ?_|(with_reducible refine al.aH (fun h =>?_) (fun h =>?_) <;>try simp only[h])) <;>try simp only[aJ,R,Nat.reduceEqDiff,reduceIte,Nat.reduceBEq])
  all_goals clear R
  by_cases hy:y=[]
  ·subst hy;have happ:=fun (A:af) d e bytes (rest:List aE) ho=>BF (A:=A) (d:=d) (e:=e) (bytes:=bytes) (rest:=rest) (esz:=1) (n:=906) (l:=fs.length) (xs:=fs++List.replicate (k-fs.length) 0) (.int .i64 0) (enc ([]:List Int)) rfl ho (by simp);rw[happ _ _ _ _ _ rfl]
   try simp only[ab,Nat.reduceEqDiff,reduceIte]
   have R:=v6 @hw (v6 @aZ (v6 @aO @ab))
   repeat' ((first |refine U.aI (by decide +kernel) rfl fun K hK =>?_|(refine .aD [0,2,3,5,6,8,9,10,11,12,20,25,26,27,28] hK ?_;clear hK K)|(with_reducible refine .done (hK _ ?_);clear hK K)|refine U.of rfl ?_|(with_reducible refine al.aH (fun h =>?_) (fun h =>?_) <;>try simp only[h])) <;>try simp only[aJ,R,Nat.reduceEqDiff,reduceIte,Nat.reduceBEq])
   all_goals clear R
   refine ⟨i+1,by omega,by omega,?_⟩;simp only[hs,zx6];refine aB.bE ?_ ?_ ?_ ?_ <;>simp[*,aQ,bt,br,aY,aq,aS,bT,I.only,ah.only,c9,fI,bg,ig,zG]
  ·have happ:=fun (A:af) d e bytes (rest:List aE) ho=>S8 (A:=A) (d:=d) (e:=e) (bytes:=bytes) (rest:=rest) (n:=906) (fs:=fs) (ys:=y) (k:=k) (.int .i64 0) hy ho (by omega);rw[happ _ _ _ _ _ rfl]
   try simp only[ab,Nat.reduceEqDiff,reduceIte]
   have R:=v6 @hw (v6 @aZ (v6 @aO @ab))
   repeat' ((first |refine U.aI (by decide +kernel) rfl fun K hK =>?_|(refine .aD [0,2,3,5,6,8,9,10,11,12,20,25,26,27,28] hK ?_;clear hK K)|(with_reducible refine .done (hK _ ?_);clear hK K)|refine U.of rfl ?_|(with_reducible refine al.aH (fun h =>?_) (fun h =>?_) <;>try simp only[h])) <;>try simp only[aJ,R,Nat.reduceEqDiff,reduceIte,Nat.reduceBEq])
   all_goals clear R
   refine ⟨i+1,by omega,by omega,?_⟩;simp only[hs];refine aB.bE ?_ ?_ ?_ ?_ <;>simp[*,aQ,bt,br,aY,aq,aS,bT,I.only,ah.only,c9,fI,bg,ig,zG]
 have hc:=fP hlt;have hge:i=xss.length:=by omega
 subst hge;rw[zu7];simp only[bK];have R:=v6 @hc (v6 @aZ (v6 @aO @ab))
 repeat' ((first |refine U.aI (by decide +kernel) rfl fun K hK =>?_|(refine .aD [0,2,3,5,6,8,9,10,11,12,20,25,26,27,28] hK ?_;clear hK K)|(with_reducible refine .done (hK _ ?_);clear hK K)|refine U.of rfl ?_|(with_reducible refine al.aH (fun h =>?_) (fun h =>?_) <;>try simp only[h])) <;>try simp only[aJ,R,Nat.reduceEqDiff,reduceIte,Nat.reduceBEq])
 all_goals clear R
 rw[eA];exact ⟨bK 906 (xss.flatten++List.replicate (k-xss.flatten.length) 0),[.view 906 [] 1 0 xss.flatten.length],iE rfl (fun p=>fZ p _),⟨⟨_,rfl,.inl ⟨rfl,rfl,rfl⟩⟩,trivial⟩,_,rfl,rfl⟩
theorem Ry(b:aP):aA Tryz.prog 149 [.ref (enc (⟨b⟩:eQ))] (enc true):=by
 refine aA.bp Tryz.func149 Uy Wx YO (t7 rfl) (fun hwf W0 D0 E1 =>?_);simp only[Cv,Ou,bl];clear hwf;have R:=v6 @dY (v6 @aO @ab)
 repeat' ((first |refine U.aI (by decide +kernel) rfl fun K hK =>?_|(refine .aD [2] hK ?_;clear hK K)|(with_reducible refine .done (hK _ ?_);clear hK K)|refine U.of rfl ?_|(with_reducible refine al.aH (fun h =>?_) (fun h =>?_) <;>try simp only[h])) <;>try simp only[aJ,R,reduceIte,Nat.reduceBEq])
 all_goals clear R
theorem Bm(l:List aP)(h:l.length≤60):aA Tryz.prog 72 [e8 l,.func 149 []] (enc (cS (l.map (·.no)))):=by
 have:=s7 l h 149 [] rfl (fun _=>true) (fun b _=>Ry b)
 rwa [List.filter_eq_self.2 (fun _ _=>rfl)] at this
theorem RD(m:bY)(no:Int)(a b:List aP):aA Tryz.prog 152 [enc no,.ref (enc m),.ref (e8 a),.ref (e8 b)] (enc (jM m (cM a no) (cM b no))):=by
 have hF:=Bn m (cM a no) (cM b no);have hx:∀ bs,gN (.i .i64) .nilp (.int .i64 no) (dA bs) (bs.map fun b=>.ref (enc (⟨b⟩:eQ)))=some (iR (cM bs no),(cM bs no).isSome):=fun bs=>by
  rw[qF];cases cM bs no <;>rfl
 have hol:(∀ aC A x,bC aC A (iR x)=some (iR x)):=fun aC A x=>by cases x <;>simp[iR,bC,dL]
 refine aA.bp Tryz.func152 Uz Wy YP (t7 rfl) (fun hwf W0 D0 E1 =>?_);simp only[Cw,Ov,bl,zz4,Nat.reduceAdd];clear hwf;have R:=v6 @hx (v6 @hol (v6 @fp dG))
 repeat' ((first |refine U.aI (by decide +kernel) rfl fun K hK =>?_|refine .lead _ (hF) ?_|(refine .aD [0,1,2,3,5] hK ?_;clear hK K)|(with_reducible refine .done (hK _ ?_);clear hK K)|refine U.of rfl ?_|(with_reducible refine al.aH (fun h =>?_) (fun h =>?_) <;>try simp only[h])) <;>try simp only[aJ,R,Nat.reduceEqDiff,reduceIte,Nat.reduceBEq])
 all_goals clear R
theorem RC(f:FuncId)(caps:List I)(hcaps:I.eY caps=true):aA Tryz.prog 151 [enc ([]:List Int),.func f caps] (enc ([]:List Int)):=by
 have hF:=vP ([]:List Int) f caps hcaps (fun _=>true) (fun x h=>by cases h);have hi:ku (fun _=>true) []=-1:=rfl;rw[hi] at hF;have hfc:∀ aC A,cn aC A caps=some caps:=fun aC A=>kq aC A caps hcaps;have q1:((-1:Int)==-1)=true:=rfl;refine aA.bp Tryz.func151 DY Ee Ez (t7 rfl) (fun hwf W0 D0 E1 =>?_);simp only[wu,zU,bl,zz4];clear hwf;have R:=v6 @q1 (v6 @hfc (v6 @gK (v6 @aZ (v6 @aO @ab))))
 repeat' ((first |refine U.aI (by decide +kernel) rfl fun K hK =>?_|refine .flat _ (hF) rfl ?_|(refine .aD [0,1,4,5,6,7,12,19,29] hK ?_;clear hK K)|(with_reducible refine .done (hK _ ?_);clear hK K)|refine U.of rfl ?_|(with_reducible refine al.aH (fun h =>?_) (fun h =>?_) <;>try simp only[h])) <;>try simp only[aJ,R,Nat.reduceEqDiff,reduceIte,Nat.reduceBEq])
 all_goals clear R
theorem Ri(m:bY)(a b:List aP)(ha:a.length≤60)(hb:b.length≤60):aA Tryz.prog 109 [enc m,e8 a,e8 b] (enc (o8 m a b)):=by
 have hd:I.eY [.ref (enc m),.ref (e8 a),.ref (e8 b)]=true:=by simp only[I.eY,I.done,dL,oo,zw7]
 have h1:=Bm a ha;have h2:=Bm b hb;have hal:(cS (a.map (·.no))).length≤60:=by rw[(lT _).length_eq,zy1];exact ha
 have hbl:(cS (b.map (·.no))).length≤60:=by rw[(lT _).length_eq,zy1];exact hb
 have hdf:o8 m a b=(iU (cS (a.map (·.no))++cS (b.map (·.no)))).filter fun no => !jM m (cM a no) (cM b no):=by
  simp only[o8]
  congr 1
  refine apP fun y =>?_;rw[zy5,zy5,(lT _).mem_iff,(lT _).mem_iff]
 rw[hdf,←wS];generalize cS (a.map (·.no))=av at h1 hal;generalize cS (b.map (·.no))=bs at h2 hbl;have hbe:iO 1 (some [enc av,enc bs])=some (enc [av,bs]):=nc (ys:=[av,bs]) 1 rfl;have hfl:[av,bs].flatten=av++bs:=by simp
 refine aA.bp Tryz.func109 T4 V2 Yj (t7 rfl) (fun hwf W0 D0 E1 =>?_);simp only[BY,NV,bl,zz4,Nat.reduceAdd];clear hwf;refine .ar (by decide +kernel) fun K hK =>?_;simp only[FZ,ab,Nat.reduceEqDiff,reduceIte]
 try simp only[dG,ab,Nat.reduceEqDiff,reduceIte]
 refine .done (hK _ ?_);clear hK K;refine .ar (by decide +kernel) fun K hK =>?_;simp only[F0,ab]
 try simp only[fp,zz9,dG,ab,Nat.reduceEqDiff,reduceIte,Int.reduceBNe,Int.reduceBEq]
 refine .done (hK _ ?_);clear hK K;refine U.seq (U.sB (gs:=xw) [] [] [0,1,3,4,2,5,6,7,8] (by decide +kernel) (fq.of (by simp[pt])) fun K hK =>?_)
 try simp only[pD,xw,List.getD_cons_zero,List.getD_cons_succ,dG,ab,Nat.reduceEqDiff,reduceIte]
 refine .lead _ h1 ?_
 try simp only[dG,ab,Nat.reduceEqDiff,reduceIte]
 refine .lead _ h2 ?_
 try simp only[hbe,dG,ab,Nat.reduceEqDiff,reduceIte]
 by_cases hne:av++bs=[]
 ·refine .lead _ (RA [av,bs] (by simp) (by rw[hfl,hne])) ?_
  try simp only[ab,Nat.reduceEqDiff,reduceIte]
  refine .done (hK _ ?_);clear hK K;rw[hne];have hs0:(dp (cS ([]:List Int)) (cS ([]:List Int)).length).filter (fun no => !jM m (cM a no) (cM b no))=[]:=by rw[wS];rfl
  rw[hs0];have hall:([I.ptr 3 [],I.ptr 4 [],I.ptr 5 []].all fun y=>y.cq)=true:=rfl;have R:=v6 @fp (v6 @hall dG)
  repeat' ((first |refine U.aI (by decide +kernel) rfl fun K hK =>?_|refine .lead _ ((AR _ (.inr rfl))) ?_|refine .lead _ (AT) ?_|(refine .aD [0,1,2,3,4,5,6,7,8] hK ?_;clear hK K)|(with_reducible refine .done (hK _ ?_);clear hK K)|refine U.of rfl ?_|(with_reducible refine al.aH (fun h =>?_) (fun h =>?_) <;>try simp only[h])) <;>try simp only[aJ,R,Nat.reduceEqDiff,reduceIte,Nat.reduceBEq])
  all_goals clear R
  refine .iQ [3,4,5] (enc ([]:List Int)) rfl (RC 152 [.ref (enc m),.ref (e8 a),.ref (e8 b)] hd) ?_ ?_ ?_
  ·try simp only[ji,zx8,zu2,List.contains_cons,Nat.reduceBEq,Bool.or_true,Bool.true_or,BEq.rfl,dL,dG,ab,Nat.reduceEqDiff,reduceIte]
  ·simp[cR,aY]
  ·try simp only[gU,cR,zx8,zu2,List.contains_cons,Nat.reduceBEq,Bool.or_true,Bool.true_or,BEq.rfl,zy2,zx1,dG,ab,Nat.reduceEqDiff,reduceIte]
   have R:=v6 @fp dG
   repeat' ((first |refine U.aI (by decide +kernel) rfl fun K hK =>?_|(refine .aD [0,1,2,3,4,5,6,7,8] hK ?_;clear hK K)|(with_reducible refine .done (hK _ ?_);clear hK K)|refine U.of rfl ?_|(with_reducible refine al.aH (fun h =>?_) (fun h =>?_) <;>try simp only[h])) <;>try simp only[aJ,R,Nat.reduceEqDiff,reduceIte,Nat.reduceBEq])
   all_goals clear R
 have hC:=Rz [av,bs] (by simp) (by rw[hfl,zz2];omega) (by rw[hfl];exact hne);rw[hfl] at hC;refine .bQ [(906,906)] [enc [av,bs]] (Ej (av++bs)) hC fK.nil ⟨.inl ⟨(ij _ _).symm,bg _ _,du _⟩,trivial⟩ ?_ ?_
 ·rintro x os' ⟨k,rfl,rfl⟩;exact dn.oG (fun p=>fZ p _) (fun h=>by cases h) rfl (fun h=>by cases h) rfl (by decide)
 rintro x os' ⟨k,rfl,rfl⟩;have hxl:(av++bs).length≤120:=by rw[zz2];omega
 have hxp:0<(av++bs).length:=List.length_pos_iff.2 hne
 try simp only[bK,fy,eP,zz9,zy3,ab,Nat.reduceEqDiff,reduceIte]
 refine .done (hK _ ?_);clear hK K;generalize av++bs=xs at hxl hxp ⊢;refine .ar (by decide +kernel) fun K hK =>?_;simp only[F1,ab,Nat.reduceEqDiff,reduceIte]
 try simp only[ab,Nat.reduceEqDiff,reduceIte,Int.reduceBNe,Int.reduceBEq]
 refine .bQ false [(1000000,906)] (bK 1000000 (xs++List.replicate k 0)) [.view 1000000 [] 1 0 xs.length] _ rfl (vJ xs _ (by omega)) ?_ ?_ ?_ ?_
 ·refine ⟨fun m y hy =>?_,fun m m' h h' _=>by rw[cz.1 h,cz.1 h']⟩;simp only[bK,ao] at hy;split at hy
  ·rename_i hm;cases hy;subst hm;exact ⟨by simp only[bD,if_true,ao,ah.aN,I.aN,eP],fZ _ _,rfl⟩
  ·cases hy
 ·exact ⟨.inl ⟨by simp[I.aN,bD],cz.2 rfl,rfl⟩,trivial⟩
 ·rintro eF os2 ⟨rfl,rfl⟩;refine ⟨fun m y hy =>?_,fun m m' h h' _=>by rw[cz.1 h,cz.1 h'],fun m hm=>by rw[cz.1 hm];exact cz.2 rfl,fun m a b=>by rw[cz.1 a] at b;simp[bK,aq,ao] at b,rfl,fun _=>rfl⟩;simp only[bK,ao] at hy;split at hy
  ·cases hy;exact ⟨fZ _ _,rfl,fun h=>by cases h⟩
  ·cases hy
 rintro eF os2 ⟨rfl,rfl⟩
 try simp only[bK,dB,zy2,zx1,ah.aN,I.aN,eP,bD,reduceIte,zz9,zy3,I.cZ,ab,reduceIte]
 refine .done (hK _ ?_);clear hK K;have hsl:(cS xs).length=xs.length:=(lT xs).length_eq;rw[←hsl] at hxl hxp ⊢;generalize cS xs=ys at hxl hxp ⊢;have hLl:=Et ys ys.length;obtain ⟨ay,hL⟩:∃ ay,ay=dp ys ys.length:=⟨_,rfl⟩
 rw[←hL] at hLl ⊢;refine .ar (by decide +kernel) fun K hK =>?_;simp only[F2,ab,Nat.reduceEqDiff,reduceIte]
 try simp only[ab,Nat.reduceEqDiff,reduceIte,Int.reduceBNe,Int.reduceBEq]
 refine .bQ false [(1000000,906)] (bK 1000000 (ys++List.replicate k 0)) [.view 1000000 [] 1 0 ys.length] _ rfl (AS ys _ (by omega)) ?_ ?_ ?_ ?_
 ·refine ⟨fun m y hy =>?_,fun m m' h h' _=>by rw[cz.1 h,cz.1 h']⟩;simp only[bK,ao] at hy;split at hy
  ·rename_i hm;cases hy;subst hm;exact ⟨by simp only[bD,if_true,ao,ah.aN,I.aN,eP],fZ _ _,rfl⟩
  ·cases hy
 ·exact ⟨.inl ⟨by simp[I.aN,bD],cz.2 rfl,rfl⟩,trivial⟩
 ·rintro eF os2 ⟨ws,rfl,rfl,w1,w2⟩;exact dn.sr (fun p=>fZ p _) (fun h=>by cases h) rfl (fun h=>by cases h)
 rintro eF os2 ⟨ws,rfl,rfl,w1,w2⟩;rw[←hL] at w1 ⊢;obtain ⟨q,rfl⟩:∃ q,ws=ay++q:=⟨ws.drop ay.length,by conv=>lhs;rw[←zx0 ay.length ws,w1]⟩
 clear w1;have hp:0<(ay++q).length:=by rw[w2,zz2];omega
 try simp only[bK,dB,zy2,zx1,ah.aN,I.aN,eP,bD,reduceIte,zz9,zy3,I.cq,List.all_cons,List.all_nil,zw7,ab,Nat.reduceEqDiff,reduceIte]
 refine .bQ true [(1000000,906)] (bK 1000000 (ay++q)) [.view 1000000 [] 1 0 ay.length,.func 152 [.ref (enc m),.ref (e8 a),.ref (e8 b)]] (EL ay (fun no=>jM m (cM a no) (cM b no)) (ay++q).length) rfl
  (RB ay q (by omega) hp 152 [.ref (enc m),.ref (e8 a),.ref (e8 b)] hd (fun no=>jM m (cM a no) (cM b no)) (fun x _=>RD m x a b)) ⟨?_,?_⟩ ⟨.inl ⟨?_,?_,rfl⟩,.inr ?_,trivial⟩ ?_ ?_
 ·intro n x h;simp only[bK,ao] at h;split at h
  ·rename_i hn';subst hn';simp only[u8] at h;subst h;exact ⟨by simp only[fy,eP,ab,Nat.reduceEqDiff,reduceIte],fZ _ _,rfl⟩
  ·cases h
 ·intro a b ha hb _;rw[cz.1 ha,cz.1 hb]
 ·try simp only[fy,reduceIte]
 ·exact cz.2 rfl
 ·try simp only[j6,bK,bD,cR,zx8,zu2,zy2,zx1,List.contains_cons,List.contains_nil,Nat.reduceBEq,Bool.or_false,BEq.rfl,dL,dG,ab,Nat.reduceEqDiff,reduceIte]
 ·rintro x os' ⟨us,rfl,rfl,u1,u2⟩;exact dn.one (fun p=>fZ p _) (fun _=>by simp only[I.cY];exact uu us) (cz.2 rfl) (fun _=>rfl)
 ·rintro x os' ⟨us,rfl,rfl,u1,u2⟩
  try simp only[bK,fy,eP,zz9,zy3,ab,Nat.reduceEqDiff,reduceIte]
  refine .done (hK _ ?_);clear hK K;refine U.ret ?_;simp only[ab,Nat.reduceEqDiff,reduceIte]
  try simp only[pc (α:=Int) (sz:=1) rfl,u1,ab]
  all_goals rfl
theorem Sj(m:bY)(l:List ak)(a:Item)(known:Int):aA Tryz.prog 48 [enc m,enc l,enc a,enc known] (.tuple [enc (kY m l a known).1,enc (kY m l a known).2]):=by
 have hM:=sY m;have hC:=oR l [] [known];refine aA.bp Tryz.func48 Vs Xw ZJ (t7 rfl) (fun hwf W0 D0 E1 =>?_);simp only[Dr,Pq,bl,zz4,Nat.reduceAdd];clear hwf;rcases hm:ed m
 ·have hs:kY m l a known=([],13):=by simp[kY,hm]
  rw[hs];rw[hm,if_neg (by decide)] at hM;have R:=v6 @fp dG
  repeat' ((first |refine U.aI (by decide +kernel) rfl fun K hK =>?_|refine .flat _ (hM) rfl ?_|(refine .aD [0,1,2,3,4,6,8,9,10,11,12,13,17,24,33] hK ?_;clear hK K)|(with_reducible refine .done (hK _ ?_);clear hK K)|refine U.of rfl ?_|(with_reducible refine al.aH (fun h =>?_) (fun h =>?_) <;>try simp only[h])) <;>try simp only[aJ,R,simprocAttr])
  all_goals clear R
  all_goals rfl
 rw[hm,if_pos rfl] at hM;generalize hc:eS l [] [known]=e at hC;by_cases he:e=0
 case neg =>
  have hs:kY m l a known=([],e):=by simp[kY,hm,hc,he]
  rw[hs];have hn:=oF he;have R:=v6 @hn (v6 @he (v6 @nd (v6 @fp dG)))
  repeat' ((first |refine U.aI (by decide +kernel) rfl fun K hK =>?_|refine .flat _ (hM) rfl ?_|refine .flat _ (hC) rfl ?_|(refine .aD [0,1,2,3,4,6,8,9,10,11,12,13,17,24,33] hK ?_;clear hK K)|(with_reducible refine .done (hK _ ?_);clear hK K)|refine U.of rfl ?_|(with_reducible refine al.aH (fun h =>?_) (fun h =>?_) <;>try simp only[h])) <;>try simp only[aJ,R,simprocAttr])
  all_goals clear R
  all_goals rfl
 have hn:=oE he;subst he;have hok:=ng hc;have hll:=kD hok;have hG:=AQ l a (oI hok) (by omega);have hh:=uf (oI hok) a;rcases q2:jg l a
 ·have hs:kY m l a known=([],3):=by simp[kY,hm,hc,q2]
  rw[hs];rw[q2] at hG;have R:=v6 @hn (v6 @nd (v6 @fp dG))
  repeat' ((first |refine U.aI (by decide +kernel) rfl fun K hK =>?_|refine .flat _ (hM) rfl ?_|refine .flat _ (hC) rfl ?_|refine .lead _ (hG) ?_|(refine .aD [0,1,2,3,4,6,8,9,10,11,12,13,17,24,33] hK ?_;clear hK K)|(with_reducible refine .done (hK _ ?_);clear hK K)|refine U.of rfl ?_|(with_reducible refine al.aH (fun h =>?_) (fun h =>?_) <;>try simp only[h])) <;>try simp only[aJ,R,simprocAttr])
  all_goals clear R
  all_goals rfl
 ·have hs:kY m l a known=(o8 m (cA l 100000 known) (cA (eO l (dQ l a)) 100000 known),0):=by simp[kY,hm,hc,q2]
  rw[hs];rw[q2] at hG hh;have hp:dQ l a<l.length:=by
   by_cases h:dQ l a<l.length
   ·exact h
   ·simp[h] at hh
  have hD:=Bo l (dQ l a) hp hll;have hokd:=M3 hok (dQ l a);have hF:=oS l known hok;have hF2:=oS (eO l (dQ l a)) known hokd;have hX:=Ri m (cA l 100000 known) (cA (eO l (dQ l a)) 100000 known) (pk hok _ _).2.1 (pk hokd _ _).2.1;have R:=v6 @hn (v6 @nd (v6 @fp dG))
  repeat' ((first |refine U.aI (by decide +kernel) rfl fun K hK =>?_|refine .flat _ (hM) rfl ?_|refine .flat _ (hC) rfl ?_|refine .lead _ (hG) ?_|refine .lead _ (hF) ?_|refine .lead _ (hD) ?_|refine .lead _ (hF2) ?_|refine .lead _ (hX) ?_|(refine .aD [0,1,2,3,4,6,8,9,10,11,12,13,17,24,33] hK ?_;clear hK K)|(with_reducible refine .done (hK _ ?_);clear hK K)|refine U.of rfl ?_|(with_reducible refine al.aH (fun h =>?_) (fun h =>?_) <;>try simp only[h])) <;>try simp only[aJ,R,simprocAttr])
  all_goals clear R
theorem aoO{l:List ak}{a:Item}(hs:gb l)(hno:jg l a=false){i:Nat}(h1:dQ l a≤i)(h2:i<l.length):before a (ae l i).bd=true:=by
 rcases Tl (aoN hs h1 h2) with h | h
 ·exact h
 ·rw[yz h2 h] at hno;cases hno
def ov:List ak→List ak→Option (List ak)
 |out,[]=>some out
 |out,x::m=>if jg out x.bd then (if ae out (dQ out x.bd)=x then ov out m else none) else ov (gi out (dQ out x.bd) x) m
def ox(l more:List ak):List ak×Int:=match ov l more with
 |none=>([],43)
 |some out=>if out.length≤60 then (out,0) else ([],2)
theorem L2{l:List ak}{p:Nat}{x y:ak} : y∈gi l p x↔y=x∨y∈l:=by
 have h:=zx0 p l;have e:y∈l↔y∈l.take p∨y∈l.drop p:=by rw[←zy5,h]
 rw[e];simp only[gi,zy5,zx2];constructor <;>(rintro (h | h | h) <;>simp[h])
theorem L3{l:List ak}{x:ak}(hs:gb l)(hno:jg l x.bd=false):gb (gi l (dQ l x.bd) x):=by
 have h1:∀ a∈l.take (dQ l x.bd),before a.bd x.bd=true:=fun a ha=>by
  obtain ⟨i,hi,rfl⟩:=List.mem_take_iff_getElem.1 ha;rw[fN (by omega)];exact aoL (by omega)
 have h2:∀ b∈l.drop (dQ l x.bd),before x.bd b.bd=true:=fun b hb=>by
  obtain ⟨i,hi,rfl⟩:=List.mem_drop_iff_getElem.1 hb;rw[fN (by omega)];exact aoO hs hno (by omega) (by omega)
 simp only[gi,gb];refine List.pairwise_append.2 ⟨hs.sublist (List.take_sublist _ _),zw6.2 ⟨h2,hs.sublist (List.drop_sublist _ _)⟩,fun a ha b hb =>?_⟩;rcases zx2.1 hb with rfl | hb
 ·exact h1 a ha
 ·exact qg (h1 a ha) (h2 b hb)
def yJ(g:ak):cO:=fun r os'=>∃ q,r=.view 25 [] 17 0 1∧os'=dR 25 [g] q
theorem Qt(A:af):mT A 17 (some (.int .i64 0)) none none (.c0 17)=some (.slice 17 [])∧mT A 17 (some (.int .i64 0)) none none (.nils 17)=some (.slice 17 []):=by
 constructor <;>simp[mT,ke,iN]
theorem A4(x:I)(hx:x=.nils 17∨x=.c0 17)(g:ak):cF Tryz.prog 153 [x,enc (0:Int),enc [g]] [] (yJ g):=by
 rcases hx with rfl | rfl
 ·refine cF.bp Tryz.func153 wD wG wT (t7 rfl) (t7 rfl) (fun m hm=>by simp[aq,ao] at hm) (fun hwf W0 D0 E1 =>?_);simp only[tr,u5,bl,zz4,Nat.reduceAdd];refine .ar (by decide +kernel) fun K hK =>?_;simp only[tN,ab,simprocAttr];refine .done (hK _ ?_);clear hK K;refine .ar (by decide +kernel) fun K hK =>?_;simp only[tO,ab,simprocAttr]
  try simp only[zw5,(Qt _).2,ab,simprocAttr]
  refine .done (hK _ ?_);clear hK K;refine .ar (by decide +kernel) fun K hK =>?_;simp only[tP,ab,simprocAttr]
  try simp only[aZ,ab,simprocAttr]
  refine .done (hK _ ?_);clear hK K;refine U.seq (U.seq ?_);refine .bx (by decide +kernel) fun K hK =>?_;simp only[tQ,ab,simprocAttr]
  try simp only[cI,aZ,iw,cN,ab,simprocAttr]
  refine .done (hK _ ?_);clear hK K;try simp only[au]
  refine U.bL ?_;simp only[al,ab,simprocAttr];refine ⟨fun h =>?_,fun h =>?_⟩
  ·first | cases h | simp at h
  refine U.skip ?_;try simp only[au,simprocAttr]
  refine .ar (by decide +kernel) fun K hK =>?_;simp only[tT,ab,simprocAttr]
  try simp only[cI,aZ,iw,cN,ab,simprocAttr]
  refine .done (hK _ ?_);clear hK K;refine U.seq (U.seq ?_);refine .bx (by decide +kernel) fun K hK =>?_;simp only[tU,ab,simprocAttr]
  try simp only[cI,aZ,iw,cN,ab,simprocAttr]
  refine .done (hK _ ?_);clear hK K;try simp only[au]
  refine U.bL ?_;simp only[al,ab,simprocAttr];refine ⟨fun h =>?_,fun h =>?_⟩
  case refine_2.refine_2=>first | cases h | simp at h
  refine .ar (by decide +kernel) fun K hK =>?_;simp only[rY,ab,simprocAttr]
  try simp only[ni,simprocAttr]
  refine bn.S1 (esz:=17) cJ (l:=[g]) rfl (by simp) rfl (by simp) (by simp[maxLen]) fun q =>?_
  try simp only[ab,simprocAttr]
  refine .done (hK _ ?_);clear hK K;refine U.ret ?_;simp only[au,eA];exact ⟨dR 25 [g] q,[.view 25 [] 17 0 1],iE rfl (fun p=>gj p _),⟨⟨_,rfl,.inl ⟨rfl,rfl,rfl⟩⟩,trivial⟩,q,rfl,rfl⟩
 ·refine cF.bp Tryz.func153 wD wG wT (t7 rfl) (t7 rfl) (fun m hm=>by simp[aq,ao] at hm) (fun hwf W0 D0 E1 =>?_);simp only[tr,u5,bl,zz4,Nat.reduceAdd];refine .ar (by decide +kernel) fun K hK =>?_;simp only[tN,ab,simprocAttr];refine .done (hK _ ?_);clear hK K;refine .ar (by decide +kernel) fun K hK =>?_;simp only[tO,ab,simprocAttr]
  try simp only[zw5,(Qt _).1,ab,simprocAttr]
  refine .done (hK _ ?_);clear hK K;refine .ar (by decide +kernel) fun K hK =>?_;simp only[tP,ab,simprocAttr]
  try simp only[aZ,ab,simprocAttr]
  refine .done (hK _ ?_);clear hK K;refine U.seq (U.seq ?_);refine .bx (by decide +kernel) fun K hK =>?_;simp only[tQ,ab,simprocAttr]
  try simp only[cI,aZ,iw,cN,ab,simprocAttr]
  refine .done (hK _ ?_);clear hK K;try simp only[au]
  refine U.bL ?_;simp only[al,ab,simprocAttr];refine ⟨fun h =>?_,fun h =>?_⟩
  ·first | cases h | simp at h
  refine U.skip ?_;try simp only[au,simprocAttr]
  refine .ar (by decide +kernel) fun K hK =>?_;simp only[tT,ab,simprocAttr]
  try simp only[cI,aZ,iw,cN,ab,simprocAttr]
  refine .done (hK _ ?_);clear hK K;refine U.seq (U.seq ?_);refine .bx (by decide +kernel) fun K hK =>?_;simp only[tU,ab,simprocAttr]
  try simp only[cI,aZ,iw,cN,ab,simprocAttr]
  refine .done (hK _ ?_);clear hK K;try simp only[au]
  refine U.bL ?_;simp only[al,ab,simprocAttr];refine ⟨fun h =>?_,fun h =>?_⟩
  case refine_2.refine_2=>first | cases h | simp at h
  refine .ar (by decide +kernel) fun K hK =>?_;simp only[rY,ab,simprocAttr]
  try simp only[ni,simprocAttr]
  refine bn.v8 (esz:=17) cJ (l:=[g]) rfl (by simp) rfl (by simp) (by simp[maxLen]) fun q =>?_
  try simp only[ab,simprocAttr]
  refine .done (hK _ ?_);clear hK K;refine U.ret ?_;simp only[au,eA];exact ⟨dR 25 [g] q,[.view 25 [] 17 0 1],iE rfl (fun p=>gj p _),⟨⟨_,rfl,.inl ⟨rfl,rfl,rfl⟩⟩,trivial⟩,q,rfl,rfl⟩
theorem aow(p:Nat→Bool)(q:Nat):I.bV p (List.replicate q (enc cJ))=true:=by
 rw[←List.map_replicate];exact c9 p _
def rE(out:List ak)(v:I)(os:List (Nat×ah)):Prop :=
 (out=[]∧(v=.nils 17∨v=.c0 17)∧os=[])∨(out≠[]∧∃ nm k,(nm=906∨nm=907)∧v=.view nm [] 17 0 out.length∧os=dR nm out k)
theorem al8{nm n i:Nat}(h:i<n)(fs:List I):lK nm [] 17 0 n 17 (i:Int) (some fs)=some (.ptr nm [i]):=by
 have:=uo (m:=nm) (sz:=17) (lo:=0) (l:=n) (i:=i) (fs:=fs) h
 rwa [zz4] at this
theorem Tg{l:List ak}{k i:Nat}(h:i<l.length):fU i [] (some ((l++List.replicate k cJ).map enc))=some (enc (ae l i)):=by
 rw[wg (α:=ak) default (by simp;omega)];simp only[ae,zz0];rw[zy9 h]
theorem Fj{l:List ak}{k:Nat} : lH 17 0 l.length (some ((l++List.replicate k cJ).map enc))=some (enc l):=by
 rw[pc (α:=ak) (sz:=17) rfl,List.take_left]
theorem ang:(∀ A z,jj A (.nils z)=some (.int .i64 0))∧(∀ A z,jj A (.c0 z)=some (.int .i64 0)):=⟨fun _ _=>rfl,fun _ _=>rfl⟩
theorem AU(l more:List ak)(hs:gb l)(hl:l.length≤60)(hm:more.length≤60):aA Tryz.prog 112 [enc l,enc more] (.tuple [enc (ox l more).1,enc (ox l more).2]):=by
 refine aA.bp Tryz.func112 T5 V3 Yk (t7 rfl) (fun hwf W0 D0 E1 =>?_);simp only[BZ,NW,bl,zz4];clear hwf;obtain ⟨J,hJ⟩:∃ J,J=ox l more:=⟨_,rfl⟩
 rw[←hJ];refine .ar (by decide +kernel) fun K hK =>?_;simp only[F3,ab,simprocAttr];refine .done (hK _ ?_);clear hK K;refine .ar (by decide +kernel) fun K hK =>?_;simp only[F4,ab,simprocAttr]
 try simp only[ab,simprocAttr]
 refine .bQ false [(7,906)] [] [enc l] (wO l) rfl (AY l (by omega)) fK.nil ⟨.inl ⟨(ij _ _).symm,bg _ _,du _⟩,trivial⟩ ?_ ?_
 ·rintro x os' (⟨_,h | h,rfl⟩ | ⟨_,k,rfl,rfl⟩)
  ·subst h;exact dn.nil (fun _=>rfl) (fun h=>by cases h)
  ·subst h;exact dn.nil (fun _=>rfl) (fun h=>by cases h)
  ·exact dn.oG (fun p=>uF p _) (fun h=>by cases h) rfl (fun h=>by cases h) rfl (by decide)
 rintro x0 os' hp;have hO:rE l (x0.aN (bD [(7,906)])) (dB [(7,906)] os'++[]):=by
  rcases hp with ⟨hn,h,rfl⟩ | ⟨hn,k,rfl,rfl⟩
  ·left
   rcases h with rfl | rfl
   ·exact ⟨hn,.inl rfl,rfl⟩
   ·exact ⟨hn,.inr rfl,rfl⟩
  ·right
   refine ⟨hn,906,k,.inl rfl,rfl,?_⟩;simp only[dR,fy,eP,zx6,if_true]
 generalize x0.aN (bD [(7,906)])=v at hO ⊢;generalize dB [(7,906)] os'++[]=os at hO ⊢
 try simp only[ab,simprocAttr]
 refine .done (hK _ ?_);clear hK K;refine U.seq (U.seq ?_);refine .bx (by decide +kernel) fun K hK =>?_;simp only[F5,ab,simprocAttr]
 try simp only[aZ,ab,simprocAttr]
 refine .done (hK _ ?_);clear hK K;try simp only[au]
 refine U.block (U.loop (fun s:Nat×List ak×I×List (Nat×ah)=>aw [(6,s.2.2.1),(13,enc more),(14,.int .i64 more.length),(15,.int .i64 s.1)] s.2.2.2) (fun s=>s.1≤more.length∧rE s.2.1 s.2.2.1 s.2.2.2∧gb s.2.1∧s.2.1.length≤60+s.1∧ov l more=ov s.2.1 (more.drop s.1)) (fun s=>more.length-s.1) (0,l,v,os) ⟨zw3 _,hO,hs,by simp only;omega,rfl⟩ ?_ ?_)
 ·refine aB.dj ?_ (fun n=>rfl);simp[aQ,aS]
 clear hO hp;rintro ⟨i,out,v,os⟩ ⟨h1,hO,hs,hol,hj⟩;simp only at h1 hO hs hol hj ⊢;by_cases hlt:i<more.length
 case neg =>
  have hc:=fP hlt;have hge:i=more.length:=by omega
  subst hge;have hJ2:J=if out.length≤60 then (out,0) else ([],2):=by
   rw[hJ,ox,hj,List.drop_length];rfl
  rw[hJ2];rcases hO with ⟨rfl,hv,rfl⟩ | ⟨hne,nm,k,hnm,rfl,rfl⟩
  ·have h60:decide ((60:Int)<0)=false:=rfl;rcases hv with rfl | rfl
   all_goals
    have R:=v6 @hc (v6 @h60 (v6 @ang (v6 @aZ (v6 @aO @ab))))
    repeat' ((first |(with_reducible refine .guard (fun hb =>?_) (fun hb =>?_) <;>try simp only[hb])|refine U.aI (by decide +kernel) rfl fun K hK =>?_|(refine .aD [0,1,4,5,6,8,9,10,13,14,15,16,34,36,45] hK ?_;clear hK K)|(with_reducible refine .done (hK _ ?_);clear hK K)|refine U.of rfl ?_|(with_reducible refine al.aH (fun h =>?_) (fun h =>?_) <;>try simp only[h])) <;>try simp only[aJ,R,simprocAttr])
    all_goals clear R
    all_goals first | rfl | exact absurd (by assumption) (by decide:¬ decide ((60:Int)<0)=true)
  ·have hfv:=fun k=>Fj (l:=out) (k:=k);by_cases hl60:out.length≤60
   ·have h60:decide ((60:Int)<(out.length:Int))=false:=by simp;omega
    rw[if_pos hl60];simp only[dR];have R:=v6 @hc (v6 @h60 (v6 @hfv (v6 @cL (v6 @aZ (v6 @aO @ab)))))
    repeat' ((first |(with_reducible refine .guard (fun hb =>?_) (fun hb =>?_) <;>try simp only[hb])|refine U.aI (by decide +kernel) rfl fun K hK =>?_|(refine .aD [0,1,4,5,6,8,9,10,13,14,15,16,34,36,45] hK ?_;clear hK K)|(with_reducible refine .done (hK _ ?_);clear hK K)|refine U.of rfl ?_|(with_reducible refine al.aH (fun h =>?_) (fun h =>?_) <;>try simp only[h])) <;>try simp only[aJ,R,simprocAttr])
    all_goals clear R
   ·have h60:decide ((60:Int)<(out.length:Int))=true:=by simp;omega
    rw[if_neg hl60];simp only[dR];have R:=v6 @hc (v6 @h60 (v6 @hfv (v6 @cL (v6 @aZ (v6 @aO @ab)))))
    repeat' ((first |(with_reducible refine .guard (fun hb =>?_) (fun hb =>?_) <;>try simp only[hb])|refine U.aI (by decide +kernel) rfl fun K hK =>?_|(refine .aD [0,1,4,5,6,8,9,10,13,14,15,16,34,36,45] hK ?_;clear hK K)|(with_reducible refine .done (hK _ ?_);clear hK K)|refine U.of rfl ?_|(with_reducible refine al.aH (fun h =>?_) (fun h =>?_) <;>try simp only[h])) <;>try simp only[aJ,R,simprocAttr])
    all_goals clear R
    all_goals rfl
 have hc:=fw hlt;have he:=fun A=>kv (A:=A) hlt;have hw:=ea (i:=i) (by omega);have hd:more.drop i=ae more i::more.drop (i+1):=by rw[zv8 hlt,fN hlt]
 rw[hd] at hj;generalize ae more i=x at he hj;have hF:=AQ out x.bd hs (by omega);have hh:=uf hs x.bd;have hpl:=NM out x.bd;have hbs:=nW 17 x rfl;simp only[ov] at hj;rcases hO with ⟨rfl,hv,rfl⟩ | ⟨hne,nm,k,hnm,rfl,rfl⟩
 ·have e1:jg [] x.bd=false:=rfl;have e2:dQ [] x.bd=0:=rfl;rw[e1,e2] at hF;rw[e1,e2,if_neg (by decide)] at hj;rcases hv with rfl | rfl
  all_goals
   have R:=v6 @hc (v6 @he (v6 @hbs (v6 @aZ (v6 @aO @ab))))
   repeat' ((first |(with_reducible refine .guard (fun hb =>?_) (fun hb =>?_) <;>try simp only[hb])|refine U.aI (by decide +kernel) rfl fun K hK =>?_|refine .flat _ (hF) rfl ?_|(refine .aD [0,1,4,5,6,8,9,10,13,14,15,16,34,36,45] hK ?_;clear hK K)|(with_reducible refine .done (hK _ ?_);clear hK K)|refine U.of rfl ?_|(with_reducible refine al.aH (fun h =>?_) (fun h =>?_) <;>try simp only[h])) <;>try simp only[aJ,R,simprocAttr])
   all_goals clear R
  all_goals
   first
    |refine .bQ false [(25,906)] [] [.nils 17,enc (0:Int),enc [x]] (yJ x) rfl (A4 _ (.inl rfl) x) fK.nil ⟨.inl ⟨rfl,rfl,rfl⟩,.inl ⟨rfl,rfl,rfl⟩,.inl ⟨(ij _ _).symm,bg _ _,du _⟩,trivial⟩ ?_ ?_
    |refine .bQ false [(25,906)] [] [.c0 17,enc (0:Int),enc [x]] (yJ x) rfl (A4 _ (.inr rfl) x) fK.nil ⟨.inl ⟨rfl,rfl,rfl⟩,.inl ⟨rfl,rfl,rfl⟩,.inl ⟨(ij _ _).symm,bg _ _,du _⟩,trivial⟩ ?_ ?_
   ·rintro x os' ⟨k,rfl,rfl⟩;exact dn.oG (fun p=>gj p _) (fun h=>by cases h) rfl (fun h=>by cases h) rfl (by decide)
   ·rintro r os' ⟨q,rfl,rfl⟩
    try simp only[dR,fy,ij,eP,zz9,zy3,ab,simprocAttr]
    refine .done (hK _ ?_);clear hK K;try simp only[au,bP]
    have R:=v6 @hw (v6 @aO @ab)
    repeat' ((first |(with_reducible refine .guard (fun hb =>?_) (fun hb =>?_) <;>try simp only[hb])|refine U.aI (by decide +kernel) rfl fun K hK =>?_|(refine .aD [0,1,4,5,6,8,9,10,13,14,15,16,34,36,45] hK ?_;clear hK K)|(with_reducible refine .done (hK _ ?_);clear hK K)|refine U.of rfl ?_|(with_reducible refine al.aH (fun h =>?_) (fun h =>?_) <;>try simp only[h])) <;>try simp only[aJ,R,simprocAttr])
    all_goals clear R
    have o1:rE [x] (.view 906 [] 17 0 1) (dR 906 [x] q):=.inr ⟨by simp,906,q,.inl rfl,rfl,rfl⟩;refine ⟨(i+1,[x],.view 906 [] 17 0 1,dR 906 [x] q),⟨by simp only;omega,o1,List.pairwise_singleton _ _,by simp;omega,hj⟩,by simp only;omega,?_⟩;simp only[dR];refine aB.bE ?_ ?_ ?_ ?_ <;>simp[*,aQ,bt,br,aY,aq,aS,bT,I.only,I.bV,ah.only,bg,aow]
 have hfv:=fun k=>Fj (l:=out) (k:=k);have hI:=fun k=>RE out (dQ out x.bd) x k hpl hne (by omega);rcases q:jg out x.bd
 case true =>
  rw[q] at hF hh;rw[q,if_pos rfl] at hj;simp only[Bool.true_eq,zz3,decide_eq_true_eq] at hh;have v1:=fun nm fs=>al8 (nm:=nm) hh.1 fs;have l1:=fun k=>Tg (l:=out) (k:=k) hh.1;simp only[dR];by_cases hx:ae out (dQ out x.bd)=x
  ·have q2:decide (ae out (dQ out x.bd)=x)=true:=by simp[hx]
   rw[if_pos hx] at hj;have o1:rE out (.view nm [] 17 0 out.length) (dR nm out k):=.inr ⟨hne,nm,k,hnm,rfl,rfl⟩;rcases hnm with rfl | rfl
   all_goals
    have R:=v6 @hc (v6 @he (v6 @hw (v6 @hfv (v6 @v1 (v6 @l1 (v6 @q2 (v6 @cL (v6 @aZ (v6 @aO @ab)))))))))
    repeat' ((first |(with_reducible refine .guard (fun hb =>?_) (fun hb =>?_) <;>try simp only[hb])|refine U.aI (by decide +kernel) rfl fun K hK =>?_|refine .flat _ (hF) rfl ?_|(refine .aD [0,1,4,5,6,8,9,10,13,14,15,16,34,36,45] hK ?_;clear hK K)|(with_reducible refine .done (hK _ ?_);clear hK K)|refine U.of rfl ?_|(with_reducible refine al.aH (fun h =>?_) (fun h =>?_) <;>try simp only[h])) <;>try simp only[aJ,R,simprocAttr])
    all_goals clear R
    refine ⟨(i+1,out,_,_),⟨by simp only;omega,o1,hs,by simp only;omega,hj⟩,by simp only;omega,?_⟩;simp only[];generalize out++List.replicate k cJ=ws;refine aB.bE ?_ ?_ ?_ ?_ <;>simp[aQ,bt,br,aY,aq,aS,bT,I.only,ah.only,c9,bg]
  ·have q2:decide (ae out (dQ out x.bd)=x)=false:=by simp[hx]
   rw[if_neg hx] at hj;have hJ2:J=([],43):=by rw[hJ,ox,hj]
   rw[hJ2];rcases hnm with rfl | rfl
   all_goals
    have R:=v6 @hc (v6 @he (v6 @hw (v6 @hfv (v6 @v1 (v6 @l1 (v6 @q2 (v6 @cL (v6 @aZ (v6 @aO @ab)))))))))
    repeat' ((first |(with_reducible refine .guard (fun hb =>?_) (fun hb =>?_) <;>try simp only[hb])|refine U.aI (by decide +kernel) rfl fun K hK =>?_|refine .flat _ (hF) rfl ?_|(refine .aD [0,1,4,5,6,8,9,10,13,14,15,16,34,36,45] hK ?_;clear hK K)|(with_reducible refine .done (hK _ ?_);clear hK K)|refine U.of rfl ?_|(with_reducible refine al.aH (fun h =>?_) (fun h =>?_) <;>try simp only[h])) <;>try simp only[aJ,R,simprocAttr])
    all_goals clear R
    all_goals rfl
 rw[q] at hF;rw[q,if_neg (by decide)] at hj;have hsi:=L3 hs q;have hil:=al3 x hpl;have hni:gi out (dQ out x.bd) x≠[]:=fun e=>by rw[e] at hil;simp at hil
 generalize dQ out x.bd=p at *;obtain ⟨ay,hL⟩:∃ ay,ay=gi out p x:=⟨_,rfl⟩
 rw[←hL] at hsi hil hni hj;have o1:∀ nm q,nm=906∨nm=907→rE ay (.view nm [] 17 0 ay.length) (dR nm ay q):=fun nm q h=>.inr ⟨hni,nm,q,h,rfl,rfl⟩;simp only[dR];rcases hnm with rfl | rfl
 all_goals
  have R:=v6 @hc (v6 @he (v6 @hbs (v6 @hfv (v6 @cL (v6 @aZ (v6 @aO @ab))))))
  repeat' ((first |(with_reducible refine .guard (fun hb =>?_) (fun hb =>?_) <;>try simp only[hb])|refine U.aI (by decide +kernel) rfl fun K hK =>?_|refine .flat _ (hF) rfl ?_|(refine .aD [0,1,4,5,6,8,9,10,13,14,15,16,34,36,45] hK ?_;clear hK K)|(with_reducible refine .done (hK _ ?_);clear hK K)|refine U.of rfl ?_|(with_reducible refine al.aH (fun h =>?_) (fun h =>?_) <;>try simp only[h])) <;>try simp only[aJ,R,simprocAttr])
  all_goals clear R
 ·refine .bQ false [(1000000,906),(25,907),(40,907)] (dR 1000000 out k) [.view 1000000 [] 17 0 out.length,enc (p:Int),enc [x]] (yK out p x k) rfl (hI k) ⟨?_,?_⟩ ⟨.inl ⟨?_,?_,rfl⟩,.inl ⟨rfl,rfl,rfl⟩,.inl ⟨(ij _ _).symm,bg _ _,du _⟩,trivial⟩ ?_ ?_
  ·intro n y h;simp only[dR,ao] at h;split at h
   ·rename_i hn';subst hn';simp only[u8] at h;subst h;exact ⟨by simp only[fy,eP,ab,simprocAttr],gj _ _,rfl⟩
   ·cases h
  ·intro a b ha hb _;rw[cz.1 ha,cz.1 hb]
  ·try simp only[fy,simprocAttr]
  ·exact cz.2 rfl
  ·rintro r os' (⟨q,rfl,rfl⟩ | ⟨d,q,rfl | rfl,rfl,rfl⟩)
   ·exact dn.sr (fun p=>gj p _) (fun h=>by cases h) rfl (fun h=>by cases h)
   ·exact dn.oQ rfl rfl (by decide) (by decide) (fun p=>gj p _) (fun h=>by cases h) (fun p=>gj p _) (fun h=>by cases h) rfl (fun h=>by cases h) rfl (by decide)
   ·exact dn.oQ rfl rfl (by decide) (by decide) (fun p=>gj p _) (fun h=>by cases h) (fun p=>gj p _) (fun h=>by cases h) rfl (fun h=>by cases h) rfl (by decide)
  ·rintro r os' (⟨q,rfl,rfl⟩ | ⟨d,q,rfl | rfl,rfl,rfl⟩)
   all_goals
    rw[←hL,←hil]
    try simp only[dR,fy,eP,zz9,zy3,ab,simprocAttr]
    refine .done (hK _ ?_);clear hK K;try simp only[au,bP]
    have R:=v6 @hw (v6 @aO @ab)
    repeat' ((first |(with_reducible refine .guard (fun hb =>?_) (fun hb =>?_) <;>try simp only[hb])|refine U.aI (by decide +kernel) rfl fun K hK =>?_|(refine .aD [0,1,4,5,6,8,9,10,13,14,15,16,34,36,45] hK ?_;clear hK K)|(with_reducible refine .done (hK _ ?_);clear hK K)|refine U.of rfl ?_|(with_reducible refine al.aH (fun h =>?_) (fun h =>?_) <;>try simp only[h])) <;>try simp only[aJ,R,simprocAttr])
    all_goals clear R
    first
     |refine ⟨(i+1,ay,_,_),⟨by simp only;omega,o1 906 q (.inl rfl),hsi,by simp only;omega,hj⟩,by simp only;omega,?_⟩
      simp only[];generalize ay++List.replicate q cJ=ws;refine aB.bE ?_ ?_ ?_ ?_ <;>simp[aQ,bt,br,aY,aq,aS,bT,I.only,ah.only,c9,bg]
      done
     |refine ⟨(i+1,ay,_,_),⟨by simp only;omega,o1 907 q (.inr rfl),hsi,by simp only;omega,hj⟩,by simp only;omega,?_⟩
      simp only[];generalize ay++List.replicate q cJ=ws;refine aB.bE ?_ ?_ ?_ ?_ <;>simp[aQ,bt,br,aY,aq,aS,bT,I.only,ah.only,c9,bg]
      done
 ·refine .bQ false [(1000000,907),(25,906),(40,906)] (dR 1000000 out k) [.view 1000000 [] 17 0 out.length,enc (p:Int),enc [x]] (yK out p x k) rfl (hI k) ⟨?_,?_⟩ ⟨.inl ⟨?_,?_,rfl⟩,.inl ⟨rfl,rfl,rfl⟩,.inl ⟨(ij _ _).symm,bg _ _,du _⟩,trivial⟩ ?_ ?_
  ·intro n y h;simp only[dR,ao] at h;split at h
   ·rename_i hn';subst hn';simp only[u8] at h;subst h;exact ⟨by simp only[fy,eP,ab,simprocAttr],gj _ _,rfl⟩
   ·cases h
  ·intro a b ha hb _;rw[cz.1 ha,cz.1 hb]
  ·try simp only[fy,simprocAttr]
  ·exact cz.2 rfl
  ·rintro r os' (⟨q,rfl,rfl⟩ | ⟨d,q,rfl | rfl,rfl,rfl⟩)
   ·exact dn.sr (fun p=>gj p _) (fun h=>by cases h) rfl (fun h=>by cases h)
   ·exact dn.oQ rfl rfl (by decide) (by decide) (fun p=>gj p _) (fun h=>by cases h) (fun p=>gj p _) (fun h=>by cases h) rfl (fun h=>by cases h) rfl (by decide)
   ·exact dn.oQ rfl rfl (by decide) (by decide) (fun p=>gj p _) (fun h=>by cases h) (fun p=>gj p _) (fun h=>by cases h) rfl (fun h=>by cases h) rfl (by decide)
  ·rintro r os' (⟨q,rfl,rfl⟩ | ⟨d,q,rfl | rfl,rfl,rfl⟩)
   all_goals
    rw[←hL,←hil]
    try simp only[dR,fy,eP,zz9,zy3,ab,simprocAttr]
    refine .done (hK _ ?_);clear hK K;try simp only[au,bP]
    have R:=v6 @hw (v6 @aO @ab)
    repeat' ((first |(with_reducible refine .guard (fun hb =>?_) (fun hb =>?_) <;>try simp only[hb])|refine U.aI (by decide +kernel) rfl fun K hK =>?_|(refine .aD [0,1,4,5,6,8,9,10,13,14,15,16,34,36,45] hK ?_;clear hK K)|(with_reducible refine .done (hK _ ?_);clear hK K)|refine U.of rfl ?_|(with_reducible refine al.aH (fun h =>?_) (fun h =>?_) <;>try simp only[h])) <;>try simp only[aJ,R,simprocAttr])
    all_goals clear R
    first
     |refine ⟨(i+1,ay,_,_),⟨by simp only;omega,o1 906 q (.inl rfl),hsi,by simp only;omega,hj⟩,by simp only;omega,?_⟩
      simp only[];generalize ay++List.replicate q cJ=ws;refine aB.bE ?_ ?_ ?_ ?_ <;>simp[aQ,bt,br,aY,aq,aS,bT,sf,I.only,ah.only,c9,bg]
      done
     |refine ⟨(i+1,ay,_,_),⟨by simp only;omega,o1 907 q (.inr rfl),hsi,by simp only;omega,hj⟩,by simp only;omega,?_⟩
      simp only[];generalize ay++List.replicate q cJ=ws;refine aB.bE ?_ ?_ ?_ ?_ <;>simp[aQ,bt,br,aY,aq,aS,bT,I.only,ah.only,c9,bg]
      done
def yT(a b:List ak):List ak×Int:=if c8 a&&c8 b then ox a b else ([],41)
theorem aqM(a b:List ak):aA Tryz.prog 52 [enc a,enc b] (.tuple [enc (yT a b).1,enc (yT a b).2]):=by
 have h1:=rC a;have h2:=rC b;refine aA.bp Tryz.func52 Vt Xx ZK (t7 rfl) (fun hwf W0 D0 E1 =>?_);simp only[Ds,Pr,bl,zz4];clear hwf;simp only[yT];rcases q1:c8 a <;>rcases q2:c8 b
 all_goals
  rw[q1] at h1;rw[q2] at h2;simp only[if_true,zz6,if_false] at h1 h2
 iterate 3
  ·have R:=v6 @aO @ab
   repeat' ((first |(with_reducible refine .guard (fun hb =>?_) (fun hb =>?_) <;>try simp only[hb])|refine U.aI (by decide +kernel) rfl fun K hK =>?_|refine .flat _ (h1) rfl ?_|refine .flat _ (h2) rfl ?_|(refine .aD [0,1,4,5,13] hK ?_;clear hK K)|(with_reducible refine .done (hK _ ?_);clear hK K)|refine U.of rfl ?_|(with_reducible refine al.aH (fun h =>?_) (fun h =>?_) <;>try simp only[h])) <;>try simp only[aJ,R,Nat.reduceEqDiff,reduceIte,Int.reduceBNe,Nat.reduceBEq])
   all_goals clear R
   all_goals rfl
 have hF:=AU a b (oI q1) (kD q1) (kD q2);simp only[zw7,if_true];have R:=v6 @aO @ab
 repeat' ((first |(with_reducible refine .guard (fun hb =>?_) (fun hb =>?_) <;>try simp only[hb])|refine U.aI (by decide +kernel) rfl fun K hK =>?_|refine .flat _ (h1) rfl ?_|refine .flat _ (h2) rfl ?_|refine .lead _ (hF) ?_|(refine .aD [0,1,4,5,13] hK ?_;clear hK K)|(with_reducible refine .done (hK _ ?_);clear hK K)|refine U.of rfl ?_|(with_reducible refine al.aH (fun h =>?_) (fun h =>?_) <;>try simp only[h])) <;>try simp only[aJ,R,Nat.reduceEqDiff,reduceIte,Int.reduceBNe,Nat.reduceBEq])
 all_goals clear R
def oV(l:List ak)(x:ak):List ak×Int:=if c8 l then (if gB x then ox l [x] else ([],40)) else ([],41)
theorem Bl(l:List ak)(x:ak):aA Tryz.prog 54 [enc l,enc x] (.tuple [enc (oV l x).1,enc (oV l x).2]):=by
 have h1:=rC l;have h2:=Sk x;refine aA.bp Tryz.func54 Vu Xy ZL (t7 rfl) (fun hwf W0 D0 E1 =>?_);simp only[Dt,Ps,bl,zz4];clear hwf;simp only[oV];rcases q1:c8 l
 ·rw[q1,if_neg (by decide)] at h1;have R:=v6 @aO @ab
  repeat' ((first |refine U.aI (by decide +kernel) rfl fun K hK =>?_|refine .flat _ (h1) rfl ?_|(refine .aD [0,1,3,4,5,6,7,11,16] hK ?_;clear hK K)|(with_reducible refine .done (hK _ ?_);clear hK K)|refine U.of rfl ?_|(with_reducible refine al.aH (fun h =>?_) (fun h =>?_) <;>try simp only[h])) <;>try simp only[aJ,R,Nat.reduceEqDiff,reduceIte,Int.reduceBNe,Nat.reduceBEq])
  all_goals clear R
  all_goals rfl
 rw[q1,if_pos rfl] at h1;rcases q2:gB x
 ·rw[q2,if_neg (by decide)] at h2;have R:=v6 @aO @ab
  repeat' ((first |refine U.aI (by decide +kernel) rfl fun K hK =>?_|refine .flat _ (h1) rfl ?_|refine .flat _ (h2) rfl ?_|(refine .aD [0,1,3,4,5,6,7,11,16] hK ?_;clear hK K)|(with_reducible refine .done (hK _ ?_);clear hK K)|refine U.of rfl ?_|(with_reducible refine al.aH (fun h =>?_) (fun h =>?_) <;>try simp only[h])) <;>try simp only[aJ,R,Nat.reduceEqDiff,reduceIte,Int.reduceBNe,Nat.reduceBEq])
  all_goals clear R
  all_goals rfl
 rw[q2,if_pos rfl] at h2;have hF:=AU l [x] (oI q1) (kD q1) (by simp);have hbs:=nW 17 x rfl;have R:=v6 @hbs (v6 @aO @ab)
 repeat' ((first |refine U.aI (by decide +kernel) rfl fun K hK =>?_|refine .flat _ (h1) rfl ?_|refine .flat _ (h2) rfl ?_|refine .lead _ (hF) ?_|(refine .aD [0,1,3,4,5,6,7,11,16] hK ?_;clear hK K)|(with_reducible refine .done (hK _ ?_);clear hK K)|refine U.of rfl ?_|(with_reducible refine al.aH (fun h =>?_) (fun h =>?_) <;>try simp only[h])) <;>try simp only[aJ,R,Nat.reduceEqDiff,reduceIte,Int.reduceBNe,Nat.reduceBEq])
 all_goals clear R
theorem apU{l:List ak}(hs:gb l){y z:ak}(hy:y∈l)(hz:z∈l)(h:y.bd=z.bd):y=z:=by
 obtain ⟨i,hi,rfl⟩:=zu3 hy;obtain ⟨j,hj,rfl⟩:=zu3 hz;rw[fN hi,fN hj] at h;rcases Nat.lt_trichotomy i j with e | e | e
 ·have:=pS hs e hj;rw[h,o5] at this;cases this
 ·subst e;rfl
 ·have:=pS hs e hi;rw[h,o5] at this;cases this
theorem aoP{l:List ak}(hs:gb l){a:Item}(h:jg l a=true):dQ l a<l.length∧(ae l (dQ l a)).bd=a∧ae l (dQ l a)∈l:=by
 have hh:=uf hs a;rw[h] at hh;simp only[Bool.true_eq,zz3,decide_eq_true_eq] at hh;refine ⟨hh.1,hh.2,?_⟩;rw[←fN hh.1];exact zx5 hh.1
def iP(l:List ak)(ss:List Bool)(day:Int):List ak:=((l.zip ss).filter fun p=>p.2&&(decide (p.1.kind≠0)&&decide (p.1.day≤day))).map (·.1)
def uk(x:ak)(o:List ak):List ak:=(o.takeWhile fun a=>decide (a.day≤x.day))++x::o.dropWhile fun a=>decide (a.day≤x.day)
def QA(l:List ak):List ak:=l.foldl (fun o x=>uk x o) []
theorem alY(l:List ak)(i:Nat)(o:List Nat):(jC (fun i=>(ae l i).day) i o).map (ae l)=uk (ae l i) (o.map (ae l)):=by
 simp only[jC,uk,zx4,zy2,List.takeWhile_map,List.dropWhile_map];rfl
theorem aoA(l:List ak)(o:List Nat):(NA (fun i=>(ae l i).day) o).map (ae l)=QA (o.map (ae l)):=by
 have:∀ (o a:List Nat),(o.foldl (fun o i=>jC (fun i=>(ae l i).day) i o) a).map (ae l)=(o.map (ae l)).foldl (fun o x=>uk x o) (a.map (ae l)):=by
  intro o
  induction o with
  |nil=>intro a;rfl
  |cons i o ih=>intro a;rw[List.foldl_cons,ih,alY];rfl
 exact this o []
def Ae(add:List aP→aP→List aP)(bs:List aP)(es:List ak):List aP:=es.foldl (fun bs x=>(eR add bs x).getD bs) bs
theorem NK(add:List aP→aP→List aP)(l:List ak):∀ (o:List Nat) (s:List aP×List Nat),(o.foldl (lV add l) s).1=Ae add s.1 (o.map (ae l))
 | [],_=>rfl
 |i::o,s=>by
  rw[List.foldl_cons,NK add l o];simp only[Ae,zy2,List.foldl_cons,lV];cases eR add s.1 (ae l i) <;>rfl
theorem qC(l:List ak)(day known:Int):cA l day known=Ae fh [] (QA ((jy l day known).map (ae l))):=by
 rw[←aoA];exact NK fh l (ka l day known) ([],[])
theorem Qa(q:ak→Bool):∀ (l:List ak) (ss:List Bool),ss.length=l.length→((List.range l.length).filter fun i=>ss.getD i false&&q (ae l i)).map (ae l)=((l.zip ss).filter fun p=>p.2&&q p.1).map (·.1)
 | [],ss,h=>by simp
 |x::l,[],h=>by simp at h
 |x::l,s::ss,h=>by
  have ih:=Qa q l ss (by simpa using h);have e:(List.map Nat.succ (List.range l.length)).filter (fun i=>(s::ss).getD i false&&q (ae (x::l) i))=((List.range l.length).filter (fun i=>ss.getD i false&&q (ae l i))).map Nat.succ:=by
   rw[List.filter_map];rfl
  have e2:∀ ay:List Nat,(ay.map Nat.succ).map (ae (x::l))=ay.map (ae l):=fun ay=>by rw[List.map_map];rfl
  have c:((s::ss).getD 0 false&&q (ae (x::l) 0))=(s&&q x):=rfl;rw[zu5,List.range_succ_eq_map,zx8,List.zip_cons_cons,zx8,e,c];cases s&&q x
  ·simp only[zz6,if_false,e2,ih]
  ·simp only[if_true,zy2,e2,ih];rfl
theorem qm(l:List ak)(day known:Int):(jy l day known).map (ae l)=iP l (gZ l known) day:=by
 have h:=Qa (fun x=>decide (x.kind≠0)&&decide (x.day≤day)) l (gZ l known) (Ax l known);simp only[jy,eW,List.filter_filter];rw[iP,←h]
 congr 1
 refine List.filter_congr fun i _ =>?_;exact Bool.and_comm _ _
theorem rQ(x:ak)(l:List ak)(s:Bool)(ss:List Bool)(day:Int):iP (x::l) (s::ss) day=(if s&&(decide (x.kind≠0)&&decide (x.day≤day)) then [x] else [])++iP l ss day:=by
 simp only[iP,List.zip_cons_cons,zx8];cases s&&(decide (x.kind≠0)&&decide (x.day≤day)) <;>rfl
theorem abD(x:ak)(l:List ak)(ss:List Bool)(day:Int):iP (x::l) (false::ss) day=iP l ss day:=by
 rw[rQ];rfl
theorem ap2{A:af}{n:Nat}{b:I}{m:bY}{rest:List aE} : dT A (some 7) n [] b (enc m) rest (some (.agg [.agg [.int .i64 0,.int .i64 0,.int .i64 0,.int .i64 0,.int .i64 0],.int .i64 0,.nils 7]))=aF rest (A.aU n (.box (enc m))):=by
 rw[eG (s:=some 7) (du _) (by rw[fW];rfl) ((eT m).trans rfl),fT]
theorem apz(m:bY)(x:Option aP):jM m x x=true:=by cases x <;>simp[jM]
theorem aoM{l:List ak}(hs:gb l){i:Nat}(hi:i<l.length):dQ l (ae l i).bd=i:=zM (by omega) (fun _ hj=>pS hs hj hi) (fun _=>o5 _)
theorem As:∀ {a b:List ak},gb a→gb b→(∀ y,y∈a↔y∈b)→a=b
 | [],[],_,_,_=>rfl
 | [],y::b,_,_,h=>by have:=(h y).2 (by simp);cases this
 |x::a,[],_,_,h=>by have:=(h x).1 (by simp);cases this
 |x::a,y::b,h1,h2,h=>by
  obtain ⟨p1,p2⟩:=zw6.1 h1;obtain ⟨r1,dK⟩:=zw6.1 h2;have e:x=y:=by
   rcases zx2.1 ((h x).1 (by simp)) with e | e
   ·exact e
   ·rcases zx2.1 ((h y).2 (by simp)) with e2 | e2
    ·exact e2.symm
    ·have k1:=r1 x e;have k2:=p1 y e2;have:=qg k1 k2;rw[o5] at this;cases this
  subst e
  congr 1
  refine As p2 dK fun z=>⟨fun hz =>?_,fun hz =>?_⟩
  ·rcases zx2.1 ((h z).1 (by simp[hz])) with e | e
   ·have:=p1 z hz;rw[e,o5] at this;cases this
   ·exact e
  ·rcases zx2.1 ((h z).2 (by simp[hz])) with e | e
   ·have:=r1 z hz;rw[e,o5] at this;cases this
   ·exact e
theorem yS{x:List ak}(hx:gb x):∀ (b out:List ak),gb out→(∀ y∈out,y∈x)→(∀ y∈b,y∈x)→∃ u,ov out b=some u∧gb u∧∀ y,y∈u↔y∈out∨y∈b
 | [],out,h1,_,_=>⟨out,rfl,h1,by simp⟩
 |e::b,out,h1,h2,h3=>by
  simp only[ov];cases q:jg out e.bd with
  |true =>
   obtain ⟨o1,o2,o3⟩:=aoP h1 q;have he:ae out (dQ out e.bd)=e:=apU hx (h2 _ o3) (h3 e (by simp)) o2;simp only[if_true,he];obtain ⟨u,k1,k2,k3⟩:=yS hx b out h1 h2 fun y hy=>h3 y (by simp[hy]);refine ⟨u,k1,k2,fun y =>?_⟩;rw[k3,zx2];constructor
   ·rintro (h | h)
    ·exact .inl h
    ·exact .inr (.inr h)
   ·rintro (h | rfl | h)
    ·exact .inl h
    ·rw[he] at o3;exact .inl o3
    ·exact .inr h
  |false =>
   simp only[zz6,if_false];obtain ⟨u,k1,k2,k3⟩:=yS hx b (gi out (dQ out e.bd) e) (L3 h1 q) (fun y hy=>by
    rcases L2.1 hy with rfl | hy
    ·exact h3 _ (by simp)
    ·exact h2 y hy) fun y hy=>h3 y (by simp[hy])
   refine ⟨u,k1,k2,fun y =>?_⟩;rw[k3,L2,zx2];constructor
   ·rintro ((h | h) | h) <;>simp[h]
   ·rintro (h | h | h) <;>simp[h]
theorem apS{a x:List ak}(hx:gb x)(ha:gb a)(h:∀ y∈a,y∈x):a.length≤x.length:=by
 have e:a=x.filter fun y=>decide (y∈a):=As ha (hx.sublist List.filter_sublist) fun y=>by
  rw[zu8,decide_eq_true_eq];exact ⟨fun hy=>⟨h y hy,hy⟩,fun hy=>hy.2⟩
 rw[e];exact zv5 _ _
theorem By{x a u:List ak}{e:ak}(hx:c8 x=true)(ha:c8 a=true)(h1:∀ y∈a,y∈x)(he:e∈x)(hu:gb u)(hm:∀ y,y∈u↔y∈a∨y=e):oV a e=(u,0):=by
 obtain ⟨v,k1,k2,k3⟩:=yS (oI hx) [e] a (oI ha) h1 (by simp[he]);have ev':v=u:=As k2 hu fun y=>by rw[k3,hm,zu6]
 subst ev';have hl:v.length≤60:=zu4 (apS (oI hx) hu fun y hy=>by rcases (hm y).1 hy with h | rfl;exact h1 y h;exact he) (kD hx);have hoe:=(oH.1 hx).2.1 e he;simp only[oV,ha,hoe,if_true,ox,k1,hl]
def gL(l:List ak)(K:Int):List ak:=l.filter fun x=>decide (x.known≤K)
theorem QM(K day:Int):∀ l:List ak,(dU K (gL l K)).2=(dU K l).2∧iP (gL l K) (dU K (gL l K)).1 day=iP l (dU K l).1 day
 | []=>⟨rfl,rfl⟩
 |x::l=>by
  obtain ⟨h1,h2⟩:=QM K day l;by_cases h:x.known≤K
  ·have e:gL (x::l) K=x::gL l K:=by simp[gL,h]
   rw[e];simp only[dU,h1];refine ⟨trivial,?_⟩;rw[rQ,rQ,h2]
  ·have e:gL (x::l) K=gL l K:=by simp[gL,h]
   rw[e];simp only[dU,decide_eq_false h,Bool.false_and,zz6,if_false,h1,h2,abD,and_self]
theorem alT(l:List ak)(K day:Int):cA (gL l K) day K=cA l day K:=by
 rw[qC,qC,qm,qm];exact congrArg _ (congrArg _ (QM K day l).2)
theorem QN{K K':Int} : ∀ {l:List ak},(∀ x∈l,(x.known≤K↔x.known≤K'))→dU K l=dU K' l
 | [],_=>rfl
 |x::l,h=>by
  have h1:decide (x.known≤K)=decide (x.known≤K'):=decide_eq_decide.2 (h x List.mem_cons_self);simp only[dU,QN fun y hy=>h y (List.mem_cons_of_mem _ hy),h1]
theorem alP{l:List ak}{K K':Int}(h:∀ x∈l,(x.known≤K↔x.known≤K'))(day:Int):cA l day K=cA l day K':=by
 rw[qC,qC,qm,qm];simp only[gZ,QN h]
theorem QL(K day:Int)(t:List ak):∀ x:List ak,(∀ e∈x,e.bd∉(dU K t).2)→(dU K (x++t)).2=(dU K x).2++(dU K t).2∧iP (x++t) (dU K (x++t)).1 day=iP x (dU K x).1 day++iP t (dU K t).1 day
 | [],_=>⟨rfl,rfl⟩
 |e::x,h=>by
  obtain ⟨h1,h2⟩:=QL K day t x fun y hy=>h y (List.mem_cons_of_mem _ hy);have hc:((dU K x).2++(dU K t).2).contains e.bd=(dU K x).2.contains e.bd:=by
   rw[Bool.eq_iff_iff];simp[h e List.mem_cons_self]
  simp only[zz9,dU,h1,hc];refine ⟨?_,?_⟩
  ·split <;>rfl
  ·rw[rQ,rQ,h2,zz5]
theorem LS{x t:List ak}{K day:Int}(h:∀ e∈x,e.bd∉(dU K t).2)(hd:iP t (dU K t).1 day=[]):cA (x++t) day K=cA x day K:=by
 rw[qC,qC,qm,qm];have:=(QL K day t x h).2;rw[hd,zx6] at this;exact congrArg _ (congrArg _ this)
def jE(ds:List Int)(K:Int):Int:=ds.foldl (fun a d=>if d≤K then d else a) (-1)
theorem amr(ds:List Int)(d K:Int):jE (ds++[d]) K=if d≤K then d else jE ds K:=by simp[jE]
theorem xu{K:Int} : ∀ (ds:List Int) (a:Int),a≤K→gD ds→ds.foldl (fun a d=>if d≤K then d else a) a≤K∧(ds.foldl (fun a d=>if d≤K then d else a) a=a∨ds.foldl (fun a d=>if d≤K then d else a) a∈ds)∧∀ d∈ds,d≤K→d≤ds.foldl (fun a d=>if d≤K then d else a) a
 | [],a,ha,_=>⟨ha,.inl rfl,by simp⟩
 |d::ds,a,ha,hr=>by
  obtain ⟨r1,dK⟩:=zw6.1 hr;rw[List.foldl_cons];by_cases h:d≤K
  ·rw[if_pos h];obtain ⟨h1,h2,h3⟩:=xu ds d h dK;refine ⟨h1,.inr ?_,fun y hy hy2 =>?_⟩
   ·rcases h2 with h2 | h2
    ·rw[h2];exact List.mem_cons_self
    ·exact List.mem_cons_of_mem _ h2
   ·rcases zx2.1 hy with rfl | hy
    ·rcases h2 with h2 | h2
     ·exact Int.le_of_eq h2.symm
     ·exact Int.le_of_lt (r1 _ h2)
    ·exact h3 y hy hy2
  ·rw[if_neg h];obtain ⟨h1,h2,h3⟩:=xu ds a ha dK;refine ⟨h1,h2.imp id (List.mem_cons_of_mem _),fun y hy hy2 =>?_⟩;rcases zx2.1 hy with rfl | hy
   ·exact absurd hy2 h
   ·exact h3 y hy hy2
theorem amq{K:Int}(hK:0≤K){ds:List Int}(hr:gD ds):jE ds K≤K∧(jE ds K=-1∨jE ds K∈ds)∧∀ d∈ds,d≤K→d≤jE ds K:=xu ds (-1) (by omega) hr
theorem aoc{x:ak}(h:gB x=true):b7 0 100000 x.known=true:=by
 simp only[gB,zz3] at h;exact h.2.2.2.2
theorem wL(l:List ak)(no known:Int):eS l [ep no 9999] [known]=if c8 l then (if b7 1 9999 no then (if !b7 0 100000 known then 6 else 0) else 1) else 41:=by
 have e1:(ep no 9999).g 0=no:=rfl;have e2:(ep no 9999).g 1=9999:=rfl;simp only[eS,List.all_cons,List.all_nil,e1,e2,List.any_cons,List.any_nil,Bool.or_false,Bool.and_true]
theorem Tj{l:List ak}(hok:c8 l=true)(no K:Int):jW (gL l K) no K=jW l no K:=by
 have hf:c8 (gL l K)=true:=zy List.filter_sublist hok;simp only[jW,wL,hok,hf,alT]
theorem Tk{l:List ak}(hok:c8 l=true)(no:Int){K:Int}(hK:0≤K)(hK2:b7 0 100000 K=true)(hl:0≤jE (km l).1 K):jW l no (jE (km l).1 K)=jW l no K:=by
 have hd:(km l).1=iU (l.map (·.known)):=by simp only[km,hok,if_true]
 rw[hd] at hl ⊢;obtain ⟨h1,h2,h3⟩:=amq (ds:=iU (l.map (·.known))) hK (vu _);generalize jE (iU (l.map (·.known))) K=ay at hl h1 h2 h3;have hL:b7 0 100000 ay=true:=by
  rcases h2 with h2 | h2
  ·omega
  ·rw[sL] at h2;obtain ⟨x,hx,rfl⟩:=zw1.1 h2;exact aoc ((oH.1 hok).2.1 x hx)
 have hh:cA l 100000 ay=cA l 100000 K:=alP (fun x hx=>⟨fun h=>by omega,fun h=>h3 x.known (by rw[sL];exact zw1.2 ⟨x,hx,rfl⟩) h⟩) _;simp only[jW,wL,hok,hK2,hL,hh]
def fe(d K b:Int):ak:=⟨⟨5,0⟩,6,d,K,b,0,0,0,mX,⟨0,0⟩⟩
def ff(K:Int):ak:=⟨⟨5,1⟩,0,0,K,0,0,0,0,mX,⟨5,0⟩⟩
theorem aoh{l:List ak}(hok:c8 l=true)(hlen:l.length≤58)(hm:∀ x∈l,x.bd.fc<5){d K b:Int}(hd:0≤d∧d<30)(hK:0≤K∧K<40)(hb:1≤b∧b≤6):c8 (l++[fe d K b,ff K])=true:=by
 obtain ⟨_,h2,h3⟩:=oH.1 hok;refine oH.2 ⟨by simp;omega,fun x hx =>?_,List.pairwise_append.2 ⟨h3,?_,fun a ha c hc =>?_⟩⟩
 ·rcases zy5.1 hx with hx | hx
  ·exact h2 x hx
  ·simp only[zx2,List.not_mem_nil,or_false] at hx;rcases hx with rfl | rfl
   ·simp[gB,oc,jt,fe,ou,b7]
    (repeat' (first | exact decide_eq_true (by omega) | omega | refine ⟨?_,?_⟩))
   ·simp[gB,oc,jt,ff,ou,b7]
    (repeat' (first | exact decide_eq_true (by omega) | omega | refine ⟨?_,?_⟩))
 ·simp[before,fe,ff]
 ·have:=hm a ha;simp only[zx2,List.not_mem_nil,or_false] at hc;rcases hc with rfl | rfl <;>simp[before,fe,ff,this]
theorem TT{l:List ak}(hok:c8 l=true)(hlen:l.length≤58)(hm:∀ x∈l,x.bd.fc<5){d K b:Int}(hd:0≤d∧d<30)(hK:0≤K∧K<40)(hb:1≤b∧b≤6)(m:bY)(hmk:ed m=true) :
  oV l (fe d K b)=(l++[fe d K b],0)∧oV (l++[fe d K b]) (ff K)=(l++[fe d K b,ff K],0)∧(∀ no,jW (l++[fe d K b,ff K]) no K=jW l no K)∧kY m (l++[fe d K b,ff K]) ⟨5,0⟩ K=([],0):=by
 have hB:=aoh hok hlen hm hd hK hb;have hs1:(l++[fe d K b]).Sublist (l++[fe d K b,ff K]):=List.Sublist.append_left (by simp) l;have hs:=oI hB;have hk:b7 0 100000 K=true:=by simp[b7];omega
 have h0:∀ e∈l,e.bd≠⟨5,0⟩:=fun e he h=>by have:=hm e he;rw[h] at this;simp at this
 have w1:(dU K [fe d K b,ff K]).2=[⟨5,0⟩]∧iP [fe d K b,ff K] (dU K [fe d K b,ff K]).1 100000=[]:=by
  simp[dU,fe,ff,iP]
 have w2:(dU K [ff K]).2=[⟨5,0⟩]∧iP [ff K] (dU K [ff K]).1 100000=[]:=by
  simp[dU,ff,iP]
 have e1:cA (l++[fe d K b,ff K]) 100000 K=cA l 100000 K:=LS (by rw[w1.1];simpa using h0) w1.2;have e2:cA (l++[ff K]) 100000 K=cA l 100000 K:=LS (by rw[w2.1];simpa using h0) w2.2;refine ⟨?_,?_,fun no =>?_,?_⟩
 ·exact By hB hok (fun y hy=>by simp[hy]) (by simp) (hs.sublist hs1) (fun y=>by simp)
 ·exact By hB (zy hs1 hB) (fun y hy=>hs1.subset hy) (by simp) hs (fun y=>by simp[or_assoc])
 ·simp only[jW,wL,hok,hB,e1]
 ·have hi:l.length<(l++[fe d K b,ff K]).length:=by simp
  have hev:ae (l++[fe d K b,ff K]) l.length=fe d K b:=by simp[ae]
  have hp:dQ (l++[fe d K b,ff K]) ⟨5,0⟩=l.length:=by
   have:=aoM hs hi
   rwa [hev] at this
  have hh:jg (l++[fe d K b,ff K]) ⟨5,0⟩=true:=yz hi (by rw[hev];rfl);have hdl:eO (l++[fe d K b,ff K]) l.length=l++[ff K]:=by simp[eO]
  have hck:eS (l++[fe d K b,ff K]) [] [K]=0:=by simp[eS,hB,hk]
  simp only[kY,hmk,hck,hh,if_true,hp,hdl,e1,e2];have:o8 m (cA l 100000 K) (cA l 100000 K)=[]:=by
   simp[o8,apz]
  rw[this]
abbrev ki:=aX 3 Int
theorem QY :
  (∀ (x:ki) y,fH (0:Int) 3 (fG 3 1 (x.l.map enc) y)=y)∧(∀ (x:ki) y,fH (1:Int) 3 (fG 3 1 (x.l.map enc) y)=y)∧(∀ (x:ki) y,fH (2:Int) 3 (fG 3 1 (x.l.map enc) y)=y) ∧
  (∀ x:ki,(x.l.map (enc (α:=Int)))[0]?=some (I.int .i64 (x.g 0)))∧(∀ x:ki,(x.l.map (enc (α:=Int)))[1]?=some (I.int .i64 (x.g 1)))∧(∀ x:ki,(x.l.map (enc (α:=Int)))[2]?=some (I.int .i64 (x.g 2))) ∧
  (∀ x:ki,fU 0 [] (some (x.l.map (enc (α:=Int))))=some (.int .i64 (x.g 0)))∧(∀ x:ki,fU 1 [] (some (x.l.map (enc (α:=Int))))=some (.int .i64 (x.g 1)))∧(∀ x:ki,fU 2 [] (some (x.l.map (enc (α:=Int))))=some (.int .i64 (x.g 2))) ∧
  (∀ x:ki,(enc x:I).dD=some (x.l.map enc))∧(∀ x:ki,cj (some 3) (enc x)=true)∧((0:Int).toNat=0)∧((1:Int).toNat=1)∧((2:Int).toNat=2) :=
 ⟨fun x y=>gh 1 x (by decide) rfl,fun x y=>gh 1 x (by decide) rfl,fun x y=>gh 1 x (by decide) rfl,fun x=>od x (by decide),fun x=>od x (by decide),fun x=>od x (by decide),fun x=>(eL x (by decide)).trans (hT _),fun x=>(eL x (by decide)).trans (hT _),fun x=>(eL x (by decide)).trans (hT _),fun _=>rfl,fun x=>by rw[fW];rfl,rfl,rfl,rfl⟩
theorem TP(a:Int):dN [.int .i64 0,.int .i64 0] [(0,.int .i64 a)]=some [.int .i64 a,.int .i64 0]:=by simp[dN,I.cq,I.size]
theorem abI:I.agg [.int .i64 5,.int .i64 0]=enc (⟨5,0⟩:Item)∧I.agg [.int .i64 5,.int .i64 1]=enc (⟨5,1⟩:Item):=⟨rfl,rfl⟩
theorem TQ(K:Int):(dN [.agg [.int .i64 0,.int .i64 0],.int .i64 0,.int .i64 0,.int .i64 0,.int .i64 0,.int .i64 0,.int .i64 0,.int .i64 0,.agg [.int .i64 0,.int .i64 0,.int .i64 0,.int .i64 0,.int .i64 0,.int .i64 0],.agg [.int .i64 0,.int .i64 0]] [(0,enc (⟨5,1⟩:Item)),(1,.int .i64 0),(3,.int .i64 K),(9,enc (⟨5,0⟩:Item))]).map .agg=some (enc (ff K)):=by
 simp[dN,I.cq,I.size,I.sizes,gG,qn];rfl
theorem ab4(l:List ak)(K:Int){i:Nat}(h:i<l.length):gL (l.take (i+1)) K=gL (l.take i) K++if (ae l i).known≤K then [ae l i] else []:=by
 simp only[gL];rw[zz8 h,List.filter_append,fN h]
 congr 1
 by_cases hk:(ae l i).known≤K
 ·rw[if_pos hk];exact List.filter_cons_of_pos (by simpa using hk)
 ·rw[if_neg hk];exact List.filter_cons_of_neg (by simpa using hk)
theorem ams(ds:List Int)(K:Int){i:Nat}(h:i<ds.length):jE (ds.take (i+1)) K=if ds[i]≤K then ds[i] else jE (ds.take i) K:=by
 rw[zz8 h,amr]
theorem My(m:bY)(ls:List fL)(picks:List Int):∀ i,(fR m ls picks 0 i).length+(fR m ls picks 1 i).length+(fR m ls picks 2 i).length≤i
 |0=>zz7 _
 |i+1=>by
  have:=My m ls picks i;simp only[fR,rq]
  (repeat' split) <;>(try simp only[zz2,zv3]) <;>omega
theorem amI{m:bY}(hm:ed m=true)(ls:List fL)(picks:List Int):(∀ x∈mD m ls picks,x.bd.fc<5)∧(mD m ls picks).length≤58:=by
 obtain ⟨h1,h2⟩:=uB hm ls picks 3 (by omega);refine ⟨fun x hx =>?_,?_⟩
 ·have:=(h1 x hx).2.2;omega
 ·have a:=My m ls picks (iG ls);have b:=uD ls;simp only[mD,im,zz2,zv0];omega
theorem Rp(c:List Int)(ls:List fL)(n:ki)(hc:c.length*8≤140737488355328):aA Tryz.prog 13 [enc c,enc ls,enc n] (enc true):=by
 obtain ⟨m,hm⟩:∃ m,m=nv c:=⟨_,rfl⟩
 have hokm:ed m=true:=by rw[hm];exact Na c
 have h24:=Bh c (by omega);rw[←hm] at h24;have h23:=Bg m ls c hokm hc;have hok:=M5 hokm ls c;obtain ⟨hml,h58⟩:=amI hokm ls c;generalize mD m ls c=l at h23 hok hml h58;obtain ⟨cC,hKq⟩:∃ cC,cC=n.g 0%40:=⟨_,rfl⟩
 obtain ⟨d,hd⟩:∃ d,d=n.g 1%30:=⟨_,rfl⟩
 obtain ⟨b,hb⟩:∃ b,b=1+n.g 2%6:=⟨_,rfl⟩
 have hKb:0≤cC∧cC<40:=by rw[hKq];exact ⟨zv1 _ (by decide),zv7 _ (by decide)⟩
 have hdb:0≤d∧d<30:=by rw[hd];exact ⟨zv1 _ (by decide),zv7 _ (by decide)⟩
 have hbb:1≤b∧b≤6:=by omega
 have hk:b7 0 100000 cC=true:=by simp[b7];omega
 obtain ⟨b1,b2,b3,b4⟩:=TT hok h58 hml hdb hKb hbb m hokm;have w6:=vE (n.g 2) 6 (by omega) (by omega);rw[←hb] at w6;have h44:=Si l;have hdl:(km l).1.length≤60:=by
  have h1:=Fw (l.map (·.known)) [];have h2:=kD hok;simp only[km,hok,if_true,iU,zv0,zy1] at h1 ⊢;omega
 have hds:km l=((km l).1,0):=by simp only[km,hok,if_true]
 have hlast:=fun no=>Tk hok no hKb.1 hk;generalize (km l).1=ds at hdl hds hlast;rw[hds] at h44;have hfew:=fun no=>Tj hok no cC;have h54:=Bl l (fe d cC b);rw[b1] at h54;have h54b:=Bl (l++[fe d cC b]) (ff cC);rw[b2] at h54b;have h48:=Sj m (l++[fe d cC b,ff cC]) ⟨5,0⟩ cC;rw[b4] at h48;have n0:((0:Int) != 0)=false:=rfl;have n1:((0:Int)==0)=true:=rfl;have q6:((([]:List Int).length:Int)==0)=true:=rfl;have hl:=kD hok;have a0:(fe d cC b).bd=⟨5,0⟩:=rfl;have hmk:pz ⟨5,0⟩ 6 d cC b=fe d cC b:=rfl;refine aA.bp Tryz.func13 Uk Wi Yz (t7 rfl) (fun hwf W0 D0 E1 =>?_);simp only[Cg,Ob,bl,zz4,Nat.reduceAdd];clear hwf;have R:=v6 @n0 (v6 @QY (v6 @ap2 (v6 @fp (v6 @aZ (v6 @aO @ab)))))
 repeat' ((first |(with_reducible refine .guard (fun hb =>?_) (fun hb =>?_) <;>try simp only[hb])|refine U.aI (by decide +kernel) rfl fun K hK =>?_|refine .lead _ (h24) ?_|refine .lead _ (h23) ?_|refine .flat _ (gQ _ _ (by decide) (by decide)) rfl ?_|refine .lead _ (h44) ?_|(refine .aD [0,1,2,5,6,7,8,9,10,11,12,13,14,15,16,17,18,19,20,21,22,23,24,25,26,27,28,29,30,31,32,33,34,35,51,55,63,71,80,89,114,116,132,165,176,201] hK ?_;clear hK K)|(with_reducible refine .done (hK _ ?_);clear hK K)|refine U.of rfl ?_|(with_reducible refine al.aH (fun h =>?_) (fun h =>?_) <;>try simp only[h])) <;>try simp only[aJ,R,←hKq,simprocAttr])
 all_goals clear R
 refine U.loop (fun i:Nat=>aw [(5,.ptr 5 []),(7,.ptr 7 []),(8,enc l),(9,.int .i64 cC),(10,enc ds),(12,.int .i64 (jE (ds.take i) cC)),(13,.nils 17),(14,.int .i64 i)] [(5,.box (enc n)),(7,.box (enc m))]) (fun i=>i≤ds.length) (fun i=>ds.length-i) 0 (zw3 _) ?_ (fun i hi =>?_)
 ·have e:jE (ds.take 0) cC=-1:=rfl;rw[e];refine aB.bE ?_ ?_ ?_ ?_ <;>simp[aQ,bt,br,aY,aq,aS,bT,I.only,ah.only,bg]
 by_cases hlt:i<ds.length
 ·have hc1:=fw hlt;have he:=fun A=>fm (A:=A) 1 hlt rfl;have hw:=ea (i:=i) (by omega);have hsu:=ams ds cC hlt;by_cases q:ds[i]≤cC
  all_goals
   have q':=q
   first
    |rw[if_pos q] at hsu;replace q':=decide_eq_true q
    |rw[if_neg q] at hsu;replace q':=decide_eq_false q
   have R:=v6 @hc1 (v6 @he (v6 @hw (v6 @q' (v6 @aZ (v6 @aO @ab)))))
   repeat' ((first |(with_reducible refine .guard (fun hb =>?_) (fun hb =>?_) <;>try simp only[hb])|refine U.aI (by decide +kernel) rfl fun K hK =>?_|(refine .aD [0,1,2,5,6,7,8,9,10,11,12,13,14,15,16,17,18,19,20,21,22,23,24,25,26,27,28,29,30,31,32,33,34,35,51,55,63,71,80,89,114,116,132,165,176,201] hK ?_;clear hK K)|(with_reducible refine .done (hK _ ?_);clear hK K)|refine U.of rfl ?_|(with_reducible refine al.aH (fun h =>?_) (fun h =>?_) <;>try simp only[h])) <;>try simp only[aJ,R,simprocAttr])
   all_goals clear R
   refine ⟨i+1,by omega,by omega,?_⟩;rw[hsu];refine aB.bE ?_ ?_ ?_ ?_ <;>simp[aQ,bt,br,aY,aq,aS,bT,I.only,ah.only,bg]
 have hc1:=fP hlt;have hge:i=ds.length:=by omega
 subst hge;rw[zu7];generalize jE ds cC=last at hlast;have R:=v6 @hc1 (v6 @aZ (v6 @aO @ab))
 repeat' ((first |(with_reducible refine .guard (fun hb =>?_) (fun hb =>?_) <;>try simp only[hb])|refine U.aI (by decide +kernel) rfl fun K hK =>?_|(refine .aD [0,1,2,5,6,7,8,9,10,11,12,13,14,15,16,17,18,19,20,21,22,23,24,25,26,27,28,29,30,31,32,33,34,35,51,55,63,71,80,89,114,116,132,165,176,201] hK ?_;clear hK K)|(with_reducible refine .done (hK _ ?_);clear hK K)|refine U.of rfl ?_|(with_reducible refine al.aH (fun h =>?_) (fun h =>?_) <;>try simp only[h])) <;>try simp only[aJ,R,simprocAttr])
 all_goals clear R
 refine U.loop (fun i:Nat=>aw [(5,.ptr 5 []),(7,.ptr 7 []),(8,enc l),(9,.int .i64 cC),(12,.int .i64 last),(13,.own 913 (gL (l.take i) cC).length),(15,.int .i64 i)] [(5,.box (enc n)),(7,.box (enc m)),(913,.b9 68 17 ((gL (l.take i) cC).map enc))]) (fun i=>i≤l.length) (fun i=>l.length-i) 0 (zw3 _) ?_ (fun i hi =>?_)
 ·refine aB.p9 13 913 68 17 17 rfl rfl ?_;have e:gL (l.take 0) cC=[]:=rfl;simp only[e,zx1,zv0];refine aB.bE ?_ ?_ ?_ ?_ <;>simp[aQ,bt,br,aY,aq,aS,bT,I.only,I.bV,ah.only,bg]
 by_cases hlt2:i<l.length
 ·have hc1:=fw hlt2;have he:=fun A=>kv (A:=A) hlt2;have hw:=ea (i:=i) (by omega);have hsu:=ab4 l cC hlt2;have hfl:(gL (l.take i) cC).length≤60:=zu4 (zv5 _ _) (by rw[zy4];omega);generalize gL (l.take i) cC=o at hsu hfl ⊢;have hbs:=nW 17 (ae l i) rfl;have happ:=fun (A:af) d rest=>m9 (α:=ak) (A:=A) (d:=d) 68 17 136 913 (l:=o.length) (es:=o) (ys:=[ae l i]) (rest:=rest) rfl rfl (by simp) (by simp[maxLen];omega) (by simp;omega);by_cases q:(ae l i).known≤cC
  ·rw[if_pos q] at hsu
   replace q:=decide_eq_true q
   have R:=v6 @hc1 (v6 @he (v6 @hw (v6 @q (v6 @hbs (v6 @happ (v6 @aZ (v6 @aO @ab)))))))
   repeat' ((first |(with_reducible refine .guard (fun hb =>?_) (fun hb =>?_) <;>try simp only[hb])|refine U.aI (by decide +kernel) rfl fun K hK =>?_|(refine .aD [0,1,2,5,6,7,8,9,10,11,12,13,14,15,16,17,18,19,20,21,22,23,24,25,26,27,28,29,30,31,32,33,34,35,51,55,63,71,80,89,114,116,132,165,176,201] hK ?_;clear hK K)|(with_reducible refine .done (hK _ ?_);clear hK K)|refine U.of rfl ?_|(with_reducible refine al.aH (fun h =>?_) (fun h =>?_) <;>try simp only[h])) <;>try simp only[aJ,R,simprocAttr])
   all_goals clear R
   refine ⟨i+1,by omega,by omega,?_⟩;rw[hsu];refine aB.bE ?_ ?_ ?_ ?_ <;>simp[aQ,bt,br,aY,aq,aS,bT,I.only,I.bV,ah.only,c9,fI,bg]
  ·rw[if_neg q,zx6] at hsu
   replace q:=decide_eq_false q
   have R:=v6 @hc1 (v6 @he (v6 @hw (v6 @q (v6 @aZ (v6 @aO @ab)))))
   repeat' ((first |(with_reducible refine .guard (fun hb =>?_) (fun hb =>?_) <;>try simp only[hb])|refine U.aI (by decide +kernel) rfl fun K hK =>?_|(refine .aD [0,1,2,5,6,7,8,9,10,11,12,13,14,15,16,17,18,19,20,21,22,23,24,25,26,27,28,29,30,31,32,33,34,35,51,55,63,71,80,89,114,116,132,165,176,201] hK ?_;clear hK K)|(with_reducible refine .done (hK _ ?_);clear hK K)|refine U.of rfl ?_|(with_reducible refine al.aH (fun h =>?_) (fun h =>?_) <;>try simp only[h])) <;>try simp only[aJ,R,simprocAttr])
   all_goals clear R
   refine ⟨i+1,by omega,by omega,?_⟩;rw[hsu];refine aB.bE ?_ ?_ ?_ ?_ <;>simp[aQ,bt,br,aY,aq,aS,bT,I.only,ah.only,c9,bg]
 have hc1:=fP hlt2;have hge:i=l.length:=by omega
 subst hge;rw[zu7];have hff:=hfew;generalize gL l cC=few at hff ⊢;have R:=v6 @hc1 (v6 @aZ (v6 @aO @ab))
 repeat' ((first |(with_reducible refine .guard (fun hb =>?_) (fun hb =>?_) <;>try simp only[hb])|refine U.aI (by decide +kernel) rfl fun K hK =>?_|(refine .aD [0,1,2,5,6,7,8,9,10,11,12,13,14,15,16,17,18,19,20,21,22,23,24,25,26,27,28,29,30,31,32,33,34,35,51,55,63,71,80,89,114,116,132,165,176,201] hK ?_;clear hK K)|(with_reducible refine .done (hK _ ?_);clear hK K)|refine U.of rfl ?_|(with_reducible refine al.aH (fun h =>?_) (fun h =>?_) <;>try simp only[h])) <;>try simp only[aJ,R,simprocAttr])
 all_goals clear R
 refine U.loop (fun k:Nat=>aw [(5,.ptr 5 []),(7,.ptr 7 []),(8,enc l),(9,.int .i64 cC),(12,.int .i64 last),(13,enc few),(16,.int .i64 ((k+1:Nat):Int))] [(5,.box (enc n)),(7,.box (enc m))]) (fun k=>k≤6) (fun k=>6-k) 0 (zw3 _) ?_ (fun k hk6 =>?_)
 ·refine aB.qy [913] 13 (x:=.own 913 few.length) (y:=enc few) rfl ?_ ?_ ?_ ?_ ?_ ?_
  ·exact mq (k:=few.length) (T:=68) (es:=few) 17 rfl rfl
  all_goals simp[cR,aY,aQ,bt,br,gU,aq,aS,bT,I.only,ah.only,bg]
 have hn1:∀ x:Int,(x != x)=false:=fun x=>by simp
 by_cases hlt3:k<6
 ·have hc1:decide (((k+1:Nat):Int)≤6)=true:=decide_eq_true (by omega);have hw:=ea (i:=k+1) (by omega);have p1:=rB l ((k+1:Nat):Int) cC;have p2:=rB few ((k+1:Nat):Int) cC;rw[hff] at p2;have p3:=rB l ((k+1:Nat):Int) last;have hla:=hlast ((k+1:Nat):Int);generalize jW l ((k+1:Nat):Int) cC=p at p1 p2 hla;by_cases q:0≤last
  ·rw[hla q] at p3
   replace q:=decide_eq_true q
   have R:=v6 @hc1 (v6 @hw (v6 @q (v6 @hn1 (v6 @qp (v6 @ry (v6 @aZ (v6 @dY (v6 @aO @ab))))))))
   repeat' ((first |(with_reducible refine .guard (fun hb =>?_) (fun hb =>?_) <;>try simp only[hb])|refine U.aI (by decide +kernel) rfl fun K hK =>?_|refine .lead _ (p1) ?_|refine .lead _ (p2) ?_|refine .lead _ (p3) ?_|refine .flat _ (vT _ _) rfl ?_|(refine .aD [0,1,2,5,6,7,8,9,10,11,12,13,14,15,16,17,18,19,20,21,22,23,24,25,26,27,28,29,30,31,32,33,34,35,51,55,63,71,80,89,114,116,132,165,176,201] hK ?_;clear hK K)|(with_reducible refine .done (hK _ ?_);clear hK K)|refine U.of rfl ?_|(with_reducible refine al.aH (fun h =>?_) (fun h =>?_) <;>try simp only[h])) <;>try simp only[aJ,R,eq_self,decide_true,simprocAttr])
   all_goals clear R
   refine ⟨k+1,by omega,by omega,?_⟩;refine aB.bE ?_ ?_ ?_ ?_ <;>simp[aQ,bt,br,aY,aq,aS,bT,I.only,ah.only,bg]
  ·replace q:=decide_eq_false q
   have R:=v6 @hc1 (v6 @hw (v6 @q (v6 @hn1 (v6 @qp (v6 @ry (v6 @aZ (v6 @dY (v6 @aO @ab))))))))
   repeat' ((first |(with_reducible refine .guard (fun hb =>?_) (fun hb =>?_) <;>try simp only[hb])|refine U.aI (by decide +kernel) rfl fun K hK =>?_|refine .lead _ (p1) ?_|refine .lead _ (p2) ?_|refine .flat _ (vT _ _) rfl ?_|(refine .aD [0,1,2,5,6,7,8,9,10,11,12,13,14,15,16,17,18,19,20,21,22,23,24,25,26,27,28,29,30,31,32,33,34,35,51,55,63,71,80,89,114,116,132,165,176,201] hK ?_;clear hK K)|(with_reducible refine .done (hK _ ?_);clear hK K)|refine U.of rfl ?_|(with_reducible refine al.aH (fun h =>?_) (fun h =>?_) <;>try simp only[h])) <;>try simp only[aJ,R,eq_self,decide_true,simprocAttr])
   all_goals clear R
   refine ⟨k+1,by omega,by omega,?_⟩;refine aB.bE ?_ ?_ ?_ ?_ <;>simp[aQ,bt,br,aY,aq,aS,bT,I.only,ah.only,bg]
 have hk7:k=6:=by omega
 subst hk7;have hc1:decide ((7:Int)≤6)=false:=rfl;have R:=v6 @hc1 (v6 @w6 (v6 @n0 (v6 @TP (v6 @qh (v6 @abI (v6 @hmk (v6 @TQ (v6 @a0 (v6 @QY (v6 @fp (v6 @aZ (v6 @dY (v6 @aO @ab)))))))))))))
 repeat' ((first |(with_reducible refine .guard (fun hb =>?_) (fun hb =>?_) <;>try simp only[hb])|refine U.aI (by decide +kernel) rfl fun K hK =>?_|refine .flat _ (gQ _ _ (by decide) (by decide)) rfl ?_|refine .lead _ (h54) ?_|refine .lead _ (h54b) ?_|refine .lead _ (h48) ?_|(refine .aD [0,1,2,5,6,7,8,9,10,11,12,13,14,15,16,17,18,19,20,21,22,23,24,25,26,27,28,29,30,31,32,33,34,35,51,55,63,71,80,89,114,116,132,165,176,201] hK ?_;clear hK K)|(with_reducible refine .done (hK _ ?_);clear hK K)|refine U.of rfl ?_|(with_reducible refine al.aH (fun h =>?_) (fun h =>?_) <;>try simp only[h])) <;>try simp only[aJ,R,←hd,←hb,decide_false,simprocAttr])
 all_goals clear R
 refine U.loop (fun k:Nat=>aw [(8,enc l),(9,.int .i64 cC),(27,enc (l++[fe d cC b,ff cC])),(29,enc ([]:List Int)),(30,.int .i64 0),(31,.int .i64 ((k+1:Nat):Int))] []) (fun k=>k≤6) (fun k=>6-k) 0 (zw3 _) ?_ (fun k hk6 =>?_)
 ·refine aB.bE ?_ ?_ ?_ ?_ <;>simp[aQ,bt,br,aY,aS,I.only,bg]
 by_cases hlt4:k<6
 ·have hc1:decide (((k+1:Nat):Int)≤6)=true:=decide_eq_true (by omega);have hw:=ea (i:=k+1) (by omega);have p1:=rB l ((k+1:Nat):Int) cC;have p2:=rB (l++[fe d cC b,ff cC]) ((k+1:Nat):Int) cC;rw[b3] at p2;generalize jW l ((k+1:Nat):Int) cC=p at p1 p2;have R:=v6 @hc1 (v6 @hw (v6 @hn1 (v6 @qp (v6 @ry (v6 @aZ (v6 @dY (v6 @aO @ab)))))))
  repeat' ((first |(with_reducible refine .guard (fun hb =>?_) (fun hb =>?_) <;>try simp only[hb])|refine U.aI (by decide +kernel) rfl fun K hK =>?_|refine .lead _ (p1) ?_|refine .lead _ (p2) ?_|refine .flat _ (vT _ _) rfl ?_|(refine .aD [0,1,2,5,6,7,8,9,10,11,12,13,14,15,16,17,18,19,20,21,22,23,24,25,26,27,28,29,30,31,32,33,34,35,51,55,63,71,80,89,114,116,132,165,176,201] hK ?_;clear hK K)|(with_reducible refine .done (hK _ ?_);clear hK K)|refine U.of rfl ?_|(with_reducible refine al.aH (fun h =>?_) (fun h =>?_) <;>try simp only[h])) <;>try simp only[aJ,R,eq_self,decide_true,simprocAttr])
  all_goals clear R
  refine ⟨k+1,by omega,by omega,?_⟩;refine aB.bE ?_ ?_ ?_ ?_ <;>simp[aQ,bt,br,aY,aS,I.only,bg]
 have hk7:k=6:=by omega
 subst hk7;have R:=v6 @hc1 (v6 @n1 (v6 @q6 (v6 @aZ (v6 @aO @ab))))
 repeat' ((first |(with_reducible refine .guard (fun hb =>?_) (fun hb =>?_) <;>try simp only[hb])|refine U.aI (by decide +kernel) rfl fun K hK =>?_|refine .flat _ (Bf) rfl ?_|(refine .aD [0,1,2,5,6,7,8,9,10,11,12,13,14,15,16,17,18,19,20,21,22,23,24,25,26,27,28,29,30,31,32,33,34,35,51,55,63,71,80,89,114,116,132,165,176,201] hK ?_;clear hK K)|(with_reducible refine .done (hK _ ?_);clear hK K)|refine U.of rfl ?_|(with_reducible refine al.aH (fun h =>?_) (fun h =>?_) <;>try simp only[h])) <;>try simp only[aJ,R,decide_false,simprocAttr])
 all_goals clear R
end Go.Proofs.YtcldiigclhgafaaGreat
