/-
  A part of the proof that the law HerdTrue returns true for every input; conditions: none beyond the statement's own. (part 6 of 7)
-/
import Derived.Test.YtcldiigclhgafaaGreatNle
set_option linter.unusedSimpArgs false
set_option linter.unusedVariables false
set_option maxHeartbeats 16000000
set_option maxRecDepth 100000
namespace Go.Proofs.YtcldiigclhgafaaGreat
open Go Go.Abs
open Go.Abs.Enc (enc)
theorem Pf(s:rD)(n:Int)(hc:s.nU.length*8≤140737488355328)(hps:∀ p∈s.pD,p.length≤4611686018427387904):aC Tryz.prog 6 [enc s,enc n] (enc true):=by
 obtain ⟨m,hm⟩:∃ m,m=nc s.nU:=⟨_,rfl⟩
 have hokm:ed m=true:=by rw[hm];exact ag2 s.nU
 have h24:=O8 s.nU (by omega);rw[←hm] at h24;have hgl:=Kj hokm;obtain ⟨hw,hf0,hf2⟩:=ag1 hokm;obtain ⟨Kd,hKq⟩:∃ Kd,Kd=n%40:=⟨_,rfl⟩
 have hKb:0≤Kd∧Kd<40:=by rw[hKq];exact ⟨Int.emod_nonneg _ (by decide),Int.emod_lt_of_pos _ (by decide)⟩
 obtain ⟨ps,hps'⟩:∃ ps,ps=s.pD:=⟨_,rfl⟩
 rw[←hps'] at hps;refine aC.bu Tryz.func6 R9 TY V0 (t7 rfl) (fun hwf W0 D0 E1 =>?_);simp only[Bj,Mh,bj,zz4];have hpl:ps.length≤maxLen:=by rw[hps'];exact ((kM s.pD).1 hwf.1.2.2.1).1
 simp only[maxLen] at hpl;clear hwf;by_cases hg0:m.given.length=0
 ·have z0:((m.given.length:Int)==0)=true:=by simp[hg0]
  have R:=v6 @z0 (v6 @r6 (v6 @tc (v6 @Nw (v6 @fc (v6 @cv (v6 @bP (v6 @bl @J)))))))
  repeat' ((first |(with_reducible refine .guard (fun hb =>?_) (fun hb =>?_) <;>try simp only[hb])|refine U.aX (by decide +kernel) rfl fun K hK =>?_|refine .lead _ (h24) ?_|refine .flat _ (ja _ _ (by decide) (by decide)) rfl ?_|refine .flat _ (y8) rfl ?_|(refine .aQ [0,1,2,4,5,6,7,8,9,10,11,12,13,14,15,16,17,18,19,20,21,22,31,53,83,104,109,115,154,158,190] hK ?_;clear hK K)|(with_reducible refine .done (hK _ ?_);clear hK K)|refine U.of rfl ?_|(with_reducible refine au.aU (fun h =>?_) (fun h =>?_) <;>try simp only[h])) <;>try simp only[aZ,R,←hKq,simprocAttr])
  all_goals clear R
 have z0:((m.given.length:Int)==0)=false:=beq_eq_false_iff_ne.2 (by omega);obtain ⟨k,hk⟩:∃ k,k=(s.b5%(m.given.length:Int)).toNat:=⟨_,rfl⟩
 have hkl:k<m.given.length∧(s.b5%(m.given.length:Int))=(k:Int):=by
  have a1:=Int.emod_nonneg s.b5 (show (m.given.length:Int)≠0 by omega);have a2:=Int.emod_lt_of_pos s.b5 (show (0:Int)<(m.given.length:Int) by omega);omega
 have hgi:∀ A,gP A 7 (s.b5%(m.given.length:Int)) (enc m.given)=some (.ref (enc (cw m k))):=fun A=>by
  rw[hkl.2];exact sD hkl.1
 have ha:=Jh hokm hkl.1;have R:=v6 @z0 (v6 @hgi (v6 @yu (v6 @xA (v6 @r6 (v6 @tc (v6 @Nw (v6 @fc (v6 @cv (v6 @bP (v6 @bl @J))))))))))
 repeat' ((first |(with_reducible refine .guard (fun hb =>?_) (fun hb =>?_) <;>try simp only[hb])|refine U.afB (n:=907) (x:=enc eA) (x':=enc eA) (QC _) (by simp only[bX,cF]) (fy eA) rfl (by decide) ?_|refine U.aX (by decide +kernel) rfl fun K hK =>?_|refine .lead _ (h24) ?_|refine .flat _ (ja _ _ (by first | decide | omega) (by first | decide | omega)) rfl ?_|(refine .aQ [0,1,2,4,5,6,7,8,9,10,11,12,13,14,15,16,17,18,19,20,21,22,31,53,83,104,109,115,154,158,190] hK ?_;clear hK K)|(with_reducible refine .done (hK _ ?_);clear hK K)|refine U.of rfl ?_|(with_reducible refine au.aU (fun h =>?_) (fun h =>?_) <;>try simp only[h])) <;>try simp only[aZ,R,←hKq,simprocAttr])
 all_goals clear R
 obtain ⟨a,hma⟩:∃ a,a=(cw m k).mark:=⟨_,rfl⟩
 rw[←hma] at ha;refine U.loop (fun i:Nat=>ar [(1,.int .i64 Kd),(2,.ptr 2 []),(5,.ptr 5 []),(6,.ptr 6 []),(7,.own 907 (jZ m a ps i).length),(8,.own 908 (jJ m a ps Kd i).length),(9,.int .i64 i)] [(2,.box (enc s)),(5,.box (enc m)),(6,.box (enc (cw m k))),(907,.bT 68 17 ((jZ m a ps i).map enc)),(908,.bT 66 6 ((jJ m a ps Kd i).map enc))]) (fun i=>i≤ps.length∧i≤6) (fun i=>6-i) 0 ⟨zv4 _,zv4 _⟩ ?_ (fun i hi =>?_)
 ·refine aF.rF 8 908 66 6 6 rfl rfl ?_;have e1:jZ m a ps 0=[eA]:=rfl;have e2:jJ m a ps Kd 0=[]:=rfl;simp only[e1,e2,zz9,zx2,List.length_nil,zv5,zz4];refine aF.bY ?_ ?_ ?_ ?_ <;>simp[aV,bO,bM,br,aq,aW,ct,I.only,I.b8,ah.only,bA]
 obtain ⟨hi1,hi6⟩:=hi;by_cases hlt:i<ps.length∧i<6
 ·obtain ⟨hil,hil6⟩:=hlt;have q1:=gI hil;have q2:decide ((i:Int)<6)=true:=decide_eq_true (by omega);have he:∀ A,gP A 1 (i:Int) (enc ps)=some (.ref (enc (jE ps i))):=fun A=>by rw[←KL hil];exact fJ (A:=A) 1 hil rfl
  have hb:=hps (jE ps i) (by rw[←KL hil];exact zy6 hil);have hw1:IntKind.i64.wrap (1+(i:Int))=((i+1:Nat):Int):=by rw[cA _ (by omega) (by omega)];omega
  have hw2:=gb (i:=i) (by omega);have hit:I.agg [.int .i64 0,.int .i64 ((i+1:Nat):Int)]=enc (⟨0,((i+1:Nat):Int)⟩:Item):=rfl;have h34:=lQ (jE ps i) 0 hb;have h35:=Pc m a (jE ps i) hb hw ha hf0 hf2;have hsu:=ait m a ps Kd i;have hsl:=Nk m a ps Kd i;have hes:=afG m a ps i;have hev:(⟨⟨0,((i+1:Nat):Int)⟩,4,2,bt (jE ps i) 0%40,7,0,0,0,pL m a (jE ps i),⟨0,0⟩⟩:aw)=kq m a ps i:=rfl;have hel2:=JR m a ps i;generalize kq m a ps i=y at hsu hes hev;generalize jJ m a ps Kd i=sn at hsu hsl ⊢;generalize jZ m a ps i=es at hes hel2 ⊢;have hbs7:=oO 17 y rfl;have hbs8:=oO 6 y.bL rfl;have p7:=fun (A:ae) d rest=>nB (α:=aw) (A:=A) (d:=d) 68 17 136 907 (l:=es.length) (es:=es) (ys:=[y]) (rest:=rest) rfl rfl (by simp) (by simp[maxLen];omega) (by simp;omega);have p8:=fun (A:ae) d rest=>nB (α:=aI 6 Int) (A:=A) (d:=d) 66 6 48 908 (l:=sn.length) (es:=sn) (ys:=[y.bL]) (rest:=rest) rfl rfl (by simp) (by simp[maxLen];omega) (by simp;omega);by_cases q:y.known≤Kd
  all_goals
   have q3:=q
   first
    |rw[if_pos q] at hsu;replace q3:=decide_eq_true q
    |(rw[if_neg q,zw1] at hsu;replace q3:=decide_eq_false q)
   have R:=v6 @q1 (v6 @q2 (v6 @he (v6 @hw1 (v6 @hw2 (v6 @Qx (v6 @hit (v6 @QD (v6 @hev (v6 @q3 (v6 @hbs7 (v6 @hbs8 (v6 @p7 (v6 @p8 (v6 @r6 (v6 @tc (v6 @Kt (v6 @yu (v6 @xA (v6 @fc (v6 @cv (v6 @bP (v6 @bl @J))))))))))))))))))))))
   repeat' ((first |(with_reducible refine .guard (fun hb =>?_) (fun hb =>?_) <;>try simp only[hb])|refine U.aX (by decide +kernel) rfl fun K hK =>?_|refine .flat _ (h34) rfl ?_|refine .flat _ (ja _ _ (by decide) (by decide)) rfl ?_|refine .lead _ (h35) ?_|(refine .aQ [0,1,2,4,5,6,7,8,9,10,11,12,13,14,15,16,17,18,19,20,21,22,31,53,83,104,109,115,154,158,190] hK ?_;clear hK K)|(with_reducible refine .done (hK _ ?_);clear hK K)|refine U.of rfl ?_|(with_reducible refine au.aU (fun h =>?_) (fun h =>?_) <;>try simp only[h])) <;>try simp only[aZ,R,←hps',←hma,simprocAttr])
   all_goals clear R
   refine ⟨i+1,⟨by omega,by omega⟩,by omega,?_⟩;rw[hsu,hes];refine aF.bY ?_ ?_ ?_ ?_ <;>simp[aV,bO,bM,br,aq,aW,ct,I.only,I.b8,ah.only,fe,kD,bA]
 have hQ:(decide ((i:Int)<(ps.length:Int))=false)∨(decide ((i:Int)<(ps.length:Int))=true∧decide ((i:Int)<6)=false):=by
  by_cases h1:i<ps.length
  ·exact .inr ⟨gI h1,decide_eq_false (by omega)⟩
  ·exact .inl (ib h1)
 have hok:dC (jZ m a ps i)=true:=CB hw ha ps hi6;have hb7:=zD hokm (CC m a ps i) hok hKb (fun x hx=>(vb hw ha hf0 ps i x hx).1);have hso:=ais hw ha hf0 ps Kd i;have hless:=fun j=>afy hokm hw ha hf0 ps hi6 hKb (i:=j);have hsl:=Nk m a ps Kd i;have hll:=JR m a ps i;have hsn:((e7 m a ps i).filter fun x=>decide (x.known≤Kd)).map (·.bL)=jJ m a ps Kd i:=rfl;have hls:eA::e7 m a ps i=jZ m a ps i:=rfl;rw[hsn,hls] at hb7;simp only[hls] at hless;clear hsn hls;generalize jZ m a ps i=ay at hb7 hless hll ⊢;generalize jJ m a ps Kd i=sn at hb7 hso hless hsl ⊢;obtain ⟨all,hall⟩:∃ all,all=(m.given.filter (hX m sn)).map (·.b5):=⟨_,rfl⟩
 have hhas:=fun {j} (hj:j<m.given.length)=>aeP hokm sn hj;rw[←hall] at hb7 hhas;simp only[←hall] at hless;have h14:=pV m ay 7 Kd;rw[hb7] at h14;have hown:decide ((cw m k).b5∈all)=true:=by
  rw[hhas hkl.1];simp only[hX,zy2,decide_eq_true_eq];intro r hr;rw[←hma];exact (hso r hr).2
 have hal:all.length≤40:=by
  rw[hall,zy1];exact zv7 (zv3 _ _) hgl
 have n0:((0:Int) != 0)=false:=rfl;have n1:((0:Int)==0)=true:=rfl;have hbb:∀ x:Bool,cg .b (.bool x) (.bool x)=some true:=fun x=>by simp[cg]
 have hnt:(!true)=false:=rfl;rcases hQ with Q | Q
 all_goals
  refine U.seq (U.seq ?_);refine .bd (by decide +kernel) fun K hK =>?_;simp only[H3,J,simprocAttr]
  try simp only[Q,←hps',r6,tc,Kt,bP,bl,J,simprocAttr]
  refine .done (hK _ ?_);clear hK K;try simp only[al]
  refine U.bx ?_;simp only[au,J,simprocAttr];refine ⟨fun h =>?_,fun h =>?_⟩
  ·cases h
  refine U.exit ?_;try simp only[al,bJ,simprocAttr]
  refine U.sub (aF.nK [907] 7 (x:=.own 907 ay.length) (y:=enc ay) (ts':=[(1,.int .i64 Kd),(5,.ptr 5 []),(6,.ptr 6 []),(7,enc ay),(8,.own 908 sn.length)]) (os':=[(5,.box (enc m)),(6,.box (enc (cw m k))),(908,.bT 66 6 (sn.map enc))]) rfl (mU (k:=ay.length) (T:=68) (es:=ay) 17 rfl rfl) ?_ ?_ ?_ ?_ ?_) ?_
  iterate 5 simp[cW,br,aV,bO,bM,fV,aq,aW,ct,I.only,ah.only,fe,bA]
  refine U.sub (aF.nK [908] 8 (x:=.own 908 sn.length) (y:=enc sn) (ts':=[(1,.int .i64 Kd),(5,.ptr 5 []),(6,.ptr 6 []),(7,enc ay),(8,enc sn)]) (os':=[(5,.box (enc m)),(6,.box (enc (cw m k)))]) rfl (mU (k:=sn.length) (T:=66) (es:=sn) 6 rfl rfl) ?_ ?_ ?_ ?_ ?_) ?_
  iterate 5 simp[cW,br,aV,bO,bM,fV,aq,aW,ct,I.only,ah.only,bA]
  have R:=v6 @n0 (v6 @hown (v6 @yu (v6 @xA (v6 @fc (v6 @cv (v6 @bP (v6 @bl @J)))))))
  repeat' ((first |(with_reducible refine .guard (fun hb =>?_) (fun hb =>?_) <;>try simp only[hb])|refine U.aX (by decide +kernel) rfl fun K hK =>?_|refine .lead _ (h14) ?_|refine .flat _ (y9 _ _) rfl ?_|(refine .aQ [0,1,2,4,5,6,7,8,9,10,11,12,13,14,15,16,17,18,19,20,21,22,31,53,83,104,109,115,154,158,190] hK ?_;clear hK K)|(with_reducible refine .done (hK _ ?_);clear hK K)|refine U.of rfl ?_|(with_reducible refine au.aU (fun h =>?_) (fun h =>?_) <;>try simp only[h])) <;>try simp only[aZ,R,simprocAttr])
  all_goals clear R
  refine U.loop (fun j:Nat=>ar [(1,.int .i64 Kd),(5,.ptr 5 []),(7,enc ay),(8,enc sn),(11,enc all),(13,.int .i64 j)] [(5,.box (enc m))]) (fun j=>j≤m.given.length) (fun j=>m.given.length-j) 0 (zv4 _) ?_ (fun j hj =>?_)
  ·refine aF.bY ?_ ?_ ?_ ?_ <;>simp[aV,bO,bM,br,aq,aW,ct,I.only,ah.only,bA]
  by_cases hjl:j<m.given.length
  ·have hc2:=gI hjl;have hej:=fun A=>sD (A:=A) (m:=m) hjl;have hwj:=gb (i:=j) (by omega);have hmk:=Jh hokm hjl;have hh:=hhas hjl;have R:=v6 @hc2 (v6 @fc (v6 @cv (v6 @bP (v6 @bl @J))))
   repeat' ((first |(with_reducible refine .guard (fun hb =>?_) (fun hb =>?_) <;>try simp only[hb])|refine U.aX (by decide +kernel) rfl fun K hK =>?_|(refine .aQ [0,1,2,4,5,6,7,8,9,10,11,12,13,14,15,16,17,18,19,20,21,22,31,53,83,104,109,115,154,158,190] hK ?_;clear hK K)|(with_reducible refine .done (hK _ ?_);clear hK K)|refine U.of rfl ?_|(with_reducible refine au.aU (fun h =>?_) (fun h =>?_) <;>try simp only[h])) <;>try simp only[aZ,R,simprocAttr])
   all_goals clear R
   refine U.loop (fun t:Nat=>ar [(1,.int .i64 Kd),(5,.ptr 5 []),(7,enc ay),(8,enc sn),(11,enc all),(13,.int .i64 j),(14,.bool (hX m (sn.take t) (cw m j))),(15,.int .i64 t)] [(5,.box (enc m))]) (fun t=>t≤sn.length) (fun t=>sn.length-t) 0 (zv4 _) ?_ (fun t ht =>?_)
   ·have e:hX m (sn.take 0) (cw m j)=true:=rfl;rw[e];refine aF.bY ?_ ?_ ?_ ?_ <;>simp[aV,bO,bM,br,aq,aW,ct,I.only,ah.only,bA]
   by_cases htl:t<sn.length
   ·have hc3:=gI htl;have het:=fun A=>fJ (A:=A) 6 htl rfl;have hwt:=gb (i:=t) (by omega);have h37:=Pd m.c5 (cw m j).mark sn[t];have hcr:mR m.c5 (cw m j).mark sn[t]=(eE m.c5 (cw m j).mark sn[t],0):=by
     simp only[mR,hw,hmk,(hso _ (zy6 htl)).1,if_true]
    rw[hcr] at h37;have hfs:hX m (sn.take (t+1)) (cw m j)=(hX m (sn.take t) (cw m j)&&decide (eE m.c5 (cw m j).mark sn[t]≤m.dh)):=by
     simp only[hX];rw[zy5 htl,List.all_append];simp only[List.all_cons,List.all_nil,Bool.and_true]
    rcases qf:hX m (sn.take t) (cw m j)
    all_goals
     rw[qf] at hfs;simp only[Bool.false_and,Bool.true_and] at hfs;have R:=v6 @hc3 (v6 @het (v6 @hej (v6 @hwt (v6 @n1 (v6 @qf (v6 @fc (v6 @cv (v6 @bP (v6 @bl @J)))))))))
     repeat' ((first |(with_reducible refine .guard (fun hb =>?_) (fun hb =>?_) <;>try simp only[hb])|refine U.aX (by decide +kernel) rfl fun K hK =>?_|refine .lead _ (h37) ?_|(refine .aQ [0,1,2,4,5,6,7,8,9,10,11,12,13,14,15,16,17,18,19,20,21,22,31,53,83,104,109,115,154,158,190] hK ?_;clear hK K)|(with_reducible refine .done (hK _ ?_);clear hK K)|refine U.of rfl ?_|(with_reducible refine au.aU (fun h =>?_) (fun h =>?_) <;>try simp only[h])) <;>try simp only[aZ,R,simprocAttr])
     all_goals clear R
     refine ⟨t+1,by omega,by omega,?_⟩;rw[hfs];refine aF.bY ?_ ?_ ?_ ?_ <;>simp[aV,bO,bM,br,aq,aW,ct,I.only,ah.only,bA]
   have hc3:=ib htl;have hge:t=sn.length:=by omega
   subst hge;rw[List.take_length];generalize hX m sn (cw m j)=x at hh;have R:=v6 @hc3 (v6 @hej (v6 @hwj (v6 @hh (v6 @hbb (v6 @hnt (v6 @fc (v6 @cv (v6 @bP (v6 @bl @J)))))))))
   repeat' ((first |(with_reducible refine .guard (fun hb =>?_) (fun hb =>?_) <;>try simp only[hb])|refine U.aX (by decide +kernel) rfl fun K hK =>?_|refine .flat _ (y9 _ _) rfl ?_|(refine .aQ [0,1,2,4,5,6,7,8,9,10,11,12,13,14,15,16,17,18,19,20,21,22,31,53,83,104,109,115,154,158,190] hK ?_;clear hK K)|(with_reducible refine .done (hK _ ?_);clear hK K)|refine U.of rfl ?_|(with_reducible refine au.aU (fun h =>?_) (fun h =>?_) <;>try simp only[h])) <;>try simp only[aZ,R,simprocAttr])
   all_goals clear R
   refine ⟨j+1,by omega,by omega,?_⟩;refine aF.bY ?_ ?_ ?_ ?_ <;>simp[aV,bO,bM,br,aq,aW,ct,I.only,ah.only,bA]
  have hc2:=ib hjl;have R:=v6 @hc2 (v6 @fc (v6 @cv (v6 @bP (v6 @bl @J))))
  repeat' ((first |(with_reducible refine .guard (fun hb =>?_) (fun hb =>?_) <;>try simp only[hb])|refine U.aX (by decide +kernel) rfl fun K hK =>?_|(refine .aQ [0,1,2,4,5,6,7,8,9,10,11,12,13,14,15,16,17,18,19,20,21,22,31,53,83,104,109,115,154,158,190] hK ?_;clear hK K)|(with_reducible refine .done (hK _ ?_);clear hK K)|refine U.of rfl ?_|(with_reducible refine au.aU (fun h =>?_) (fun h =>?_) <;>try simp only[h])) <;>try simp only[aZ,R,simprocAttr])
  all_goals clear R
  refine U.loop (fun j:Nat=>ar [(1,.int .i64 Kd),(5,.ptr 5 []),(7,enc ay),(11,enc all),(18,.int .i64 ((j+1:Nat):Int))] [(5,.box (enc m))]) (fun j=>j+1≤ay.length) (fun j=>ay.length-(j+1)) 0 (by omega) ?_ (fun j hj2 =>?_)
  ·refine aF.bY ?_ ?_ ?_ ?_ <;>simp[aV,bO,bM,br,aq,aW,ct,I.only,ah.only,bA]
  by_cases hjl2:j+1<ay.length
  ·have hc3:=gI hjl2;have hej:=fun A=>kz (A:=A) hjl2;have hwj:=gb (i:=j+1) (by omega);obtain ⟨l1,more,l2,l3,l4⟩:=hless (j+1) (by omega) (by omega);have h38:=Pe ay (ab ay (j+1)).bt;rw[l1] at h38;have h14b:=pV m (dX ay (j+1)) 7 Kd;rw[l2] at h14b;have hml:decide ((more.length:Int)<(all.length:Int))=false:=decide_eq_false (by omega);have R:=v6 @hc3 (v6 @hej (v6 @hwj (v6 @n0 (v6 @hml (v6 @fc (v6 @cv (v6 @bP (v6 @bl @J))))))))
   repeat' ((first |(with_reducible refine .guard (fun hb =>?_) (fun hb =>?_) <;>try simp only[hb])|refine U.aX (by decide +kernel) rfl fun K hK =>?_|refine .lead _ (h38) ?_|refine .lead _ (h14b) ?_|(refine .aQ [0,1,2,4,5,6,7,8,9,10,11,12,13,14,15,16,17,18,19,20,21,22,31,53,83,104,109,115,154,158,190] hK ?_;clear hK K)|(with_reducible refine .done (hK _ ?_);clear hK K)|refine U.of rfl ?_|(with_reducible refine au.aU (fun h =>?_) (fun h =>?_) <;>try simp only[h])) <;>try simp only[aZ,R,simprocAttr])
   all_goals clear R
   refine ⟨j+1,by omega,by omega,?_⟩;refine aF.bY ?_ ?_ ?_ ?_ <;>simp[aV,bO,bM,br,aq,aW,ct,I.only,ah.only,bA]
  have hc3:=ib hjl2;have R:=v6 @hc3 (v6 @fc (v6 @cv (v6 @bP (v6 @bl @J))))
  repeat' ((first |(with_reducible refine .guard (fun hb =>?_) (fun hb =>?_) <;>try simp only[hb])|refine U.aX (by decide +kernel) rfl fun K hK =>?_|refine .flat _ (y8) rfl ?_|(refine .aQ [0,1,2,4,5,6,7,8,9,10,11,12,13,14,15,16,17,18,19,20,21,22,31,53,83,104,109,115,154,158,190] hK ?_;clear hK K)|(with_reducible refine .done (hK _ ?_);clear hK K)|refine U.of rfl ?_|(with_reducible refine au.aU (fun h =>?_) (fun h =>?_) <;>try simp only[h])) <;>try simp only[aZ,R,simprocAttr])
  all_goals clear R
end Go.Proofs.YtcldiigclhgafaaGreat
