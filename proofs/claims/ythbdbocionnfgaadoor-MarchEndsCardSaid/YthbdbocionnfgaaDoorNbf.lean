/-
  A part of the proof that the law MarchEnds returns true for every input; three tables of Go's library start as the text lays them (the card ties them); conditions: none beyond the statement's own. (part 6 of 7)
-/
import Derived.Test.YthbdbocionnfgaaDoorNbe
set_option linter.unusedSimpArgs false
set_option linter.unusedVariables false
set_option maxHeartbeats 16000000
set_option maxRecDepth 100000
namespace Go.Proofs.YthbdbocionnfgaaDoor
open Go Go.Abs
open Go.Abs.Enc (enc)
theorem Iv(w:dL)(x:fC)(aw:gZ w)(hk:cL x.kind 10=2):bp Tryd.prog 11 [enc w,enc x] (.tuple [enc (dM w x).1,enc (dM w x).2]):=by
 refine bp.cw Tryd.func11 oq ou oy (t7 rfl) (fun hwf W0 D0 E1 =>?_);simp only[na,nE,bS,zz4];clear hwf;have aq:=aw.du;refine oN _ _ w x aq.len (fun q =>?_);obtain ⟨ps,rs,bs⟩:=w;simp only at aq;have hmod:=iU x.jz (m:=6) (by decide);have hm6:bD x<6:=by simp only[bD];omega
 have hi:bD x<ps.length:=by rw[aq.len];exact hm6
 have hl:=aq.len;have hF0:=j8 x.kind 10 (by decide) (by decide);rw[hk] at hF0;simp only[mb,hl];have hT1:=iP (fM 20 [] 3 0 6) (cO rs) (cO bs);have hS4:=kN (fM 20 [] 3 0 6) (cO rs) (cO bs);have hst:=lY (q:=q) hi;have hat:=kQ (q:=q) hi;have hv:=kV (n:=20) hm6;have hf0:=fun ts os=>iT (rs:=rs) (bs:=bs) (q:=q) hl ts os;have hf1:=fun (p:aJ) ts os=>iT (rs:=rs) (bs:=bs) (q:=q) (lW hl (bD x) p) ts os;have hA:dM ⟨ps,rs,bs⟩ x=eN ⟨ps,rs,bs⟩ (bD x) ((jo (aB ps (bD x)) (eB x) (cL x.to 6)).1,(jo (aB ps (bD x)) (eB x) (cL x.to 6)).2.2) rs bs:=by simp only[dM,hk];rfl
 have hF:=wP (aB ps (bD x)) (eB x) (cL x.to 6);rw[hA];simp only[eN];generalize jo (aB ps (bD x)) (eB x) (cL x.to 6)=r at *;obtain ⟨p',cY,e⟩:=r;simp only at hF ⊢;have hKn:=oa e;rcases q3:(e==0)
 ·have q4:¬ e=0:=by simpa using q3
  rw[if_neg q4];have R:=y6 @hT1 (y6 @hS4 (y6 @hst (y6 @hat (y6 @hv (y6 @hf0 (y6 @q3 (y6 @fX (y6 @fN (y6 @dj (y6 @bA (y6 @bq (y6 @dk aI))))))))))))
  repeat' ((first |(with_reducible refine .guard (fun hb =>?_) (fun hb =>?_) <;>try simp only[hb])|refine ae.aM (by decide +kernel) rfl fun K hK =>?_|refine .flat _ (hF0) rfl ?_|refine .flat _ (hKn) rfl ?_|refine .lead _ (hF) ?_|(refine .aD [0,1,2,3,4,5,6,7,8,9,10,11,12,13,14,15,16,39,43,67,72,81,90,95,103,114,127,145,154,166,171,187] hK ?_;clear hK K)|(with_reducible refine .done (hK _ ?_);clear hK K)|refine ae.of rfl ?_|(with_reducible refine aF.aL (fun h =>?_) (fun h =>?_) <;>try simp only[h])) <;>try simp only[aN,R,simprocAttr])
  all_goals clear R
 ·have q4:e=0:=by simpa using q3
  rw[if_pos q4];have hf2:=hf1 p';have R:=y6 @hT1 (y6 @hS4 (y6 @hst (y6 @hat (y6 @hv (y6 @hf2 (y6 @q3 (y6 @fX (y6 @fN (y6 @dj (y6 @bA (y6 @bq (y6 @dk aI))))))))))))
  repeat' ((first |(with_reducible refine .guard (fun hb =>?_) (fun hb =>?_) <;>try simp only[hb])|refine ae.aM (by decide +kernel) rfl fun K hK =>?_|refine .flat _ (hF0) rfl ?_|refine .flat _ (hKn) rfl ?_|refine .lead _ (hF) ?_|(refine .aD [0,1,2,3,4,5,6,7,8,9,10,11,12,13,14,15,16,39,43,67,72,81,90,95,103,114,127,145,154,166,171,187] hK ?_;clear hK K)|(with_reducible refine .done (hK _ ?_);clear hK K)|refine ae.of rfl ?_|(with_reducible refine aF.aL (fun h =>?_) (fun h =>?_) <;>try simp only[h])) <;>try simp only[aN,R,simprocAttr])
  all_goals clear R
theorem Iw(w:dL)(x:fC)(aw:gZ w)(hk:cL x.kind 10=3):bp Tryd.prog 11 [enc w,enc x] (.tuple [enc (dM w x).1,enc (dM w x).2]):=by
 refine bp.cw Tryd.func11 oq ou oy (t7 rfl) (fun hwf W0 D0 E1 =>?_);simp only[na,nE,bS,zz4];clear hwf;have aq:=aw.du;refine oN _ _ w x aq.len (fun q =>?_);obtain ⟨ps,rs,bs⟩:=w;simp only at aq;have hmod:=iU x.jz (m:=6) (by decide);have hm6:bD x<6:=by simp only[bD];omega
 have hi:bD x<ps.length:=by rw[aq.len];exact hm6
 have hl:=aq.len;have hF0:=j8 x.kind 10 (by decide) (by decide);rw[hk] at hF0;simp only[mb,hl];have hT1:=iP (fM 20 [] 3 0 6) (cO rs) (cO bs);have hS4:=kN (fM 20 [] 3 0 6) (cO rs) (cO bs);have hst:=lY (q:=q) hi;have hat:=kQ (q:=q) hi;have hv:=kV (n:=20) hm6;have hf0:=fun ts os=>iT (rs:=rs) (bs:=bs) (q:=q) hl ts os;have hf1:=fun (p:aJ) ts os=>iT (rs:=rs) (bs:=bs) (q:=q) (lW hl (bD x) p) ts os;have hA:dM ⟨ps,rs,bs⟩ x=eN ⟨ps,rs,bs⟩ (bD x) ((jo (aB ps (bD x)) (eB x) (cL x.to 6)).1,(jo (aB ps (bD x)) (eB x) (cL x.to 6)).2.2) rs bs:=by simp only[dM,hk];rfl
 have hF:=wP (aB ps (bD x)) (eB x) (cL x.to 6);rw[hA];simp only[eN];generalize jo (aB ps (bD x)) (eB x) (cL x.to 6)=r at *;obtain ⟨p',cY,e⟩:=r;simp only at hF ⊢;have hKn:=oa e;rcases q3:(e==0)
 ·have q4:¬ e=0:=by simpa using q3
  rw[if_neg q4];have R:=y6 @hT1 (y6 @hS4 (y6 @hst (y6 @hat (y6 @hv (y6 @hf0 (y6 @q3 (y6 @fX (y6 @fN (y6 @dj (y6 @bA (y6 @bq (y6 @dk aI))))))))))))
  repeat' ((first |(with_reducible refine .guard (fun hb =>?_) (fun hb =>?_) <;>try simp only[hb])|refine ae.aM (by decide +kernel) rfl fun K hK =>?_|refine .flat _ (hF0) rfl ?_|refine .flat _ (hKn) rfl ?_|refine .lead _ (hF) ?_|(refine .aD [0,1,2,3,4,5,6,7,8,9,10,11,12,13,14,15,16,39,43,67,72,81,90,95,103,114,127,145,154,166,171,187] hK ?_;clear hK K)|(with_reducible refine .done (hK _ ?_);clear hK K)|refine ae.of rfl ?_|(with_reducible refine aF.aL (fun h =>?_) (fun h =>?_) <;>try simp only[h])) <;>try simp only[aN,R,simprocAttr])
  all_goals clear R
 ·have q4:e=0:=by simpa using q3
  rw[if_pos q4];have hf2:=hf1 p';have R:=y6 @hT1 (y6 @hS4 (y6 @hst (y6 @hat (y6 @hv (y6 @hf2 (y6 @q3 (y6 @fX (y6 @fN (y6 @dj (y6 @bA (y6 @bq (y6 @dk aI))))))))))))
  repeat' ((first |(with_reducible refine .guard (fun hb =>?_) (fun hb =>?_) <;>try simp only[hb])|refine ae.aM (by decide +kernel) rfl fun K hK =>?_|refine .flat _ (hF0) rfl ?_|refine .flat _ (hKn) rfl ?_|refine .lead _ (hF) ?_|(refine .aD [0,1,2,3,4,5,6,7,8,9,10,11,12,13,14,15,16,39,43,67,72,81,90,95,103,114,127,145,154,166,171,187] hK ?_;clear hK K)|(with_reducible refine .done (hK _ ?_);clear hK K)|refine ae.of rfl ?_|(with_reducible refine aF.aL (fun h =>?_) (fun h =>?_) <;>try simp only[h])) <;>try simp only[aN,R,simprocAttr])
  all_goals clear R
theorem Iy(w:dL)(x:fC)(aw:gZ w)(hk:cL x.kind 10=5):bp Tryd.prog 11 [enc w,enc x] (.tuple [enc (dM w x).1,enc (dM w x).2]):=by
 refine bp.cw Tryd.func11 oq ou oy (t7 rfl) (fun hwf W0 D0 E1 =>?_);simp only[na,nE,bS,zz4];clear hwf;have aq:=aw.du;refine oN _ _ w x aq.len (fun q =>?_);obtain ⟨ps,rs,bs⟩:=w;simp only at aq;have hmod:=iU x.jz (m:=6) (by decide);have hm6:bD x<6:=by simp only[bD];omega
 have hi:bD x<ps.length:=by rw[aq.len];exact hm6
 have hl:=aq.len;have hF0:=j8 x.kind 10 (by decide) (by decide);rw[hk] at hF0;simp only[mb,hl];have hT1:=iP (fM 20 [] 3 0 6) (cO rs) (cO bs);have hS4:=kN (fM 20 [] 3 0 6) (cO rs) (cO bs);have hst:=lY (q:=q) hi;have hat:=kQ (q:=q) hi;have hv:=kV (n:=20) hm6;have hf0:=fun ts os=>iT (rs:=rs) (bs:=bs) (q:=q) hl ts os;have hf1:=fun (p:aJ) ts os=>iT (rs:=rs) (bs:=bs) (q:=q) (lW hl (bD x) p) ts os;have hA:dM ⟨ps,rs,bs⟩ x=eN ⟨ps,rs,bs⟩ (bD x) (ng (aB ps (bD x)) x.no) rs bs:=by simp only[dM,hk];rfl
 have hF:=IK (aB ps (bD x)) x.no;rw[hA];simp only[eN];generalize ng (aB ps (bD x)) x.no=r at *;obtain ⟨p',e⟩:=r;simp only at hF ⊢;have hKn:=oa e;rcases q3:(e==0)
 ·have q4:¬ e=0:=by simpa using q3
  rw[if_neg q4];have R:=y6 @hT1 (y6 @hS4 (y6 @hst (y6 @hat (y6 @hv (y6 @hf0 (y6 @q3 (y6 @fX (y6 @fN (y6 @dj (y6 @bA (y6 @bq (y6 @dk aI))))))))))))
  repeat' ((first |(with_reducible refine .guard (fun hb =>?_) (fun hb =>?_) <;>try simp only[hb])|refine ae.aM (by decide +kernel) rfl fun K hK =>?_|refine .flat _ (hF0) rfl ?_|refine .flat _ (hKn) rfl ?_|refine .lead _ (hF) ?_|(refine .aD [0,1,2,3,4,5,6,7,8,9,10,11,12,13,14,15,16,39,43,67,72,81,90,95,103,114,127,145,154,166,171,187] hK ?_;clear hK K)|(with_reducible refine .done (hK _ ?_);clear hK K)|refine ae.of rfl ?_|(with_reducible refine aF.aL (fun h =>?_) (fun h =>?_) <;>try simp only[h])) <;>try simp only[aN,R,simprocAttr])
  all_goals clear R
 ·have q4:e=0:=by simpa using q3
  rw[if_pos q4];have hf2:=hf1 p';have R:=y6 @hT1 (y6 @hS4 (y6 @hst (y6 @hat (y6 @hv (y6 @hf2 (y6 @q3 (y6 @fX (y6 @fN (y6 @dj (y6 @bA (y6 @bq (y6 @dk aI))))))))))))
  repeat' ((first |(with_reducible refine .guard (fun hb =>?_) (fun hb =>?_) <;>try simp only[hb])|refine ae.aM (by decide +kernel) rfl fun K hK =>?_|refine .flat _ (hF0) rfl ?_|refine .flat _ (hKn) rfl ?_|refine .lead _ (hF) ?_|(refine .aD [0,1,2,3,4,5,6,7,8,9,10,11,12,13,14,15,16,39,43,67,72,81,90,95,103,114,127,145,154,166,171,187] hK ?_;clear hK K)|(with_reducible refine .done (hK _ ?_);clear hK K)|refine ae.of rfl ?_|(with_reducible refine aF.aL (fun h =>?_) (fun h =>?_) <;>try simp only[h])) <;>try simp only[aN,R,simprocAttr])
  all_goals clear R
theorem abv{p:aJ}{s:az}(h:cP p=some s):(iB p).1.length≤200∧(iB p).2=0:=by
 have:=zg h;simp only[iB,h,mF,zz8,HU,az.bx,and_true];exact this
theorem Iz(w:dL)(x:fC)(aw:gZ w)(hk:cL x.kind 10=4):bp Tryd.prog 11 [enc w,enc x] (.tuple [enc (dM w x).1,enc (dM w x).2]):=by
 refine bp.cw Tryd.func11 oq ou oy (t7 rfl) (fun hwf W0 D0 E1 =>?_);simp only[na,nE,bS,zz4];clear hwf;have aq:=aw.du;refine oN _ _ w x aq.len (fun q =>?_);obtain ⟨ps,rs,bs⟩:=w;simp only at aq;have hmod:=iU x.jz (m:=6) (by decide);have hm6:bD x<6:=by simp only[bD];omega
 have hi:bD x<ps.length:=by rw[aq.len];exact hm6
 have hl:=aq.len;have hF0:=j8 x.kind 10 (by decide) (by decide);rw[hk] at hF0;simp only[mb,hl];have hT1:=iP (fM 20 [] 3 0 6) (cO rs) (cO bs);have hS4:=kN (fM 20 [] 3 0 6) (cO rs) (cO bs);have hst:=lY (q:=q) hi;have hat:=kQ (q:=q) hi;have hv:=kV (n:=20) hm6;have hf0:=fun ts os=>iT (rs:=rs) (bs:=bs) (q:=q) hl ts os;have hf1:=fun (p:aJ) ts os=>iT (rs:=rs) (bs:=bs) (q:=q) (lW hl (bD x) p) ts os;have hA:dM ⟨ps,rs,bs⟩ x=if (iB (aB ps (bD x))).1=[] then (⟨ps,rs,bs⟩,true) else
  eN ⟨ps,rs,bs⟩ (bD x) (ot (aB ps (bD x)) ((iB (aB ps (bD x))).1.getD (cL x.no (iB (aB ps (bD x))).1.length).toNat default).no) rs bs:=by simp only[dM,hk];rfl
 have hR:=wS (aB ps (bD x));obtain ⟨l1,l2⟩:=abv (aq.val _ hm6);rw[l2] at hR;rw[hA];generalize (iB (aB ps (bD x))).1=l at *;have hn0:((0:Int) != 0)=false:=rfl;have hn1:((0:Int)==0)=true:=rfl;by_cases hl0:l=[]
 ·rw[if_pos hl0];have hc:((l.length:Int)==0)=true:=by rw[hl0];rfl
  have R:=y6 @hT1 (y6 @hS4 (y6 @hst (y6 @hat (y6 @hv (y6 @hf0 (y6 @hn0 (y6 @hn1 (y6 @hc (y6 @fX (y6 @fN (y6 @dj (y6 @bA (y6 @bq (y6 @dk aI))))))))))))))
  repeat' ((first |(with_reducible refine .guard (fun hb =>?_) (fun hb =>?_) <;>try simp only[hb])|refine ae.aM (by decide +kernel) rfl fun K hK =>?_|refine .flat _ (hF0) rfl ?_|refine .lead _ (hR) ?_|(refine .aD [0,1,2,3,4,5,6,7,8,9,10,11,12,13,14,15,16,39,43,67,72,81,90,95,103,114,127,145,154,166,171,187] hK ?_;clear hK K)|(with_reducible refine .done (hK _ ?_);clear hK K)|refine ae.of rfl ?_|(with_reducible refine aF.aL (fun h =>?_) (fun h =>?_) <;>try simp only[h])) <;>try simp only[aN,R,simprocAttr])
  all_goals clear R
 ·rw[if_neg hl0];have hlp:=List.length_pos_iff.2 hl0;have hc:((l.length:Int)==0)=false:=beq_eq_false_iff_ne.2 (by omega);have hi2:=iU x.no (m:=l.length) (by omega);have hF2:=j8 x.no l.length (by omega) (by omega);obtain ⟨i,hi3⟩:∃ i:Nat,cL x.no l.length=(i:Int):=⟨(cL x.no l.length).toNat,by omega⟩
  rw[hi3] at hF2 hi2;rw[hi3,Int.toNat_natCast];have hil:i<l.length:=by omega
  have he:=fun A=>fT (A:=A) 4 hil rfl;rw[show l.getD i default=l[i] by rw[zz2,zx3 hil];rfl];generalize l[i]=cY at *;have hF:=II (aB ps (bD x)) cY.no;simp only[eN];generalize ot (aB ps (bD x)) cY.no=r at *;obtain ⟨p',e⟩:=r;simp only at hF ⊢;have hKn:=oa e;rcases q3:(e==0)
  ·have q4:¬ e=0:=by simpa using q3
   rw[if_neg q4];have R:=y6 @hT1 (y6 @hS4 (y6 @hst (y6 @hat (y6 @hv (y6 @hf0 (y6 @hn0 (y6 @hn1 (y6 @hc (y6 @he (y6 @q3 (y6 @fX (y6 @fN (y6 @dj (y6 @bA (y6 @bq (y6 @dk aI))))))))))))))))
   repeat' ((first |(with_reducible refine .guard (fun hb =>?_) (fun hb =>?_) <;>try simp only[hb])|refine ae.aM (by decide +kernel) rfl fun K hK =>?_|refine .flat _ (hF0) rfl ?_|refine .flat _ (hF2) rfl ?_|refine .flat _ (hKn) rfl ?_|refine .lead _ (hR) ?_|refine .lead _ (hF) ?_|(refine .aD [0,1,2,3,4,5,6,7,8,9,10,11,12,13,14,15,16,39,43,67,72,81,90,95,103,114,127,145,154,166,171,187] hK ?_;clear hK K)|(with_reducible refine .done (hK _ ?_);clear hK K)|refine ae.of rfl ?_|(with_reducible refine aF.aL (fun h =>?_) (fun h =>?_) <;>try simp only[h])) <;>try simp only[aN,R,simprocAttr])
   all_goals clear R
  ·have q4:e=0:=by simpa using q3
   rw[if_pos q4];have hf2:=hf1 p';have R:=y6 @hT1 (y6 @hS4 (y6 @hst (y6 @hat (y6 @hv (y6 @hf2 (y6 @hn0 (y6 @hn1 (y6 @hc (y6 @he (y6 @q3 (y6 @fX (y6 @fN (y6 @dj (y6 @bA (y6 @bq (y6 @dk aI))))))))))))))))
   repeat' ((first |(with_reducible refine .guard (fun hb =>?_) (fun hb =>?_) <;>try simp only[hb])|refine ae.aM (by decide +kernel) rfl fun K hK =>?_|refine .flat _ (hF0) rfl ?_|refine .flat _ (hF2) rfl ?_|refine .flat _ (hKn) rfl ?_|refine .lead _ (hR) ?_|refine .lead _ (hF) ?_|(refine .aD [0,1,2,3,4,5,6,7,8,9,10,11,12,13,14,15,16,39,43,67,72,81,90,95,103,114,127,145,154,166,171,187] hK ?_;clear hK K)|(with_reducible refine .done (hK _ ?_);clear hK K)|refine ae.of rfl ?_|(with_reducible refine aF.aL (fun h =>?_) (fun h =>?_) <;>try simp only[h])) <;>try simp only[aN,R,simprocAttr])
   all_goals clear R
theorem IA(w:dL)(x:fC)(aw:gZ w)(hr1:w.rs.length≤1000000)(hk:7≤cL x.kind 10):bp Tryd.prog 11 [enc w,enc x] (.tuple [enc (dM w x).1,enc (dM w x).2]):=by
 refine bp.cw Tryd.func11 oq ou oy (t7 rfl) (fun hwf W0 D0 E1 =>?_);simp only[na,nE,bS,zz4];clear hwf;have aq:=aw.du;refine oN _ _ w x aq.len (fun q =>?_);obtain ⟨ps,rs,bs⟩:=w;simp only at aq;have hmod:=iU x.jz (m:=6) (by decide);have hm6:bD x<6:=by simp only[bD];omega
 have hi:bD x<ps.length:=by rw[aq.len];exact hm6
 have hl:=aq.len;have hF0:=j8 x.kind 10 (by decide) (by decide);simp only[mb,hl];have hT1:=iP (fM 20 [] 3 0 6) (cO rs) (cO bs);have hS4:=kN (fM 20 [] 3 0 6) (cO rs) (cO bs);have hst:=lY (q:=q) hi;have hat:=kQ (q:=q) hi;have hv:=kV (n:=20) hm6;have hf0:=fun ts os=>iT (rs:=rs) (bs:=bs) (q:=q) hl ts os;have hf1:=fun (p:aJ) ts os=>iT (rs:=rs) (bs:=bs) (q:=q) (lW hl (bD x) p) ts os;have e0:(cL x.kind 10==0)=false:=beq_eq_false_iff_ne.2 (by omega);have e1:(cL x.kind 10==1)=false:=beq_eq_false_iff_ne.2 (by omega);have e2:(cL x.kind 10==2)=false:=beq_eq_false_iff_ne.2 (by omega);have e3:(cL x.kind 10==3)=false:=beq_eq_false_iff_ne.2 (by omega);have e4:(cL x.kind 10==4)=false:=beq_eq_false_iff_ne.2 (by omega);have e5:(cL x.kind 10==5)=false:=beq_eq_false_iff_ne.2 (by omega);have e6:(cL x.kind 10==6)=false:=beq_eq_false_iff_ne.2 (by omega);have hA:dM ⟨ps,rs,bs⟩ x=if rs=[] then (⟨ps,rs,bs⟩,true) else
  eN ⟨ps,rs,bs⟩ (rs.getD (cL x.no rs.length).toNat default).to.toNat (fJ (aB ps (rs.getD (cL x.no rs.length).toNat default).to.toNat) (rs.getD (cL x.no rs.length).toNat default)) rs bs:=by
  simp only[dM];rw[if_neg (by omega),if_neg (by omega),if_neg (by omega),if_neg (by omega),if_neg (by omega),if_neg (by omega)]
 rw[hA];clear hA;generalize cL x.kind 10=k0 at *;by_cases hl0:rs=[]
 ·rw[if_pos hl0];have hc:((rs.length:Int)==0)=true:=by rw[hl0];rfl
  have R:=y6 @hT1 (y6 @hS4 (y6 @hst (y6 @hat (y6 @hv (y6 @hf0 (y6 @hc (y6 @e0 (y6 @e1 (y6 @e2 (y6 @e3 (y6 @e4 (y6 @e5 (y6 @e6 (y6 @fX (y6 @fN (y6 @dj (y6 @bA (y6 @bq (y6 @dk aI)))))))))))))))))))
  repeat' ((first |(with_reducible refine .guard (fun hb =>?_) (fun hb =>?_) <;>try simp only[hb])|refine ae.aM (by decide +kernel) rfl fun K hK =>?_|refine .flat _ (hF0) rfl ?_|(refine .aD [0,1,2,3,4,5,6,7,8,9,10,11,12,13,14,15,16,39,43,67,72,81,90,95,103,114,127,145,154,166,171,187] hK ?_;clear hK K)|(with_reducible refine .done (hK _ ?_);clear hK K)|refine ae.of rfl ?_|(with_reducible refine aF.aL (fun h =>?_) (fun h =>?_) <;>try simp only[h])) <;>try simp only[aN,R,simprocAttr])
  all_goals clear R
 ·rw[if_neg hl0];have hlp:=List.length_pos_iff.2 hl0;simp only at hr1;have hc:((rs.length:Int)==0)=false:=beq_eq_false_iff_ne.2 (by omega);have hi2:=iU x.no (m:=rs.length) (by omega);have hF2:=j8 x.no rs.length (by omega) (by omega);obtain ⟨i,hi3⟩:∃ i:Nat,cL x.no rs.length=(i:Int):=⟨(cL x.no rs.length).toNat,by omega⟩
  rw[hi3] at hF2 hi2;rw[hi3,Int.toNat_natCast];have hil:i<rs.length:=by omega
  have he:=fun A=>fT (A:=A) 5 hil rfl;have hrm:=aw.rV _ (zw9 hil);rw[show rs.getD i default=rs[i] by rw[zz2,zx3 hil];rfl];generalize rs[i]=r at *;obtain ⟨_,_,hto,_⟩:=pV hrm.ok;obtain ⟨m2,hm2⟩:∃ m2:Nat,r.to=(m2:Int):=⟨r.to.toNat,by omega⟩
  rw[hm2,Int.toNat_natCast];have hj:m2<6:=by omega
  have hst2:=lY (q:=q) (show m2<ps.length by omega);have hat2:=kQ (q:=q) (show m2<ps.length by omega);have hv2:=kV (n:=20) hj;have hf3:=fun (p:aJ) ts os=>iT (rs:=rs) (bs:=bs) (q:=q) (lW hl m2 p) ts os;have hF:=uo (aB ps m2) r;have hse:∀ A n b rest x y z v u,da A (some 5) n [] b (enc r) rest (some (.agg [.int .i64 x,.int .i64 y,.int .i64 z,.int .i64 v,.int .i64 u]))=aC rest (A.aZ n (.box (enc r))):=fun A n b rest x y z v u=>dU (eH _) (by rw[fH];rfl) (ff _);simp only[eN];generalize fJ (aB ps m2) r=rr at *;obtain ⟨p',e⟩:=rr;simp only at hF ⊢;have hKn:=oa e;rcases q3:(e==0)
  ·have q4:¬ e=0:=by simpa using q3
   rw[if_neg q4];have R:=y6 @hT1 (y6 @hS4 (y6 @hst (y6 @hat (y6 @hv (y6 @hst2 (y6 @hat2 (y6 @hv2 (y6 @hf0 (y6 @hc (y6 @he (y6 @hm2 (y6 @hse (y6 @e0 (y6 @e1 (y6 @e2 (y6 @e3 (y6 @e4 (y6 @e5 (y6 @e6 (y6 @q3 (y6 @fX (y6 @fN (y6 @dj (y6 @bA (y6 @bq (y6 @dk aI))))))))))))))))))))))))))
   repeat' ((first |(with_reducible refine .guard (fun hb =>?_) (fun hb =>?_) <;>try simp only[hb])|refine ae.aM (by decide +kernel) rfl fun K hK =>?_|refine .flat _ (hF0) rfl ?_|refine .flat _ (hF2) rfl ?_|refine .flat _ (hKn) rfl ?_|refine .lead _ (hF) ?_|(refine .aD [0,1,2,3,4,5,6,7,8,9,10,11,12,13,14,15,16,39,43,67,72,81,90,95,103,114,127,145,154,166,171,187] hK ?_;clear hK K)|(with_reducible refine .done (hK _ ?_);clear hK K)|refine ae.of rfl ?_|(with_reducible refine aF.aL (fun h =>?_) (fun h =>?_) <;>try simp only[h])) <;>try simp only[aN,R,simprocAttr])
   all_goals clear R
  ·have q4:e=0:=by simpa using q3
   rw[if_pos q4];have hf2:=hf3 p';have R:=y6 @hT1 (y6 @hS4 (y6 @hst (y6 @hat (y6 @hv (y6 @hst2 (y6 @hat2 (y6 @hv2 (y6 @hf2 (y6 @hc (y6 @he (y6 @hm2 (y6 @hse (y6 @e0 (y6 @e1 (y6 @e2 (y6 @e3 (y6 @e4 (y6 @e5 (y6 @e6 (y6 @q3 (y6 @fX (y6 @fN (y6 @dj (y6 @bA (y6 @bq (y6 @dk aI))))))))))))))))))))))))))
   repeat' ((first |(with_reducible refine .guard (fun hb =>?_) (fun hb =>?_) <;>try simp only[hb])|refine ae.aM (by decide +kernel) rfl fun K hK =>?_|refine .flat _ (hF0) rfl ?_|refine .flat _ (hF2) rfl ?_|refine .flat _ (hKn) rfl ?_|refine .lead _ (hF) ?_|(refine .aD [0,1,2,3,4,5,6,7,8,9,10,11,12,13,14,15,16,39,43,67,72,81,90,95,103,114,127,145,154,166,171,187] hK ?_;clear hK K)|(with_reducible refine .done (hK _ ?_);clear hK K)|refine ae.of rfl ?_|(with_reducible refine aF.aL (fun h =>?_) (fun h =>?_) <;>try simp only[h])) <;>try simp only[aN,R,simprocAttr])
   all_goals clear R
theorem vd{α:Type}[Enc α]{esz:Nat}{v:I}{os:List (Nat×ak)}{l:List α}{S:List Nat}(h:js esz v os l S):eZ v:=by
 rcases h with ⟨_,rfl⟩ | ⟨n,q,_,rfl,_⟩ <;>exact ⟨rfl,rfl,rfl,rfl⟩
theorem It(w:dL)(x:fC)(aw:gZ w)(hb1:w.bs.length≤1000000)(hk:cL x.kind 10=0):bp Tryd.prog 11 [enc w,enc x] (.tuple [enc (dM w x).1,enc (dM w x).2]):=by
 refine bp.cw Tryd.func11 oq ou oy (t7 rfl) (fun hwf W0 D0 E1 =>?_);simp only[na,nE,bS,zz4];clear hwf;have aq:=aw.du;refine oN _ _ w x aq.len (fun q =>?_);obtain ⟨ps,rs,bs⟩:=w;simp only at aq;have hmod:=iU x.jz (m:=6) (by decide);have hm6:bD x<6:=by simp only[bD];omega
 have hi:bD x<ps.length:=by rw[aq.len];exact hm6
 have hl:=aq.len;have hF0:=j8 x.kind 10 (by decide) (by decide);rw[hk] at hF0;simp only[mb,hl];have hT1:=iP (fM 20 [] 3 0 6) (cO rs) (cO bs);have hS4:=kN (fM 20 [] 3 0 6) (cO rs) (cO bs);have hst:=lY (q:=q) hi;have hat:=kQ (q:=q) hi;have hv:=kV (n:=20) hm6;have hf0:=fun ts os=>iT (rs:=rs) (bs:=bs) (q:=q) hl ts os;have hf1:=fun (p:aJ) ts os=>iT (rs:=rs) (bs:=bs) (q:=q) (lW hl (bD x) p) ts os;simp only at hb1;have hA:dM ⟨ps,rs,bs⟩ x=if eB x∈bs then (⟨ps,rs,bs⟩,true) else eN ⟨ps,rs,bs⟩ (bD x) (kT (aB ps (bD x)) (eB x)) rs (if (kT (aB ps (bD x)) (eB x)).2=0 then bs++[eB x] else bs):=by simp only[dM,hk];rfl
 have hH:=IG bs (eB x);have hF:=Ak (aB ps (bD x)) (eB x);rw[hA];rcases q1:decide (eB x∈bs)
 rotate_left
 ·rw[q1] at hH;rw[if_pos (of_decide_eq_true q1)];have R:=y6 @hT1 (y6 @hS4 (y6 @hst (y6 @hat (y6 @hv (y6 @hf0 (y6 @fX (y6 @fN (y6 @dj (y6 @bA (y6 @bq (y6 @dk aI)))))))))))
  repeat' ((first |(with_reducible refine .guard (fun hb =>?_) (fun hb =>?_) <;>try simp only[hb])|refine ae.aM (by decide +kernel) rfl fun K hK =>?_|refine .flat _ (hF0) rfl ?_|refine .flat _ (hH) rfl ?_|(refine .aD [0,1,2,3,4,5,6,7,8,9,10,11,12,13,14,15,16,39,43,67,72,81,90,95,103,114,127,145,154,166,171,187] hK ?_;clear hK K)|(with_reducible refine .done (hK _ ?_);clear hK K)|refine ae.of rfl ?_|(with_reducible refine aF.aL (fun h =>?_) (fun h =>?_) <;>try simp only[h])) <;>try simp only[aN,R,simprocAttr])
  all_goals clear R
 rw[q1] at hH;rw[if_neg (of_decide_eq_false q1)];simp only[eN];generalize kT (aB ps (bD x)) (eB x)=r at *;obtain ⟨p',e⟩:=r;simp only at hF ⊢;have hKn:=oa e;rcases q3:(e==0)
 ·have q4:¬ e=0:=by simpa using q3
  rw[if_neg q4,if_neg q4];have R:=y6 @hT1 (y6 @hS4 (y6 @hst (y6 @hat (y6 @hv (y6 @hf0 (y6 @q3 (y6 @fX (y6 @fN (y6 @dj (y6 @bA (y6 @bq (y6 @dk aI))))))))))))
  repeat' ((first |(with_reducible refine .guard (fun hb =>?_) (fun hb =>?_) <;>try simp only[hb])|refine ae.aM (by decide +kernel) rfl fun K hK =>?_|refine .flat _ (hF0) rfl ?_|refine .flat _ (hH) rfl ?_|refine .flat _ (hKn) rfl ?_|refine .lead _ (hF) ?_|(refine .aD [0,1,2,3,4,5,6,7,8,9,10,11,12,13,14,15,16,39,43,67,72,81,90,95,103,114,127,145,154,166,171,187] hK ?_;clear hK K)|(with_reducible refine .done (hK _ ?_);clear hK K)|refine ae.of rfl ?_|(with_reducible refine aF.aL (fun h =>?_) (fun h =>?_) <;>try simp only[h])) <;>try simp only[aN,R,simprocAttr])
  all_goals clear R
 have q4:e=0:=by simpa using q3
 rw[if_pos q4,if_pos q4];have hbs:gx 1 (some [.int .i64 (eB x)])=some (enc [eB x]):=lE 1 (eB x) rfl;have R:=y6 @hT1 (y6 @hS4 (y6 @hst (y6 @hat (y6 @hv (y6 @q3 (y6 @hbs (y6 @fX (y6 @fN (y6 @dj (y6 @bA (y6 @bq (y6 @dk aI))))))))))))
 repeat' ((first |(with_reducible refine .guard (fun hb =>?_) (fun hb =>?_) <;>try simp only[hb])|refine ae.aM (by decide +kernel) rfl fun K hK =>?_|refine .flat _ (hF0) rfl ?_|refine .flat _ (hH) rfl ?_|refine .lead _ (hF) ?_|(refine .aD [0,1,2,3,4,5,6,7,8,9,10,11,12,13,14,15,16,39,43,67,72,81,90,95,103,114,127,145,154,166,171,187] hK ?_;clear hK K)|(with_reducible refine .done (hK _ ?_);clear hK K)|refine ae.of rfl ?_|(with_reducible refine aF.aL (fun h =>?_) (fun h =>?_) <;>try simp only[h])) <;>try simp only[aN,R,simprocAttr])
 all_goals clear R
 refine aW.sM (0:Int) rfl (En _ []) rfl (by simp;omega) (by simp[maxLen];omega) fun v1 o1 g1 f1 =>?_;rw[zy5] at g1
 try simp only[hbs,bL,simprocAttr]
 refine aW.sM (0:Int) rfl g1 (f1 88 (by decide)) (by simp;omega) (by simp[maxLen];omega) fun v2 o2 g2 f2 =>?_;have ho2:aj o2 2=some (.box (db (.view 20 [] 3 0 6) (enc rs) (enc bs))):=(f2 2 (by decide)).trans (f1 2 (by decide));have ho4:aj o2 4=some (.box (.agg [.nils 3,.nils 5,.nils 1])):=(f2 4 (by decide)).trans (f1 4 (by decide));have ho9:aj o2 9=some (.box (enc p')):=(f2 9 (by decide)).trans (f1 9 (by decide));have ho20:aj o2 20=some (.box (fy ps q)):=(f2 20 (by decide)).trans (f1 20 (by decide));have hS2:=acH (v:=.view 20 [] 3 0 6) (r:=enc rs) (cO bs) (vd g2)
 try simp only[ho2,hT1,hS2,aI,bL,simprocAttr]
 refine .done (hK _ ?_);clear hK K;have hT2:=iP (fM 20 [] 3 0 6) (cO rs) (vd g2);have hS5:=kN (fM 20 [] 3 0 6) (cO rs) (vd g2);have hf2:∀ ts os,aj os 20=some (.box (fy (ps.set (bD x) p') q))→aj os 85=aj o2 85→aj os 88=aj o2 88→br true (au ts os) (db (.view 20 [] 3 0 6) (enc rs) v2)=some (enc (⟨ps.set (bD x) p',rs,bs++[eB x]⟩:dL)):=fun ts os U ab af =>
  sD (u5 (lW hl _ _).symm U) (by simp only[lJ]) (yi rfl g2 (by intro m hm;simp only[zw7,List.not_mem_nil,or_false] at hm;rcases hm with rfl | rfl;exact af;exact ab))
 have R:=y6 @ho2 (y6 @ho4 (y6 @ho9 (y6 @ho20 (y6 @hT2 (y6 @hS5 (y6 @hst (y6 @hat (y6 @hv (y6 @hf2 (y6 @q3 (y6 @fX (y6 @fN (y6 @dj (y6 @bA (y6 @bq (y6 @dk aI))))))))))))))))
 repeat' ((first |(with_reducible refine .guard (fun hb =>?_) (fun hb =>?_) <;>try simp only[hb])|refine ae.aM (by decide +kernel) rfl fun K hK =>?_|refine .flat _ (hKn) rfl ?_|(refine .aD [0,1,2,3,4,5,6,7,8,9,10,11,12,13,14,15,16,39,43,67,72,81,90,95,103,114,127,145,154,166,171,187] hK ?_;clear hK K)|(with_reducible refine .done (hK _ ?_);clear hK K)|refine ae.of rfl ?_|(with_reducible refine aF.aL (fun h =>?_) (fun h =>?_) <;>try simp only[h])) <;>try simp only[aN,R,simprocAttr])
 all_goals clear R
def eM(p:aJ)(m:Int)(k:Nat):List ca:=(List.range k).flatMap fun j:Nat=>if (j:Int)=m then [] else (gF p j).1
theorem tv(p:aJ)(m:Int)(k:Nat):eM p m (k+1)=eM p m k++if (k:Int)=m then [] else (gF p k).1:=by simp[eM,List.range_succ]
theorem vN(p:aJ)(m:Int):eM p m 6=mA p m:=rfl
theorem tw(p:aJ)(k:Int):(gF p k).1.length≤400:=by
 simp only[gF];split
 ·simp
 ·rename_i s ho;split
  ·simp
  ·obtain ⟨_,_,s2,hr,_,hl⟩:=x2 ho;rw[hr];have:=Hx s2 k;simp only;omega
def pw(v:I)(ov:List (Nat×ak))(R:List ca):Prop:=(v=enc R∧ov=[])∨(v=.c0 5∧R=[]∧ov=[])∨∃ q:List ca,v=.view 904 [] 5 0 R.length∧ov=[(904,.box (.agg ((R++q).map enc)))]
def l8(ps:List aJ)(bs:List Int)(q m:Nat)(p:aJ)(k:Nat)(v:I)(ov:List (Nat×ak)):ai :=
 au [(2,.ptr 2 []),(4,.ptr 4 []),(5,.bool false),(6,.int .i64 m),(9,.ptr 9 []),(10,.int .i64 0),(13,.int .i64 k)]
  ([(2,.box (db (.view 20 [] 3 0 6) v (enc bs))),(20,.box (fy ps q)),(4,.box (.agg [.nils 3,.nils 5,.nils 1])),(9,.box (enc p))]++ov)
theorem Ii(ρ:Nat→Nat)(v r b:I):(db v r b).bd ρ=db (v.bd ρ) (r.bd ρ) (b.bd ρ):=by simp[db,I.bd,I.dh]
theorem HD(ρ:Nat→Nat)(ps:List aJ)(q:Nat):(fy ps q).bd ρ=fy ps q:=by
 simp only[fy,I.bd,qd,zx2,List.map_map,List.map_replicate]
 congr 2
 exact List.map_congr_left fun x _=>kj ρ x
theorem aci{ps:List aJ}{bs:List Int}{q m k:Nat}{p:aJ}{v:I}{R:List ca}{ts:List (Nat×I)}{os:List (Nat×ak)}(hg:js 5 v os R [184,182])
  (t2:Abs.bC ts 2=.ptr 2 []) (t4:Abs.bC ts 4=.ptr 4 []) (t5:Abs.bC ts 5=.bool false) (t6:Abs.bC ts 6=.int .i64 m) (t9:Abs.bC ts 9=.ptr 9 []) (t10:Abs.bC ts 10=.int .i64 0) (t13:Abs.bC ts 13=.int .i64 k)
  (ab:aj os 2=some (.box (db (.view 20 [] 3 0 6) v (enc bs)))) (h20:aj os 20=some (.box (fy ps q))) (ar:aj os 4=some (.box (.agg [.nils 3,.nils 5,.nils 1]))) (h9:aj os 9=some (.box (enc p))) :
  ∃ v' ov',pw v' ov' R∧bn (au ts os) (l8 ps bs q m p k v' ov'):=by
 rcases hg with ⟨rfl,rfl⟩ | ⟨n,qq,hn,rfl,hb⟩
 ·refine ⟨.c0 5,[],.inr (.inl ⟨rfl,rfl,rfl⟩),?_⟩;simp only[l8,zy1];refine bn.cB ?_ ?_ ?_ ?_ <;>simp[bX,cA,b6,b8,av,ct,I.only,I.bQ,ak.only,b7,t2,t4,t5,t6,t9,t10,t13,ab,h20,ar,h9,gw,gG]
 ·refine ⟨.view 904 [] 5 0 R.length,[(904,.box (.agg ((R++qq).map enc)))],.inr (.inr ⟨qq,rfl,rfl⟩),?_⟩;have hs:bn (au ts os) (au [(2,.ptr 2 []),(4,.ptr 4 []),(5,.bool false),(6,.int .i64 m),(9,.ptr 9 []),(10,.int .i64 0),(13,.int .i64 k)]
    [(2,.box (db (.view 20 [] 3 0 6) (.view n [] 5 0 R.length) (enc bs))),(20,.box (fy ps q)),(4,.box (.agg [.nils 3,.nils 5,.nils 1])),(9,.box (enc p)),(n,.box (.agg ((R++qq).map enc)))]):=by
   simp only[zw7,List.not_mem_nil,or_false] at hn;rcases hn with rfl | rfl <;>refine bn.cB ?_ ?_ ?_ ?_ <;>simp[bX,cA,b6,b8,av,ct,I.only,I.bQ,ak.only,b7,t2,t4,t5,t6,t9,t10,t13,ab,h20,ar,h9,hb,gw,gG,gT,dZ]
  refine hs.trans ?_;have hr:=fun ρ=>HD ρ ps q;simp only[zw7,List.not_mem_nil,or_false] at hn;refine bn.Hn [(n,904)] (fun a b ha hb h =>?_) (fun a ha =>?_) ?_ (fun a y ha =>?_) ?_
  ·rcases hn with rfl | rfl
   all_goals
    simp only[av,aj] at ha hb
    (repeat' split at ha) <;>first | (cases ha;done) | skip
    all_goals (repeat' split at hb) <;>first | (cases hb;done) | (subst_vars;first | rfl | (simp[bB] at h;done))
  ·rcases hn with rfl | rfl
   all_goals
    simp only[av,aj] at ha
    (repeat' split at ha) <;>first | (cases ha;done) | (subst_vars;simp[bB])
  ·rcases hn with rfl | rfl
   all_goals simp[b6,av,ct,I.only]
  ·rcases hn with rfl | rfl
   all_goals
    simp only[aj] at ha
    (repeat' split at ha) <;>first | (cases ha;done) | (subst_vars;cases ha;simp[ak.only,gw,I.only,I.bQ,gG,b7,av,ct,gT,dZ])
  ·rcases hn with rfl | rfl
   all_goals
    simp only[zz7,zx8,dc,ak.bd,I.bd,I.dh,Ii,kj,hr,oS,bB];refine bn.cB ?_ ?_ ?_ ?_ <;>simp[bX,cA,b6,b8,av,b9,ct,I.only,I.bQ,ak.only,b7,gw,gG,gT,dZ]
theorem ab4{v:I}{ov:List (Nat×ak)}{R:List ca}(h:pw v ov R):eZ v:=by
 rcases h with ⟨rfl,_⟩ | ⟨rfl,_⟩ | ⟨q,rfl,_⟩
 ·exact cO R
 ·exact ⟨rfl,rfl,rfl,rfl⟩
 ·exact fM _ _ _ _ _
theorem ab2{v:I}{ov:List (Nat×ak)}{R:List ca}(h:pw v ov R)(ts:List (Nat×I))(os:List (Nat×ak))(hs:aj os 904=aj ov 904):br true (au ts os) v=some (enc R):=by
 rcases h with ⟨rfl,_⟩ | ⟨rfl,rfl,_⟩ | ⟨q,rfl,rfl⟩
 ·simp only[lJ]
 ·simp only[br];rfl
 ·exact yi (os:=os) (S:=[904]) rfl (.inr ⟨904,q,by simp,rfl,hs.trans (by simp[aj])⟩) fun _ _=>rfl
theorem ab1{v:I}{ov:List (Nat×ak)}{R:List ca}(h:pw v ov R)(ts:List (Nat×I))(os:List (Nat×ak))(d:Option Nat)(e bytes:Nat)(z:I)(rest:List aw)(hs:aj os 904=aj ov 904):fG (au ts os) d e 5 bytes z v rest (.c0 5)=fG (au ts os) d e 5 bytes z (enc R) rest (.c0 5):=by
 have key:eI (au ts os) 5 v=eI (au ts os) 5 (enc R):=by
  rcases h with ⟨rfl,_⟩ | ⟨rfl,rfl,_⟩ | ⟨q,rfl,rfl⟩
  ·rfl
  ·exact (mL (au ts os) 5 ([]:List ca) rfl).symm
  ·have ho:(au ts os).o 904=some (.box (.agg ((R++q).map enc))):=hs.trans (by simp[aj]);rw[tX ho (by simp),mL (au ts os) 5 R rfl,List.drop_zero,List.take_left]
 simp only[fG,key]
theorem ab3{v:I}{ov:List (Nat×ak)}{R:List ca}(h:pw v ov R):∀ n,n≠904→aj ov n=none:=by
 intro n hn;rcases h with ⟨_,rfl⟩ | ⟨_,_,rfl⟩ | ⟨q,_,rfl⟩
 ·rfl
 ·rfl
 ·simp[aj,hn]
theorem Yt{α:Type}[Enc α]{esz:Nat}{v:I}{os os':List (Nat×ak)}{l:List α}{S:List Nat}(h:js esz v os l S)(hs:∀ m∈S,aj os' m=aj os m):js esz v os' l S:=by
 rcases h with h | ⟨n,q,U,ab,af⟩
 ·exact .inl h
 ·exact .inr ⟨n,q,U,ab,(hs n U).trans af⟩
def zR:ca:=⟨0,0,0,0,0⟩
theorem acj{ps:List aJ}{rs:List ca}{bs:List Int}{q m k:Nat}{p:aJ}{v:I}{R:List ca}{ts:List (Nat×I)}{os:List (Nat×ak)}(hk:k<6)(hR:rs++eM p m (k+1)=R)(hg:js 5 v os R [184,182])
  (t2:Abs.bC ts 2=.ptr 2 []) (t4:Abs.bC ts 4=.ptr 4 []) (t5:Abs.bC ts 5=.bool false) (t6:Abs.bC ts 6=.int .i64 m) (t9:Abs.bC ts 9=.ptr 9 []) (t10:Abs.bC ts 10=.int .i64 0) (t13:Abs.bC ts 13=.int .i64 ((k+1:Nat):Int))
  (ab:aj os 2=some (.box (db (.view 20 [] 3 0 6) v (enc bs)))) (h20:aj os 20=some (.box (fy ps q))) (ar:aj os 4=some (.box (.agg [.nils 3,.nils 5,.nils 1]))) (h9:aj os 9=some (.box (enc p))) :
  ∃ s':Nat×I×List (Nat×ak),(s'.1≤6∧pw s'.2.1 s'.2.2 (rs++eM p m s'.1))∧6-s'.1<6-k∧bn (au ts os) (l8 ps bs q m p s'.1 s'.2.1 s'.2.2):=by
 obtain ⟨v',ov',hs,hsub⟩:=aci hg t2 t4 t5 t6 t9 t10 t13 ab h20 ar h9;exact ⟨(k+1,v',ov'),⟨by simp only;omega,by simp only;rw[hR];exact hs⟩,by simp only;omega,hsub⟩
theorem IB(w:dL)(x:fC)(aw:gZ w)(hr1:w.rs.length≤1000000)(hk:cL x.kind 10=6):bp Tryd.prog 11 [enc w,enc x] (.tuple [enc (dM w x).1,enc (dM w x).2]):=by
 refine bp.cw Tryd.func11 oq ou oy (t7 rfl) (fun hwf W0 D0 E1 =>?_);simp only[na,nE,bS,zz4];clear hwf;have aq:=aw.du;refine oN _ _ w x aq.len (fun q =>?_);obtain ⟨ps,rs,bs⟩:=w;simp only at aq;have hmod:=iU x.jz (m:=6) (by decide);have hm6:bD x<6:=by simp only[bD];omega
 have hi:bD x<ps.length:=by rw[aq.len];exact hm6
 have hl:=aq.len;have hF0:=j8 x.kind 10 (by decide) (by decide);rw[hk] at hF0;simp only[mb,hl];have hT1:=iP (fM 20 [] 3 0 6) (cO rs) (cO bs);have hS4:=kN (fM 20 [] 3 0 6) (cO rs) (cO bs);have hst:=lY (q:=q) hi;have hat:=kQ (q:=q) hi;have hv:=kV (n:=20) hm6;have hf0:=fun ts os=>iT (rs:=rs) (bs:=bs) (q:=q) hl ts os;have hf1:=fun (p:aJ) ts os=>iT (rs:=rs) (bs:=bs) (q:=q) (lW hl (bD x) p) ts os;simp only at hr1;have hA:dM ⟨ps,rs,bs⟩ x=eN ⟨ps,rs,bs⟩ (bD x) (eT (aB ps (bD x))) (rs++mA (eT (aB ps (bD x))).1 (bD x)) bs:=by simp only[dM,hk];rfl
 have hF:=r1 (aB ps (bD x));obtain ⟨kk,s1,s2,_⟩:=uR aq hm6;obtain ⟨I2,_,_⟩:=aq.jU hm6 s2;have hout:∀ k:Nat,k<6→(k:Int)≠bD x→(gF (eT (aB ps (bD x))).1 k).2=0:=fun k hk hne=>by
  have:=(uQ I2 hm6 (to:=k) (gz.2 (by omega)) hne).1
  rwa [oJ hi,if_pos rfl] at this
 rw[hA];simp only[eN,s1,if_true];rw[s1] at hF;clear s1 s2 I2 hA;generalize (eT (aB ps (bD x))).1=p' at *;have hKn:=oa 0;have e0:((0:Int)==0)=true:=rfl;have hA:sW 0=true:=rfl;rw[hA] at hKn ⊢;have R:=y6 @hT1 (y6 @hS4 (y6 @hst (y6 @hat (y6 @hv (y6 @fX (y6 @fN (y6 @dj (y6 @bA (y6 @bq (y6 @dk aI))))))))))
 repeat' ((first |(with_reducible refine .guard (fun hb =>?_) (fun hb =>?_) <;>try simp only[hb])|refine ae.aM (by decide +kernel) rfl fun K hK =>?_|refine .flat _ (hF0) rfl ?_|refine .lead _ (hF) ?_|(refine .aD [0,1,2,3,4,5,6,7,8,9,10,11,12,13,14,15,16,39,43,67,72,81,90,95,103,114,127,145,154,166,171,187] hK ?_;clear hK K)|(with_reducible refine .done (hK _ ?_);clear hK K)|refine ae.of rfl ?_|(with_reducible refine aF.aL (fun h =>?_) (fun h =>?_) <;>try simp only[h])) <;>try simp only[aN,R,simprocAttr])
 all_goals clear R
 refine ae.loop (fun t:Nat×I×List (Nat×ak)=>l8 ps bs q (bD x) p' t.1 t.2.1 t.2.2) (fun t=>t.1≤6∧pw t.2.1 t.2.2 (rs++eM p' (bD x) t.1)) (fun t=>6-t.1) (0,enc rs,[]) ⟨zw5 _,.inl ⟨by simp[eM],rfl⟩⟩ ?_ ?_
 ·simp only[l8,zy1];clear hT1 hS4 hst hat hf0 hf1;refine bn.cB ?_ ?_ ?_ ?_ <;>simp[*,bX,cA,b6,b8,av,b9,ct,I.only,I.bQ,ak.only,b7,gw,gG]
 rintro ⟨k,v,ov⟩ ⟨hk6,hsrc⟩;simp only at hk6 hsrc;have hone:=ab4 hsrc;have hTv:=iP (fM 20 [] 3 0 6) hone (cO bs);by_cases hlt:k<6
 ·have hlc:decide ((k:Int)<6)=true:=decide_eq_true (by omega);have hw:=fj (i:=k) (by omega);have hsn:=tv p' (bD x) k;rcases q5:((k:Int)==(bD x:Int))
  ·have q6:¬ (k:Int)=bD x:=by simpa using q5
   rw[if_neg q6] at hsn;have hO:=r2 p' k;rw[hout k hlt q6] at hO;have hol:=tw p' k;have hRl:(rs++eM p' (bD x) k).length≤1000000+400*k:=by
    have:∀ n,(eM p' (bD x) n).length≤400*n:=fun n=>by
     induction n with
     |zero=>simp[eM]
     |succ n ih =>
      rw[tv,zz6];split
      ·simp;omega
      ·have:=tw p' n;omega
    have:=this k;rw[zz6];omega
   have hsn2:rs++eM p' (bD x) (k+1)=(rs++eM p' (bD x) k)++(gF p' k).1:=by rw[hsn,zy4]
   generalize rs++eM p' (bD x) k=R at *;generalize (gF p' k).1=out at *;have happ:=fun ts os e bytes z rest=>ab1 hsrc ts os (some 182) e bytes z rest;have hov:=ab3 hsrc;simp only[l8,zz3,zy5];have R:=y6 @hlc (y6 @q5 (y6 @e0 (y6 @hTv (y6 @happ (y6 @fX (y6 @fN (y6 @dj (y6 @bA (y6 @bq (y6 @dk aI))))))))))
   repeat' ((first |(with_reducible refine .guard (fun hb =>?_) (fun hb =>?_) <;>try simp only[hb])|refine ae.aM (by decide +kernel) rfl fun K hK =>?_|refine .lead _ (hO) ?_|(refine .aD [0,1,2,3,4,5,6,7,8,9,10,11,12,13,14,15,16,39,43,67,72,81,90,95,103,114,127,145,154,166,171,187] hK ?_;clear hK K)|(with_reducible refine .done (hK _ ?_);clear hK K)|refine ae.of rfl ?_|(with_reducible refine aF.aL (fun h =>?_) (fun h =>?_) <;>try simp only[h])) <;>try simp only[aN,R,simprocAttr])
   all_goals clear R
   refine aW.sM (l:=[]) (ys:=R) zR rfl (En _ []) (by simp[ct,hov]) (by rw[List.length_nil];omega) (by simp only[maxLen,List.length_nil];omega) fun v1 o1 g1 f1 =>?_;rw[zy5] at g1
   try simp only[bL,simprocAttr]
   refine aW.sM zR rfl g1 ((f1 184 (by decide)).trans (by simp[ct,hov])) (by omega) (by simp only[maxLen];omega) fun v2 o2 g2 f2 =>?_;have ho2:aj o2 2=some (.box (db (.view 20 [] 3 0 6) v (enc bs))):=(f2 2 (by decide)).trans ((f1 2 (by decide)).trans (by simp[ct]));have ho4:aj o2 4=some (.box (.agg [.nils 3,.nils 5,.nils 1])):=(f2 4 (by decide)).trans ((f1 4 (by decide)).trans (by simp[ct]));have ho9:aj o2 9=some (.box (enc p')):=(f2 9 (by decide)).trans ((f1 9 (by decide)).trans (by simp[ct]));have ho20:aj o2 20=some (.box (fy ps q)):=(f2 20 (by decide)).trans ((f1 20 (by decide)).trans (by simp[ct]));have hS1:=acG (v:=.view 20 [] 3 0 6) (b:=enc bs) hone (vd g2)
   try simp only[ho2,hTv,hS1,aI,bL,simprocAttr]
   refine .done (hK _ ?_);clear hK K;have R:=y6 @hw (y6 @dj (y6 @bA (y6 @bq (y6 @dk aI))))
   repeat' ((first |(with_reducible refine .guard (fun hb =>?_) (fun hb =>?_) <;>try simp only[hb])|refine ae.aM (by decide +kernel) rfl fun K hK =>?_|(refine .aD [0,1,2,3,4,5,6,7,8,9,10,11,12,13,14,15,16,39,43,67,72,81,90,95,103,114,127,145,154,166,171,187] hK ?_;clear hK K)|(with_reducible refine .done (hK _ ?_);clear hK K)|refine ae.of rfl ?_|(with_reducible refine aF.aL (fun h =>?_) (fun h =>?_) <;>try simp only[h])) <;>try simp only[aN,R,simprocAttr])
   all_goals clear R
   refine acj (R:=R++out) hlt hsn2 (Yt g2 fun m hm =>?_) rfl rfl rfl rfl rfl rfl rfl ?_ ?_ ?_ ?_
   ·simp only[zw7,List.not_mem_nil,or_false] at hm;rcases hm with rfl | rfl <;>simp[ct]
   ·simp[ct]
   ·simp[ct,ho20]
   ·simp[ct,ho4]
   ·simp[ct,ho9]
  ·have q6:(k:Int)=bD x:=by simpa using q5
   rw[if_pos q6,zy1] at hsn;rw[←hsn] at hsrc;rcases hsrc with ⟨rfl,rfl⟩ | ⟨rfl,hR,rfl⟩ | ⟨qq,rfl,rfl⟩
   ·simp only[l8,zy1];have R:=y6 @hlc (y6 @q5 (y6 @e0 (y6 @hw (y6 @dj (y6 @bA (y6 @bq (y6 @dk aI)))))))
    repeat' ((first |(with_reducible refine .guard (fun hb =>?_) (fun hb =>?_) <;>try simp only[hb])|refine ae.aM (by decide +kernel) rfl fun K hK =>?_|(refine .aD [0,1,2,3,4,5,6,7,8,9,10,11,12,13,14,15,16,39,43,67,72,81,90,95,103,114,127,145,154,166,171,187] hK ?_;clear hK K)|(with_reducible refine .done (hK _ ?_);clear hK K)|refine ae.of rfl ?_|(with_reducible refine aF.aL (fun h =>?_) (fun h =>?_) <;>try simp only[h])) <;>try simp only[aN,R,simprocAttr])
    all_goals clear R
    refine ⟨(k+1,enc (rs++eM p' (bD x) (k+1)),[]),⟨by simp only;omega,.inl ⟨rfl,rfl⟩⟩,by simp only;omega,?_⟩;simp only[zy1];clear hTv hone hT1 hS4 hst hat hf0 hf1 hsn;refine bn.cB ?_ ?_ ?_ ?_ <;>simp[*,bX,cA,b6,b8,av,b9,ct,I.only,I.bQ,ak.only,b7,gw,gG]
   ·simp only[l8,zy1];have R:=y6 @hlc (y6 @q5 (y6 @e0 (y6 @hw (y6 @dj (y6 @bA (y6 @bq (y6 @dk aI)))))))
    repeat' ((first |(with_reducible refine .guard (fun hb =>?_) (fun hb =>?_) <;>try simp only[hb])|refine ae.aM (by decide +kernel) rfl fun K hK =>?_|(refine .aD [0,1,2,3,4,5,6,7,8,9,10,11,12,13,14,15,16,39,43,67,72,81,90,95,103,114,127,145,154,166,171,187] hK ?_;clear hK K)|(with_reducible refine .done (hK _ ?_);clear hK K)|refine ae.of rfl ?_|(with_reducible refine aF.aL (fun h =>?_) (fun h =>?_) <;>try simp only[h])) <;>try simp only[aN,R,simprocAttr])
    all_goals clear R
    refine ⟨(k+1,.c0 5,[]),⟨by simp only;omega,.inr (.inl ⟨rfl,hR,rfl⟩)⟩,by simp only;omega,?_⟩;simp only[zy1];clear hTv hone hT1 hS4 hst hat hf0 hf1 hsn hR;refine bn.cB ?_ ?_ ?_ ?_ <;>simp[*,bX,cA,b6,b8,av,b9,ct,I.only,I.bQ,ak.only,b7,gw,gG]
   ·simp only[l8,zz3,zy5];have R:=y6 @hlc (y6 @q5 (y6 @e0 (y6 @hw (y6 @dj (y6 @bA (y6 @bq (y6 @dk aI)))))))
    repeat' ((first |(with_reducible refine .guard (fun hb =>?_) (fun hb =>?_) <;>try simp only[hb])|refine ae.aM (by decide +kernel) rfl fun K hK =>?_|(refine .aD [0,1,2,3,4,5,6,7,8,9,10,11,12,13,14,15,16,39,43,67,72,81,90,95,103,114,127,145,154,166,171,187] hK ?_;clear hK K)|(with_reducible refine .done (hK _ ?_);clear hK K)|refine ae.of rfl ?_|(with_reducible refine aF.aL (fun h =>?_) (fun h =>?_) <;>try simp only[h])) <;>try simp only[aN,R,simprocAttr])
    all_goals clear R
    refine ⟨(k+1,.view 904 [] 5 0 (rs++eM p' (bD x) (k+1)).length,[(904,.box (.agg (((rs++eM p' (bD x) (k+1))++qq).map enc)))]),⟨by simp only;omega,.inr (.inr ⟨qq,rfl,rfl⟩)⟩,by simp only;omega,?_⟩;simp only[];generalize rs++eM p' (bD x) (k+1)=R;clear hTv hone hT1 hS4 hst hat hf0 hf1 hsn;refine bn.cB ?_ ?_ ?_ ?_ <;>simp[*,bX,cA,b6,b8,av,b9,ct,I.only,I.bQ,ak.only,dZ,gT,b7,gw,gG,gT,dZ]
 ·have hlc:decide ((k:Int)<6)=false:=decide_eq_false (by omega);have hge:k=6:=by omega
  rw[hge,vN] at hsrc;have hS5:=kN (fM 20 [] 3 0 6) hone (cO bs);have hf2:∀ ts os,aj os 20=some (.box (fy (ps.set (bD x) p') q))→aj os 904=aj ov 904→br true (au ts os) (db (.view 20 [] 3 0 6) v (enc bs))=some (enc (⟨ps.set (bD x) p',rs++mA p' (bD x),bs⟩:dL)):=fun ts os U ab =>
   sD (u5 (lW hl _ _).symm U) (ab2 hsrc ts os ab) (by simp only[lJ])
  simp only[l8,zz3,zy5];have R:=y6 @hlc (y6 @e0 (y6 @hTv (y6 @hS5 (y6 @hst (y6 @hat (y6 @hv (y6 @hf2 (y6 @fX (y6 @fN (y6 @dj (y6 @bA (y6 @bq (y6 @dk aI)))))))))))))
  repeat' ((first |(with_reducible refine .guard (fun hb =>?_) (fun hb =>?_) <;>try simp only[hb])|refine ae.aM (by decide +kernel) rfl fun K hK =>?_|refine .flat _ (hKn) rfl ?_|(refine .aD [0,1,2,3,4,5,6,7,8,9,10,11,12,13,14,15,16,39,43,67,72,81,90,95,103,114,127,145,154,166,171,187] hK ?_;clear hK K)|(with_reducible refine .done (hK _ ?_);clear hK K)|refine ae.of rfl ?_|(with_reducible refine aF.aL (fun h =>?_) (fun h =>?_) <;>try simp only[h])) <;>try simp only[aN,R,simprocAttr])
  all_goals clear R
theorem Is(w:dL)(x:fC)(aw:gZ w)(hr1:w.rs.length≤1000000)(hb1:w.bs.length≤1000000):bp Tryd.prog 11 [enc w,enc x] (.tuple [enc (dM w x).1,enc (dM w x).2]):=by
 have hm:=iU x.kind (m:=10) (by decide);by_cases bf:cL x.kind 10=0
 ·exact It w x aw hb1 bf
 by_cases U:cL x.kind 10=1
 ·exact Iu w x aw U
 by_cases ab:cL x.kind 10=2
 ·exact Iv w x aw ab
 by_cases af:cL x.kind 10=3
 ·exact Iw w x aw af
 by_cases ar:cL x.kind 10=4
 ·exact Iz w x aw ar
 by_cases h5:cL x.kind 10=5
 ·exact Iy w x aw h5
 by_cases h6:cL x.kind 10=6
 ·exact IB w x aw hr1 h6
 exact IA w x aw hr1 (by omega)
def j4(l:List fC)(n:Nat):dL:=(l.take n).foldl (fun w x=>(dM w x).1) eX
theorem F0{l:List fC}{n:Nat}(h:n<l.length):j4 l (n+1)=(dM (j4 l n) l[n]).1:=by
 simp only[j4,zy3 h,List.foldl_append,List.foldl_cons,List.foldl_nil]
theorem tz{m:Nat}(h:m<6):aB (gM 6) m=⟨(m:Int),[],0⟩:=by
 have hl:m<(gM 6).length:=by rw[py];exact h
 rw[←lP hl];simp[gM]
theorem Yq:gZ eX:=by
 have ho:∀ m,m<6→cP (aB (gM 6) m)=some (er m):=fun m hm=>by
  rw[tz hm,cP,if_pos (by simp only[iV,zz1,gz,decide_eq_true_eq,List.length_nil];omega)];rfl
 refine ⟨⟨py 6,fun m hm=>by show (aB (gM 6) m).aE=m;rw[tz hm],fun m hm =>?_,fun m hm e he =>?_⟩,fun b =>?_,fun r hr=>by cases hr⟩
 ·show cP (aB (gM 6) m)=some (aS (gM 6) m)
  simp only[aS,ho m hm,Option.getD_some]
 ·have he:e∈(aB (gM 6) m).j:=he;rw[tz hm] at he;cases he
 ·have:eG (gM 6) 1 b=0:=by
   rw[eG,oh (g:=fun _=>0) fun m hm=>by rw[tz hm];rfl,l9]
  show eG (gM 6) 1 b≤1∧(0<eG (gM 6) 1 b→b∈([]:List Int))
  rw[this];simp
theorem JH(w:dL)(x:fC):(dM w x).1.rs.length≤w.rs.length+2400∧(dM w x).1.bs.length≤w.bs.length+1:=by
 have ho:∀ p m,(mA p m).length≤2400:=fun p m=>by
  rw[←vN];have:∀ n,(eM p m n).length≤400*n:=fun n=>by
   induction n with
   |zero=>simp[eM]
   |succ n ih =>
    rw[tv,zz6];split
    ·simp;omega
    ·have:=tw p n;omega
  exact this 6
 simp only[dM]
 (repeat' split) <;>simp only[eN]
 all_goals (first | (simp;done) | (have:=ho (eT (aB w.ps (bD x))).1 (bD x);simp only[zz6];omega) | (split <;>simp) | simp)
structure Ju (w:dL) (n:Nat):Prop where
 gi:gZ w
 sB:fP w.ps≤n
 Hy:w.rs.length≤2400*n
 A6:w.bs.length≤n
theorem vT(l:List fC):∀ n,n≤l.length→Ju (j4 l n) n
 |0,_=>⟨Yq,by show fP (gM 6)≤0;rw[fP,oh (g:=fun _=>0) fun m hm=>by rw[tz hm];rfl,l9];exact zz9 _,zw5 _,zw5 _⟩
 |n+1,h=>by
  have ih:=vT l n (by omega);rw[F0 (show n<l.length by omega)];obtain ⟨_,ab,af⟩:=AJ ih.gi l[n];obtain ⟨ar,h5⟩:=JH (j4 l n) l[n];have h6:=ih.sB;have h7:=ih.Hy;have h8:=ih.A6;exact ⟨ab,by omega,by omega,by omega⟩
theorem gZ.one{w:dL}(aw:gZ w):uv w.ps:=fun b=>(aw.jC b).1
def og(l:List fC)(n:Nat)(w:dL)(ts:List (Nat×I))(i:Nat):ai :=
 au ([(0,enc l),(1,.int .i64 n),(4,.ptr 4 []),(5,.bool false),(6,.ptr 6 []),(7,.bool true),(8,.int .i64 i)]++ts) [(6,.box (enc w)),(4,.box (.agg [.nils 3,.nils 5,.nils 1]))]
theorem lZ(A:ai)(n:Nat)(b:I)(w:dL)(rest:List aw):da A (some 3) n [] b (enc w) rest (some (.agg [.nils 3,.nils 5,.nils 1]))=aC rest (A.aZ n (.box (enc w))) :=
 kN (cO w.ps) (cO w.rs) (cO w.bs) A n b rest
theorem o6(A:ai)(n:Nat)(b:I)(w v:dL)(rest:List aw):da A (some 3) n [] b (enc w) rest (some (enc v))=aC rest (A.aZ n (.box (enc w))):=dU (eH _) (by rw[fH];rfl) ((ff _).trans (ff _).symm)
theorem I1(l:List fC)(n:Nat)(hn:n≤60):bp Tryd.prog 5 [enc l,enc (n:Int)] (.tuple [enc (j4 l (min n l.length)),enc true]):=by
 refine bp.cw Tryd.func5 Ll Mg Nk (t7 rfl) (fun hwf W0 D0 E1 =>?_);simp only[nc,GL,bS,zz4];clear hwf;have R:=y6 @lZ (y6 @dj (y6 @bA (y6 @bq aI)))
 repeat' ((first |(with_reducible refine .guard (fun hb =>?_) (fun hb =>?_) <;>try simp only[hb])|refine ae.aM (by decide +kernel) rfl fun K hK =>?_|refine .lead _ (Ir) ?_|(refine .aD [0,1,4,5,6,7,8,9,25,38] hK ?_;clear hK K)|(with_reducible refine .done (hK _ ?_);clear hK K)|refine ae.of rfl ?_|(with_reducible refine aF.aL (fun h =>?_) (fun h =>?_) <;>try simp only[h])) <;>try simp only[aN,R,simprocAttr])
 all_goals clear R
 refine ae.loop (fun i:Nat=>og l n (j4 l i) [] i) (fun i=>i≤n∧i≤l.length) (fun i=>n-i) 0 ⟨zw5 _,zw5 _⟩ ?_ (fun i hi =>?_)
 ·simp only[og,zy1];rw[show j4 l 0=eX from rfl];refine bn.cB ?_ ?_ ?_ ?_ <;>simp[bX,cA,b6,b8,av,b9,ct,I.only,I.bQ,ak.only,b7]
 obtain ⟨hi1,hi2⟩:=hi;have P:=vT l i hi2;simp only[og,zy1];by_cases hlt:i<l.length
 rotate_left
 ·have hc:=hJ hlt;rw[show min n l.length=i by omega];generalize j4 l i=w at *;have R:=y6 @hc (y6 @lZ (y6 @dj (y6 @bA (y6 @bq aI))))
  repeat' ((first |(with_reducible refine .guard (fun hb =>?_) (fun hb =>?_) <;>try simp only[hb])|refine ae.aM (by decide +kernel) rfl fun K hK =>?_|(refine .aD [0,1,4,5,6,7,8,9,25,38] hK ?_;clear hK K)|(with_reducible refine .done (hK _ ?_);clear hK K)|refine ae.of rfl ?_|(with_reducible refine aF.aL (fun h =>?_) (fun h =>?_) <;>try simp only[h])) <;>try simp only[aN,R,simprocAttr])
  all_goals clear R
 have hc:=hX hlt;by_cases hlt2:i<n
 rotate_left
 ·have hc2:decide ((i:Int)<(n:Int))=false:=hJ hlt2;rw[show min n l.length=i by omega];generalize j4 l i=w at *;have R:=y6 @hc (y6 @hc2 (y6 @lZ (y6 @dj (y6 @bA (y6 @bq aI)))))
  repeat' ((first |(with_reducible refine .guard (fun hb =>?_) (fun hb =>?_) <;>try simp only[hb])|refine ae.aM (by decide +kernel) rfl fun K hK =>?_|(refine .aD [0,1,4,5,6,7,8,9,25,38] hK ?_;clear hK K)|(with_reducible refine .done (hK _ ?_);clear hK K)|refine ae.of rfl ?_|(with_reducible refine aF.aL (fun h =>?_) (fun h =>?_) <;>try simp only[h])) <;>try simp only[aN,R,simprocAttr])
  all_goals clear R
 have hc2:decide ((i:Int)<(n:Int))=true:=hX hlt2;have he:=fun A=>fT (A:=A) 5 hlt rfl;have hw:=fj (i:=i) (by omega);have p3:=P.Hy;have p4:=P.A6;have hF:=Is (j4 l i) l[i] P.gi (by omega) (by omega);rw[(AJ P.gi l[i]).1,←F0 hlt] at hF;have P2:=vT l (i+1) hlt;generalize l[i]=x at *;generalize j4 l i=w at *;obtain ⟨w2,hw2⟩:∃ w2,w2=j4 l (i+1):=⟨_,rfl⟩
 rw[←hw2] at hF P2;have R:=y6 @hc (y6 @hc2 (y6 @he (y6 @lZ (y6 @o6 (y6 @dj (y6 @bA (y6 @bq aI)))))))
 repeat' ((first |(with_reducible refine .guard (fun hb =>?_) (fun hb =>?_) <;>try simp only[hb])|refine ae.aM (by decide +kernel) rfl fun K hK =>?_|refine .lead _ (hF) ?_|(refine .aD [0,1,4,5,6,7,8,9,25,38] hK ?_;clear hK K)|(with_reducible refine .done (hK _ ?_);clear hK K)|refine ae.of rfl ?_|(with_reducible refine aF.aL (fun h =>?_) (fun h =>?_) <;>try simp only[h])) <;>try simp only[aN,R,simprocAttr])
 all_goals clear R
 refine ae.loop (fun b:Nat=>og l n w2 [(9,.int .i64 b)] i) (fun b=>1≤b∧b≤6) (fun b=>6-b) 1 ⟨zz9 _,by omega⟩ ?_ (fun b hb =>?_)
 ·simp only[og,zz3,zy5];clear hw2;refine bn.cB ?_ ?_ ?_ ?_ <;>simp[bX,cA,b6,b8,av,b9,ct,I.only,I.bQ,ak.only,b7]
 simp only[og,zz3,zy5];by_cases hb5:b≤5
 ·have hc3:decide ((b:Int)≤5)=true:=decide_eq_true (by omega);have hw3:=fj (i:=b) (by omega);have hO:=Ax w2 b P2.gi.du P2.gi.one (gz.2 (by omega));have R:=y6 @hc3 (y6 @hw3 (y6 @lZ (y6 @o6 (y6 @dj (y6 @bA (y6 @bq aI))))))
  repeat' ((first |(with_reducible refine .guard (fun hb =>?_) (fun hb =>?_) <;>try simp only[hb])|refine ae.aM (by decide +kernel) rfl fun K hK =>?_|refine .flat _ (hO) rfl ?_|(refine .aD [0,1,4,5,6,7,8,9,25,38] hK ?_;clear hK K)|(with_reducible refine .done (hK _ ?_);clear hK K)|refine ae.of rfl ?_|(with_reducible refine aF.aL (fun h =>?_) (fun h =>?_) <;>try simp only[h])) <;>try simp only[aN,R,simprocAttr])
  all_goals clear R
  refine ⟨b+1,by omega,by omega,?_⟩
  try simp only[og,zz3,zy5]
  clear hw2;refine bn.cB ?_ ?_ ?_ ?_ <;>simp[bX,cA,b6,b8,av,b9,ct,I.only,I.bQ,ak.only,b7]
 ·have hc3:decide ((b:Int)≤5)=false:=decide_eq_false (by omega);have R:=y6 @hc3 (y6 @hw (y6 @lZ (y6 @o6 (y6 @dj (y6 @bA (y6 @bq aI))))))
  repeat' ((first |(with_reducible refine .guard (fun hb =>?_) (fun hb =>?_) <;>try simp only[hb])|refine ae.aM (by decide +kernel) rfl fun K hK =>?_|(refine .aD [0,1,4,5,6,7,8,9,25,38] hK ?_;clear hK K)|(with_reducible refine .done (hK _ ?_);clear hK K)|refine ae.of rfl ?_|(with_reducible refine aF.aL (fun h =>?_) (fun h =>?_) <;>try simp only[h])) <;>try simp only[aN,R,simprocAttr])
  all_goals clear R
  refine ⟨i+1,by omega,by omega,?_⟩
  try simp only[og,zy1]
  rw[←hw2];clear hw2;refine bn.cB ?_ ?_ ?_ ?_ <;>simp[bX,cA,b6,b8,av,b9,ct,I.only,I.bQ,ak.only,b7]
theorem bn.ZB{ts:List (Nat×I)}{os:List (Nat×ak)}(d z:Nat)(ah:Abs.bC ts d=.nils z):bn (au ts os) (au ((d,.c0 z)::ts) os):=by
 rintro c a w ⟨D,E,hs⟩;refine ⟨D,E,hs.sz,hs.eC,fun t =>?_,hs.dK,hs.c6,hs.aK,hs.bP,hs.cQ,hs.dR,hs.eL,hs.cT,hs.eY,hs.fA⟩;have ht:=hs.dO t;simp only[au,Abs.bC] at ht ⊢;split
 ·rename_i e;subst e;rw[ah] at ht;obtain ⟨cs,U,ab⟩:=ht;simp only[ao] at ab;exact ⟨cs,by simpa[bI,I.isAgg] using U,by simp only[ao];exact ⟨none,ab⟩⟩
 ·exact ht
def qH(v:I)(ov:List (Nat×ak))(R:List ca):Prop:=(v=.c0 5∧R=[]∧ov=[])∨∃ q:List ca,v=.view 904 [] 5 0 R.length∧ov=[(904,.box (.agg ((R++q).map enc)))]
theorem ab0{v:I}{ov os:List (Nat×ak)}{R:List ca}(h:qH v ov R)(hs:aj os 904=aj ov 904):js 5 v os R [904]:=by
 rcases h with ⟨rfl,rfl,_⟩ | ⟨q,rfl,rfl⟩
 ·exact .inl ⟨rfl,rfl⟩
 ·exact .inr ⟨904,q,by simp,rfl,hs.trans (by simp[aj])⟩
theorem HV{v:I}{ov:List (Nat×ak)}{R:List ca}(h:qH v ov R):∀ n,n≠904→aj ov n=none:=by
 intro n hn;rcases h with ⟨_,_,rfl⟩ | ⟨q,_,rfl⟩
 ·rfl
 ·simp[aj,hn]
def iX(ps:List aJ)(rs:List ca)(bs:List Int)(q i:Nat)(t0:List (Nat×I))(o0:List (Nat×ak))(v:I)(ov:List (Nat×ak)):ai :=
 au ([(1,.ptr 1 []),(2,.ptr 2 []),(3,.bool false),(4,v),(22,.int .i64 6),(23,.int .i64 i)]++t0)
  ([(1,.box (db (.view 18 [] 3 0 6) (enc rs) (enc bs))),(18,.box (fy ps q)),(2,.box (.agg [.nils 3,.nils 5,.nils 1]))]++(o0++ov))
theorem ack{ps:List aJ}{rs:List ca}{bs:List Int}{q i k:Nat}{p:aJ}{v:I}{R:List ca}{ts:List (Nat×I)}{os:List (Nat×ak)}(hg:js 5 v os R [61,904])
  (t1:Abs.bC ts 1=.ptr 1 []) (t2:Abs.bC ts 2=.ptr 2 []) (t3:Abs.bC ts 3=.bool false) (t4:Abs.bC ts 4=v) (t5:Abs.bC ts 5=.int .i64 i) (t6:Abs.bC ts 6=.ptr 6 []) (t8:Abs.bC ts 8=.int .i64 k) (t22:Abs.bC ts 22=.int .i64 6) (t23:Abs.bC ts 23=.int .i64 i)
  (U:aj os 1=some (.box (db (.view 18 [] 3 0 6) (enc rs) (enc bs)))) (h18:aj os 18=some (.box (fy ps q))) (ab:aj os 2=some (.box (.agg [.nils 3,.nils 5,.nils 1]))) (h6:aj os 6=some (.box (enc p))) :
  ∃ v' ov',qH v' ov' R∧bn (au ts os) (iX ps rs bs q i [(5,.int .i64 i),(6,.ptr 6 []),(8,.int .i64 k)] [(6,.box (enc p))] v' ov'):=by
 rcases hg with ⟨rfl,rfl⟩ | ⟨n,qq,hn,rfl,hb⟩
 ·refine ⟨.c0 5,[],.inl ⟨rfl,rfl,rfl⟩,?_⟩;simp only[iX,zy1,zz3,zy5];refine bn.cB ?_ ?_ ?_ ?_ <;>simp[bX,cA,b6,b8,av,ct,I.only,I.bQ,ak.only,b7,t1,t2,t3,t4,t5,t6,t8,t22,t23,U,ab,h18,h6,gw,gG]
 ·refine ⟨.view 904 [] 5 0 R.length,[(904,.box (.agg ((R++qq).map enc)))],.inr ⟨qq,rfl,rfl⟩,?_⟩;have hs:bn (au ts os) (au [(1,.ptr 1 []),(2,.ptr 2 []),(3,.bool false),(4,.view n [] 5 0 R.length),(22,.int .i64 6),(23,.int .i64 i),(5,.int .i64 i),(6,.ptr 6 []),(8,.int .i64 k)]
    [(1,.box (db (.view 18 [] 3 0 6) (enc rs) (enc bs))),(18,.box (fy ps q)),(2,.box (.agg [.nils 3,.nils 5,.nils 1])),(6,.box (enc p)),(n,.box (.agg ((R++qq).map enc)))]):=by
   simp only[zw7,List.not_mem_nil,or_false] at hn;rcases hn with rfl | rfl <;>refine bn.cB ?_ ?_ ?_ ?_ <;>simp[bX,cA,b6,b8,av,ct,I.only,I.bQ,ak.only,b7,t1,t2,t3,t4,t5,t6,t8,t22,t23,U,ab,h18,h6,hb,gw,gG,gT,dZ]
  refine hs.trans ?_;have hr:=fun ρ=>HD ρ ps q;simp only[zw7,List.not_mem_nil,or_false] at hn;refine bn.Hn [(n,904)] (fun a b ha hb h =>?_) (fun a ha =>?_) ?_ (fun a y ha =>?_) ?_
  ·rcases hn with rfl | rfl
   all_goals
    simp only[av,aj] at ha hb
    (repeat' split at ha) <;>first | (cases ha;done) | skip
    all_goals (repeat' split at hb) <;>first | (cases hb;done) | (subst_vars;first | rfl | (simp[bB] at h;done))
  ·rcases hn with rfl | rfl
   all_goals
    simp only[av,aj] at ha
    (repeat' split at ha) <;>first | (cases ha;done) | (subst_vars;simp[bB])
  ·rcases hn with rfl | rfl
   all_goals simp[b6,av,ct,I.only]
  ·rcases hn with rfl | rfl
   all_goals
    simp only[aj] at ha
    (repeat' split at ha) <;>first | (cases ha;done) | (subst_vars;cases ha;simp[ak.only,gw,I.only,I.bQ,gG,b7,av,ct,gT,dZ])
  ·rcases hn with rfl | rfl
   all_goals
    simp only[zz7,zx8,dc,ak.bd,I.bd,I.dh,Ii,kj,hr,oS,bB];refine bn.cB ?_ ?_ ?_ ?_ <;>simp[bX,cA,b6,b8,av,b9,ct,I.only,I.bQ,ak.only,b7,gw,gG,gT,dZ]
theorem acm{ps:List aJ}{rs R0:List ca}{bs:List Int}{q i k:Nat}{p:aJ}{v:I}{R:List ca}{ts:List (Nat×I)}{os:List (Nat×ak)}(hk:k<6)(hR:R0++eM p i (k+1)=R)(hg:js 5 v os R [61,904])
  (t1:Abs.bC ts 1=.ptr 1 []) (t2:Abs.bC ts 2=.ptr 2 []) (t3:Abs.bC ts 3=.bool false) (t4:Abs.bC ts 4=v) (t5:Abs.bC ts 5=.int .i64 i) (t6:Abs.bC ts 6=.ptr 6 []) (t8:Abs.bC ts 8=.int .i64 ((k+1:Nat):Int)) (t22:Abs.bC ts 22=.int .i64 6) (t23:Abs.bC ts 23=.int .i64 i)
  (U:aj os 1=some (.box (db (.view 18 [] 3 0 6) (enc rs) (enc bs)))) (h18:aj os 18=some (.box (fy ps q))) (ab:aj os 2=some (.box (.agg [.nils 3,.nils 5,.nils 1]))) (h6:aj os 6=some (.box (enc p))) :
  ∃ s':Nat×I×List (Nat×ak),(s'.1≤6∧qH s'.2.1 s'.2.2 (R0++eM p i s'.1))∧6-s'.1<6-k∧bn (au ts os) (iX ps rs bs q i [(5,.int .i64 i),(6,.ptr 6 []),(8,.int .i64 s'.1)] [(6,.box (enc p))] s'.2.1 s'.2.2):=by
 obtain ⟨v',ov',hs,hsub⟩:=ack (k:=k+1) hg t1 t2 t3 t4 t5 t6 t8 t22 t23 U h18 ab h6;exact ⟨(k+1,v',ov'),⟨by simp only;omega,by simp only;rw[hR];exact hs⟩,by simp only;omega,hsub⟩
theorem zj(p:aJ)(m:Int):∀ n,(eM p m n).length≤400*n
 |0=>by simp[eM]
 |n+1=>by
  rw[tv,zz6];have ih:=zj p m n;split
  ·simp;omega
  ·have:=tw p n;omega
theorem zk(ps:List aJ):∀ n,(gE ps n).length≤2400*n
 |0=>by simp[gE]
 |n+1=>by
  rw[FU,zz6];have:=zk ps n;have ab:(mA (eT (aB ps n)).1 n).length≤2400:=by
   rw[←vN];exact zj _ _ 6
  omega
theorem acn{ps:List aJ}(aY:eU ps){n:Nat}(h:n<6):aB (h0 ps n) n=aB ps n:=by
 have:=(lB aY n (by omega)).AX n h
 rwa [if_neg (by omega)] at this
def pt(ps:List aJ)(rs:List ca)(bs:List Int)(q:Nat)(out:List ca)(j:Nat):ai :=
 au [(1,.ptr 1 []),(2,.ptr 2 []),(3,.bool false),(63,enc out),(64,.int .i64 out.length),(65,.int .i64 j)]
  [(1,.box (db (.view 18 [] 3 0 6) (enc rs) (enc bs))),(18,.box (fy ps q)),(2,.box (.agg [.nils 3,.nils 5,.nils 1]))]
theorem Yx{ps:List aJ}{l:List ca}{j:Nat}(h:j<l.length):iK ps (l.take (j+1))=gQ (iK ps (l.take j)) l[j]:=by
 simp only[iK,zy3 h,List.foldl_append,List.foldl_cons,List.foldl_nil]
theorem Yw{W0:World}{D0:aX}{own E0:_}(w:dL)(q:Nat)(ps1:List aJ)(out:List ca)(F1:eU ps1)(hT:∀ r∈out,kP r (e9 ps1))(hol:out.length≤1000000) :
  ae { P:=Tryd.prog,eX:=W0,D0:=D0,n:=Tryd.f7.ntmps,own:=own,E0:=E0,Y:=dq,ly:=none }
   (.loop (.seq (.cj none DZ) (.seq (.cond (.t 66) .skip (.exit 4)) (.seq (.block 5 (.seq (.cj none D5) (.seq (.cj CN D6) (.seq (.seq (.cj none D7) (.cond (.t 81) (.seq (.cj none D8) .ret) .skip)) (.cj none D9))))) (.cj none Ea)))))
   (jT 4 (ee (fun B=>ae { P:=Tryd.prog,eX:=W0,D0:=D0,n:=Tryd.f7.ntmps,own:=own,E0:=E0,Y:=dq,ly:=none } (.seq (.cj none Eb) .ret) (kE [bR.cell 2 (some 3),bR.tmp 3] (.tuple [db (enc (iK ps1 out)) (enc w.rs) (enc w.bs),.bool true])) B) (kE [bR.cell 2 (some 3),bR.tmp 3] (.tuple [db (enc (iK ps1 out)) (enc w.rs) (enc w.bs),.bool true])))) (pt ps1 w.rs w.bs q out 0):=by
 obtain ⟨ps0,rs,bs⟩:=w;have hT1:=iP (fM 18 [] 3 0 6) (cO rs) (cO bs);have hS4:=kN (fM 18 [] 3 0 6) (cO rs) (cO bs);have hn0:((0:Int) != 0)=false:=rfl;have hF:∀ j,j≤out.length→eU (iK ps1 (out.take j))∧e9 (iK ps1 (out.take j))=e9 ps1:=fun j hj=>by
  obtain ⟨U,ab,_⟩:=sN (out.take j) F1 fun r hr=>hT r (List.mem_of_mem_take hr);exact ⟨U,ab.cv⟩
 refine ae.loop (fun j:Nat=>pt (iK ps1 (out.take j)) rs bs q out j) (fun j=>j≤out.length) (fun j=>out.length-j) 0 (zw5 _) ?_ (fun j hj =>?_)
 ·exact bn.refl _
 obtain ⟨aY,hfm⟩:=hF j hj;have hl:=aY.du.len;by_cases hlt:j<out.length
 ·have hc:=hX hlt;have he:=fun A=>fT (A:=A) 5 hlt rfl;have hw:=fj (i:=j) (by omega);have hr1:=hT _ (zw9 hlt);have hnx:=Yx (ps:=ps1) hlt;generalize out[j]=r at *;generalize iK ps1 (out.take j)=v at *;obtain ⟨z,_⟩:=yj aY (r:=r) (by rw[hfm];exact hr1);obtain ⟨_,_,hto,_⟩:=pV hr1.ok;obtain ⟨m2,hm2⟩:∃ m2:Nat,r.to=(m2:Int):=⟨r.to.toNat,by omega⟩
  rw[gQ] at hnx;rw[hm2,Int.toNat_natCast] at z hnx;have hm6:m2<6:=by omega
  have hst:=lY (q:=q) (show m2<v.length by omega);have hat:=kQ (q:=q) (show m2<v.length by omega);have hv:=kV (n:=18) hm6;have hH:=uo (aB v m2) r;rw[z] at hH;generalize (fJ (aB v m2) r).1=p' at *;have hse:∀ A n b rest x y z v u,da A (some 5) n [] b (enc r) rest (some (.agg [.int .i64 x,.int .i64 y,.int .i64 z,.int .i64 v,.int .i64 u]))=aC rest (A.aZ n (.box (enc r))):=fun A n b rest x y z v u=>dU (eH _) (by rw[fH];rfl) (ff _);simp only[pt];have R:=y6 @hc (y6 @he (y6 @hw (y6 @hm2 (y6 @hse (y6 @hn0 (y6 @hT1 (y6 @hst (y6 @hat (y6 @hv (y6 @fX (y6 @fN (y6 @dj (y6 @bA (y6 @bq (y6 @dk aI)))))))))))))))
  repeat' ((first |(with_reducible refine .guard (fun hb =>?_) (fun hb =>?_) <;>try simp only[hb])|refine ae.aM (by decide +kernel) rfl fun K hK =>?_|refine .lead _ (hH) ?_|(refine .aD [0,1,2,3,4,5,6,7,8,9,10,12,13,14,22,23,24,36,44,49,57,63,64,65,66,81] hK ?_;clear hK K)|(with_reducible refine .done (hK _ ?_);clear hK K)|refine ae.of rfl ?_|(with_reducible refine aF.aL (fun h =>?_) (fun h =>?_) <;>try simp only[h])) <;>try simp only[aN,R,simprocAttr])
  all_goals clear R
  refine ⟨j+1,by omega,by omega,?_⟩
  try simp only[pt]
  rw[hnx];clear hnx hT1 hS4 hst hat hT hF aY hfm hH z;refine bn.cB ?_ ?_ ?_ ?_ <;>simp[*,bX,cA,b6,b8,av,b9,ct,I.only,I.bQ,ak.only,b7,gw,gG]
 ·have hc:=hJ hlt;have hge:j=out.length:=by omega
  subst hge;rw[zv3] at *;have hf2:∀ ts os,aj os 18=some (.box (fy (iK ps1 out) q))→br true (au ts os) (db (.view 18 [] 3 0 6) (enc rs) (enc bs))=some (db (enc (iK ps1 out)) (enc rs) (enc bs)):=fun ts os h =>
   sD (u5 hl.symm h) (by simp only[lJ]) (by simp only[lJ])
  simp only[pt];have R:=y6 @hc (y6 @hT1 (y6 @hS4 (y6 @hf2 (y6 @fX (y6 @fN (y6 @dj (y6 @bA (y6 @bq (y6 @dk aI)))))))))
  repeat' ((first |(with_reducible refine .guard (fun hb =>?_) (fun hb =>?_) <;>try simp only[hb])|refine ae.aM (by decide +kernel) rfl fun K hK =>?_|(refine .aD [0,1,2,3,4,5,6,7,8,9,10,12,13,14,22,23,24,36,44,49,57,63,64,65,66,81] hK ?_;clear hK K)|(with_reducible refine .done (hK _ ?_);clear hK K)|refine ae.of rfl ?_|(with_reducible refine aF.aL (fun h =>?_) (fun h =>?_) <;>try simp only[h])) <;>try simp only[aN,R,simprocAttr])
  all_goals clear R
theorem Y8:(∀ A n,jZ A (.c0 n)=some (.int .i64 0)):=fun _ _=>rfl
theorem Jn(w:dL)(aY:eU w.ps):bp Tryd.prog 7 [enc w] (.tuple [enc (⟨ij w.ps,w.rs,w.bs⟩:dL),enc true]):=by
 refine bp.cw Tryd.func7 Lv Mr ND (t7 rfl) (fun hwf W0 D0 E1 =>?_);simp only[BV,G3,bS];clear hwf;obtain ⟨ps,rs,bs⟩:=w;simp only at aY ⊢;have hl:=aY.du.len;have hne:ps≠[]:=fun e=>by rw[e] at hl;cases hl
 have hT0:=iP (cO ps) (cO rs) (cO bs);have hT1:=iP (fM 18 [] 3 0 6) (cO rs) (cO bs);have hS0:=Ag (r:=enc rs) (b:=enc bs) (cO ps) (fM 18 [] 3 0 ps.length);have hn0:((0:Int) != 0)=false:=rfl;rw[hl] at hS0;simp only[uV];have R:=y6 @hl (y6 @hT0 (y6 @hT1 (y6 @hS0 (y6 @dj (y6 @bA (y6 @bq (y6 @dk aI)))))))
 repeat' ((first |(with_reducible refine .guard (fun hb =>?_) (fun hb =>?_) <;>try simp only[hb])|refine ae.aM (by decide +kernel) rfl fun K hK =>?_|refine aW.my hne rfl (by omega) (fun q =>?_)|(refine .aD [0,1,2,3,4,5,6,7,8,9,10,12,13,14,22,23,24,36,44,49,57,63,64,65,66,81] hK ?_;clear hK K)|(with_reducible refine .done (hK _ ?_);clear hK K)|refine ae.of rfl ?_|(with_reducible refine aF.aL (fun h =>?_) (fun h =>?_) <;>try simp only[h])) <;>try simp only[aN,R,simprocAttr])
 all_goals clear R
 refine ae.sub (bn.ZB 4 5 rfl) ?_;refine ae.loop (fun t:Nat×I×List (Nat×ak)=>iX (h0 ps t.1) rs bs q t.1 [] [] t.2.1 t.2.2) (fun t=>t.1≤6∧qH t.2.1 t.2.2 (gE ps t.1)) (fun t=>6-t.1) (0,.c0 5,[]) ⟨zw5 _,.inl ⟨rfl,rfl,rfl⟩⟩ ?_ ?_
 ·simp only[iX,zy1];rw[show h0 ps 0=ps from rfl];clear hT0 hT1 hS0;refine bn.cB ?_ ?_ ?_ ?_ <;>simp[bX,cA,b6,b8,av,b9,ct,I.only,I.bQ,ak.only,b7,gw,gG]
 rintro ⟨i,v,ov⟩ ⟨hi,hsrc⟩;simp only at hi hsrc;have hn:=HV hsrc;by_cases hlt:i<6
 rotate_left
 ·have hc:decide ((i:Int)<6)=false:=decide_eq_false (by omega);have hi6:i=6:=by omega
  subst hi6;have hol:=zk ps 6;have Fs:=(lB aY 6 (by omega)).oA;have hfin:=fun (own:Nat→Prop) (E0:bj)=>Yw (W0:=W0) (D0:=D0) (own:=own) (E0:=E0) (⟨ps,rs,bs⟩:dL) q (fi ps) (j2 ps) Fs (tx aY) (by show (gE ps 6).length≤1000000;omega);rcases hsrc with ⟨rfl,hR,rfl⟩ | ⟨qq,rfl,rfl⟩
  ·simp only[iX,zy1];have R:=y6 @hc (y6 @Y8 (y6 @dj (y6 @bA (y6 @bq (y6 @dk aI)))))
   repeat' ((first |(with_reducible refine .guard (fun hb =>?_) (fun hb =>?_) <;>try simp only[hb])|refine ae.aM (by decide +kernel) rfl fun K hK =>?_|(refine .aD [0,1,2,3,4,5,6,7,8,9,10,12,13,14,22,23,24,36,44,49,57,63,64,65,66,81] hK ?_;clear hK K)|(with_reducible refine .done (hK _ ?_);clear hK K)|refine ae.of rfl ?_|(with_reducible refine aF.aL (fun h =>?_) (fun h =>?_) <;>try simp only[h])) <;>try simp only[aN,R,decide_false,simprocAttr])
   all_goals clear R
   refine ae.sub ?_ (hfin _ _);have hz:enc (j2 ps)=I.slice 5 []:=by rw[show j2 ps=[] from hR];rfl
   have hz2:(j2 ps).length=0:=by rw[show j2 ps=[] from hR];rfl
   simp only[pt,hz,hz2];have hsA:fi ps=h0 ps 6:=rfl;refine bn.Dr [] 63 rfl (y:=.slice 5 []) ?_ ?_ ?_ ?_ ?_ ?_
   ·simp only[b9,Nat.reduceEqDiff,if_true,if_false,br]
   all_goals simp[hsA,bX,cA,b6,b8,av,b9,ct,dY,jX,I.only,I.bQ,ak.only,b7,gw,gG]
  ·simp only[iX,zz3,zy5,zy1];have R:=y6 @hc (y6 @dj (y6 @bA (y6 @bq (y6 @dk aI))))
   repeat' ((first |(with_reducible refine .guard (fun hb =>?_) (fun hb =>?_) <;>try simp only[hb])|refine ae.aM (by decide +kernel) rfl fun K hK =>?_|(refine .aD [0,1,2,3,4,5,6,7,8,9,10,12,13,14,22,23,24,36,44,49,57,63,64,65,66,81] hK ?_;clear hK K)|(with_reducible refine .done (hK _ ?_);clear hK K)|refine ae.of rfl ?_|(with_reducible refine aF.aL (fun h =>?_) (fun h =>?_) <;>try simp only[h])) <;>try simp only[aN,R,decide_false,simprocAttr])
   all_goals clear R
   refine ae.sub ?_ (hfin _ _);have hsA:fi ps=h0 ps 6:=rfl;have hoA:j2 ps=gE ps 6:=rfl;simp only[pt,hsA,hoA];generalize gE ps 6=R at *;refine bn.Dr [904] 63 rfl (y:=enc R) ?_ ?_ ?_ ?_ ?_ ?_
   ·simp only[b9,Nat.reduceEqDiff,if_true,if_false];exact yi (os:=[(904,.box (.agg ((R++qq).map enc)))]) (S:=[904]) rfl (.inr ⟨904,qq,by simp,rfl,by simp[aj]⟩) fun m hm=>by
     rw[zy2.1 hm];simp[au,kW,aj]
   all_goals simp[bX,cA,b6,b8,av,b9,ct,dY,jX,I.only,I.bQ,ak.only,b7,gw,gG]
 have hc:decide ((i:Int)<6)=true:=decide_eq_true (by omega);have hw:=fj (i:=i) (by omega);have hai:=acn aY hlt;have Fi:=(lB aY i (by omega)).oA;have aq:=Fi.du;have hil:i<(h0 ps i).length:=by rw[aq.len];exact hlt
 have hst:=lY (q:=q) hil;have hat:=kQ (q:=q) hil;have hv:=kV (n:=18) hlt;obtain ⟨kk,s1,s2,_⟩:=uR aq hlt;obtain ⟨I2,_,_⟩:=aq.jU hlt s2;have hout:∀ k:Nat,k<6→(k:Int)≠i→(gF (eT (aB (h0 ps i) i)).1 k).2=0:=fun k hk hne=>by
  have:=(uQ I2 hlt (to:=k) (gz.2 (by omega)) hne).1
  rwa [oJ hil,if_pos rfl] at this
 have hnx:=H8 ps i;rw[rU] at hnx;have hon:=FU ps i;have hS:=r1 (aB ps i);have hnl:=zk ps i;rw[hai] at hat s1 hout hnx;rw[s1] at hS;clear s1 s2 I2;generalize (eT (aB ps i)).1=p' at *;have hnx:=hnx.symm;have hl2:(h0 ps (i+1)).length=6:=by rw[←hnx,List.length_set,aq.len]
 obtain ⟨psn,hps⟩:∃ psn,psn=h0 ps (i+1):=⟨_,rfl⟩
 rw[←hps] at hnx hl2;simp only[iX,zz3,zy5,zy1];have hn6:=hn 6 (by decide);have R:=y6 @hc (y6 @hn6 (y6 @hnx (y6 @hT1 (y6 @hst (y6 @hat (y6 @hv (y6 @hn0 (y6 @fX (y6 @fN (y6 @dj (y6 @bA (y6 @bq (y6 @dk aI)))))))))))))
 repeat' ((first |(with_reducible refine .guard (fun hb =>?_) (fun hb =>?_) <;>try simp only[hb])|refine ae.aM (by decide +kernel) rfl fun K hK =>?_|refine .lead _ (hS) ?_|(refine .aD [0,1,2,3,4,5,6,7,8,9,10,12,13,14,22,23,24,36,44,49,57,63,64,65,66,81] hK ?_;clear hK K)|(with_reducible refine .done (hK _ ?_);clear hK K)|refine ae.of rfl ?_|(with_reducible refine aF.aL (fun h =>?_) (fun h =>?_) <;>try simp only[h])) <;>try simp only[aN,R,simprocAttr])
 all_goals clear R
 refine ae.loop (fun t:Nat×I×List (Nat×ak)=>iX psn rs bs q i [(5,.int .i64 i),(6,.ptr 6 []),(8,.int .i64 t.1)] [(6,.box (enc p'))] t.2.1 t.2.2) (fun t=>t.1≤6∧qH t.2.1 t.2.2 (gE ps i++eM p' i t.1)) (fun t=>6-t.1) (0,v,ov) ⟨zw5 _,by simpa[eM] using hsrc⟩ ?_ ?_
 ·rcases hsrc with ⟨rfl,hR,rfl⟩ | ⟨qq,rfl,rfl⟩
  ·simp only[iX,zz3,zy5,zy1];clear hT0 hT1 hS0 hst hat hR;refine bn.cB ?_ ?_ ?_ ?_ <;>simp[bX,cA,b6,b8,av,b9,ct,I.only,I.bQ,ak.only,b7,gw,gG]
  ·simp only[iX,zz3,zy5];generalize gE ps i=R at *;clear hT0 hT1 hS0 hst hat hon;refine bn.cB ?_ ?_ ?_ ?_ <;>simp[bX,cA,b6,b8,av,b9,ct,I.only,I.bQ,ak.only,dZ,gT,b7,gw,gG,gT,dZ]
 rintro ⟨k,v2,ov2⟩ ⟨hk6,hs2⟩;simp only at hk6 hs2;by_cases hkt:k<6
 rotate_left
 ·have hkc:decide ((k:Int)<6)=false:=decide_eq_false (by omega);have hk:k=6:=by omega
  rw[hk,vN,←hon] at hs2;rcases hs2 with ⟨rfl,hR,rfl⟩ | ⟨qq,rfl,rfl⟩
  ·simp only[iX,zz3,zy5,zy1];have R:=y6 @hkc (y6 @hw (y6 @dj (y6 @bA (y6 @bq (y6 @dk aI)))))
   repeat' ((first |(with_reducible refine .guard (fun hb =>?_) (fun hb =>?_) <;>try simp only[hb])|refine ae.aM (by decide +kernel) rfl fun K hK =>?_|(refine .aD [0,1,2,3,4,5,6,7,8,9,10,12,13,14,22,23,24,36,44,49,57,63,64,65,66,81] hK ?_;clear hK K)|(with_reducible refine .done (hK _ ?_);clear hK K)|refine ae.of rfl ?_|(with_reducible refine aF.aL (fun h =>?_) (fun h =>?_) <;>try simp only[h])) <;>try simp only[aN,R,simprocAttr])
   all_goals clear R
   refine ⟨(i+1,.c0 5,[]),⟨by simp only;omega,.inl ⟨rfl,hR,rfl⟩⟩,by simp only;omega,?_⟩
   try simp only[]
   rw[←hps];clear hT0 hT1 hS0 hst hat hR hsrc;refine bn.cB ?_ ?_ ?_ ?_ <;>simp[bX,cA,b6,b8,av,b9,ct,I.only,I.bQ,ak.only,b7,gw,gG]
  ·simp only[iX,zz3,zy5];have R:=y6 @hkc (y6 @hw (y6 @dj (y6 @bA (y6 @bq (y6 @dk aI)))))
   repeat' ((first |(with_reducible refine .guard (fun hb =>?_) (fun hb =>?_) <;>try simp only[hb])|refine ae.aM (by decide +kernel) rfl fun K hK =>?_|(refine .aD [0,1,2,3,4,5,6,7,8,9,10,12,13,14,22,23,24,36,44,49,57,63,64,65,66,81] hK ?_;clear hK K)|(with_reducible refine .done (hK _ ?_);clear hK K)|refine ae.of rfl ?_|(with_reducible refine aF.aL (fun h =>?_) (fun h =>?_) <;>try simp only[h])) <;>try simp only[aN,R,simprocAttr])
   all_goals clear R
   refine ⟨(i+1,.view 904 [] 5 0 (gE ps (i+1)).length,[(904,.box (.agg ((gE ps (i+1)++qq).map enc)))]),⟨by simp only;omega,.inr ⟨qq,rfl,rfl⟩⟩,by simp only;omega,?_⟩
   try simp only[]
   rw[←hps];generalize gE ps (i+1)=R at *;clear hT0 hT1 hS0 hst hat hsrc hon;refine bn.cB ?_ ?_ ?_ ?_ <;>simp[bX,cA,b6,b8,av,b9,ct,I.only,I.bQ,ak.only,dZ,gT,b7,gw,gG,gT,dZ]
 have hkc:decide ((k:Int)<6)=true:=decide_eq_true (by omega);have hkw:=fj (i:=k) (by omega);have hsn:=tv p' i k;have hn2:=HV hs2;rcases q5:((k:Int)==(i:Int))
 ·have q6:¬ (k:Int)=i:=by simpa using q5
  rw[if_neg q6] at hsn;have hO:=r2 p' k;rw[hout k hkt q6] at hO;have hol:=tw p' k;have hok:=zj p' i k;have hRl:(gE ps i++eM p' i k).length≤20000:=by rw[zz6];omega
  have hsn2:gE ps i++eM p' i (k+1)=(gE ps i++eM p' i k)++(gF p' k).1:=by rw[hsn,zy4]
  generalize gE ps i++eM p' i k=R at *;generalize (gF p' k).1=out at *;simp only[iX,zz3,zy5];have R:=y6 @hkc (y6 @q5 (y6 @hn0 (y6 @dj (y6 @bA (y6 @bq (y6 @dk aI))))))
  repeat' ((first |(with_reducible refine .guard (fun hb =>?_) (fun hb =>?_) <;>try simp only[hb])|refine ae.aM (by decide +kernel) rfl fun K hK =>?_|refine .lead _ (hO) ?_|(refine .aD [0,1,2,3,4,5,6,7,8,9,10,12,13,14,22,23,24,36,44,49,57,63,64,65,66,81] hK ?_;clear hK K)|(with_reducible refine .done (hK _ ?_);clear hK K)|refine ae.of rfl ?_|(with_reducible refine aF.aL (fun h =>?_) (fun h =>?_) <;>try simp only[h])) <;>try simp only[aN,R,simprocAttr])
  all_goals clear R
  refine aW.sM (l:=R) (ys:=out) zR rfl (ab0 hs2 (by simp[ct])) (by simp[ct,hn2]) (by omega) (by simp only[maxLen];omega) fun v3 o3 g3 f3 =>?_;have ho1:aj o3 1=some (.box (db (.view 18 [] 3 0 6) (enc rs) (enc bs))):=(f3 1 (by decide)).trans (by simp[ct]);have ho2:aj o3 2=some (.box (.agg [.nils 3,.nils 5,.nils 1])):=(f3 2 (by decide)).trans (by simp[ct]);have ho6:aj o3 6=some (.box (enc p')):=(f3 6 (by decide)).trans (by simp[ct]);have ho18:aj o3 18=some (.box (fy psn q)):=(f3 18 (by decide)).trans (by simp[ct])
  try simp only[bL,simprocAttr]
  refine .done (hK _ ?_);clear hK K;have R:=y6 @hkw (y6 @dj (y6 @bA (y6 @bq (y6 @dk aI))))
  repeat' ((first |(with_reducible refine .guard (fun hb =>?_) (fun hb =>?_) <;>try simp only[hb])|refine ae.aM (by decide +kernel) rfl fun K hK =>?_|(refine .aD [0,1,2,3,4,5,6,7,8,9,10,12,13,14,22,23,24,36,44,49,57,63,64,65,66,81] hK ?_;clear hK K)|(with_reducible refine .done (hK _ ?_);clear hK K)|refine ae.of rfl ?_|(with_reducible refine aF.aL (fun h =>?_) (fun h =>?_) <;>try simp only[h])) <;>try simp only[aN,R,simprocAttr])
  all_goals clear R
  exact acm (R:=R++out) hkt hsn2 g3 rfl rfl rfl rfl rfl rfl rfl rfl rfl ho1 ho18 ho2 ho6
 ·have q6:(k:Int)=i:=by simpa using q5
  rw[if_pos q6,zy1] at hsn;rw[←hsn] at hs2;rcases hs2 with ⟨rfl,hR,rfl⟩ | ⟨qq,rfl,rfl⟩
  ·simp only[iX,zz3,zy5,zy1];have R:=y6 @hkc (y6 @hkw (y6 @q5 (y6 @dj (y6 @bA (y6 @bq (y6 @dk aI))))))
   repeat' ((first |(with_reducible refine .guard (fun hb =>?_) (fun hb =>?_) <;>try simp only[hb])|refine ae.aM (by decide +kernel) rfl fun K hK =>?_|(refine .aD [0,1,2,3,4,5,6,7,8,9,10,12,13,14,22,23,24,36,44,49,57,63,64,65,66,81] hK ?_;clear hK K)|(with_reducible refine .done (hK _ ?_);clear hK K)|refine ae.of rfl ?_|(with_reducible refine aF.aL (fun h =>?_) (fun h =>?_) <;>try simp only[h])) <;>try simp only[aN,R,simprocAttr])
   all_goals clear R
   refine ⟨(k+1,.c0 5,[]),⟨by simp only;omega,.inl ⟨rfl,hR,rfl⟩⟩,by simp only;omega,?_⟩
   try simp only[]
   clear hT0 hT1 hS0 hst hat hR hsrc hsn;refine bn.cB ?_ ?_ ?_ ?_ <;>simp[bX,cA,b6,b8,av,b9,ct,I.only,I.bQ,ak.only,b7,gw,gG]
  ·simp only[iX,zz3,zy5];have R:=y6 @hkc (y6 @hkw (y6 @q5 (y6 @dj (y6 @bA (y6 @bq (y6 @dk aI))))))
   repeat' ((first |(with_reducible refine .guard (fun hb =>?_) (fun hb =>?_) <;>try simp only[hb])|refine ae.aM (by decide +kernel) rfl fun K hK =>?_|(refine .aD [0,1,2,3,4,5,6,7,8,9,10,12,13,14,22,23,24,36,44,49,57,63,64,65,66,81] hK ?_;clear hK K)|(with_reducible refine .done (hK _ ?_);clear hK K)|refine ae.of rfl ?_|(with_reducible refine aF.aL (fun h =>?_) (fun h =>?_) <;>try simp only[h])) <;>try simp only[aN,R,simprocAttr])
   all_goals clear R
   refine ⟨(k+1,.view 904 [] 5 0 (gE ps i++eM p' i (k+1)).length,[(904,.box (.agg (((gE ps i++eM p' i (k+1))++qq).map enc)))]),⟨by simp only;omega,.inr ⟨qq,rfl,rfl⟩⟩,by simp only;omega,?_⟩
   try simp only[]
   generalize gE ps i++eM p' i (k+1)=R at *;clear hT0 hT1 hS0 hst hat hsrc hon hsn;refine bn.cB ?_ ?_ ?_ ?_ <;>simp[bX,cA,b6,b8,av,b9,ct,I.only,I.bQ,ak.only,dZ,gT,b7,gw,gG,gT,dZ]
def lT(ps:List aJ):Nat→List aJ
 |0=>ps
 |n+1=>ij (lT ps n)
theorem wi{ps:List aJ}(aY:eU ps):∀ n,eU (lT ps n)
 |0=>aY
 |n+1=>(qh (wi aY n)).1
theorem ZE{p:aJ}{s:az}(h:cP p=some s)(hl:s.aK=[]):iB p=([],0):=by
 have:bY []=[]:=by simp[bY]
 simp only[iB,h,mF,az.bx,hl,zx8,this]
theorem OY{ps:List aJ}(aY:eU ps){i:Nat}(hi:i<6):iB (aB (lT ps 4) i)=([],0) :=
 ZE ((wi aY 4).du.val i hi) (PH aY hi)
def oe(rs:List ca)(bs:List Int)(ps:List aJ)(ts:List (Nat×I))(i:Nat):ai :=
 au ([(2,.bool false),(3,.ptr 3 []),(4,.bool true),(5,.int .i64 i)]++ts) [(3,.box (enc (⟨ps,rs,bs⟩:dL)))]
theorem IQ(l:List fC):bp Tryd.prog 4 [enc l] (enc true):=by
 refine bp.cw Tryd.func4 Lc L8 Na (t7 rfl) (fun hwf W0 D0 E1 =>?_);simp only[lF,tD,bS];clear hwf;have hF:=I1 l 40 (by omega);rw[show ((40:Nat):Int)=40 from rfl] at hF;have hS:=Jb;have P:=vT l (min 40 l.length) (Nat.min_le_right _ _);generalize j4 l (min 40 l.length)=w at *;have Fw:eU w.ps:=⟨P.gi.du,P.gi.one,by have:=P.sB;omega⟩
 obtain ⟨ps,rs,bs⟩:=w;simp only at Fw;clear P;have R:=y6 @lZ (y6 @o6 (y6 @dj (y6 @bA (y6 @bq aI))))
 repeat' ((first |(with_reducible refine .guard (fun hb =>?_) (fun hb =>?_) <;>try simp only[hb])|refine ae.aM (by decide +kernel) rfl fun K hK =>?_|refine .lead _ (hF) ?_|(refine .aD [0,2,3,4,5,6,8,9,10,20,29,39,41,42,43,44,58] hK ?_;clear hK K)|(with_reducible refine .done (hK _ ?_);clear hK K)|refine ae.of rfl ?_|(with_reducible refine aF.aL (fun h =>?_) (fun h =>?_) <;>try simp only[h])) <;>try simp only[aN,R,simprocAttr])
 all_goals clear R
 refine ae.loop (fun i:Nat=>oe rs bs (lT ps i) [] i) (fun i=>i≤4) (fun i=>4-i) 0 (zw5 _) ?_ (fun i hi =>?_)
 ·simp only[oe,zy1];rw[show lT ps 0=ps from rfl];refine bn.cB ?_ ?_ ?_ ?_ <;>simp[bX,cA,b6,b8,av,b9,ct,I.only,ak.only,b7]
 have Fi:=wi Fw i;simp only[oe,zy1];by_cases hlt:i<4
 ·have hc:decide ((i:Int)<4)=true:=decide_eq_true (by omega);have hw:=fj (i:=i) (by omega);have hR:=Jn (⟨lT ps i,rs,bs⟩:dL) Fi;simp only at hR;have F2:=wi Fw (i+1);rw[show ij (lT ps i)=lT ps (i+1) from rfl] at hR;generalize lT ps i=p1 at *;obtain ⟨p2,hp2⟩:∃ p2,p2=lT ps (i+1):=⟨_,rfl⟩
  rw[←hp2] at hR F2;have R:=y6 @hc (y6 @lZ (y6 @o6 (y6 @dj (y6 @bA (y6 @bq aI)))))
  repeat' ((first |(with_reducible refine .guard (fun hb =>?_) (fun hb =>?_) <;>try simp only[hb])|refine ae.aM (by decide +kernel) rfl fun K hK =>?_|refine .lead _ (hR) ?_|(refine .aD [0,2,3,4,5,6,8,9,10,20,29,39,41,42,43,44,58] hK ?_;clear hK K)|(with_reducible refine .done (hK _ ?_);clear hK K)|refine ae.of rfl ?_|(with_reducible refine aF.aL (fun h =>?_) (fun h =>?_) <;>try simp only[h])) <;>try simp only[aN,R,simprocAttr])
  all_goals clear R
  refine ae.loop (fun b:Nat=>oe rs bs p2 [(6,.int .i64 b)] i) (fun b=>1≤b∧b≤6) (fun b=>6-b) 1 ⟨zz9 _,by omega⟩ ?_ (fun b hb =>?_)
  ·simp only[oe,zz3,zy5];clear hp2;refine bn.cB ?_ ?_ ?_ ?_ <;>simp[bX,cA,b6,b8,av,b9,ct,I.only,ak.only,b7]
  simp only[oe,zz3,zy5];by_cases hb5:b≤5
  ·have hc3:decide ((b:Int)≤5)=true:=decide_eq_true (by omega);have hw3:=fj (i:=b) (by omega);have hO:=Ax (⟨p2,rs,bs⟩:dL) b F2.du F2.jC (gz.2 (by omega));have R:=y6 @hc3 (y6 @hw3 (y6 @lZ (y6 @o6 (y6 @dj (y6 @bA (y6 @bq aI))))))
   repeat' ((first |(with_reducible refine .guard (fun hb =>?_) (fun hb =>?_) <;>try simp only[hb])|refine ae.aM (by decide +kernel) rfl fun K hK =>?_|refine .flat _ (hO) rfl ?_|(refine .aD [0,2,3,4,5,6,8,9,10,20,29,39,41,42,43,44,58] hK ?_;clear hK K)|(with_reducible refine .done (hK _ ?_);clear hK K)|refine ae.of rfl ?_|(with_reducible refine aF.aL (fun h =>?_) (fun h =>?_) <;>try simp only[h])) <;>try simp only[aN,R,simprocAttr])
   all_goals clear R
   refine ⟨b+1,by omega,by omega,?_⟩
   try simp only[oe,zz3,zy5]
   clear hp2;refine bn.cB ?_ ?_ ?_ ?_ <;>simp[bX,cA,b6,b8,av,b9,ct,I.only,ak.only,b7]
  ·have hc3:decide ((b:Int)≤5)=false:=decide_eq_false (by omega);have R:=y6 @hc3 (y6 @hw (y6 @lZ (y6 @o6 (y6 @dj (y6 @bA (y6 @bq aI))))))
   repeat' ((first |(with_reducible refine .guard (fun hb =>?_) (fun hb =>?_) <;>try simp only[hb])|refine ae.aM (by decide +kernel) rfl fun K hK =>?_|(refine .aD [0,2,3,4,5,6,8,9,10,20,29,39,41,42,43,44,58] hK ?_;clear hK K)|(with_reducible refine .done (hK _ ?_);clear hK K)|refine ae.of rfl ?_|(with_reducible refine aF.aL (fun h =>?_) (fun h =>?_) <;>try simp only[h])) <;>try simp only[aN,R,simprocAttr])
   all_goals clear R
   refine ⟨i+1,by omega,by omega,?_⟩
   try simp only[oe,zy1]
   rw[←hp2];clear hp2;refine bn.cB ?_ ?_ ?_ ?_ <;>simp[bX,cA,b6,b8,av,b9,ct,I.only,ak.only,b7]
 ·have hc:decide ((i:Int)<4)=false:=decide_eq_false (by omega);have hi4:i=4:=by omega
  rw[hi4] at Fi ⊢;have ay:=fun k (hk:k<6)=>OY Fw hk;have hl:=Fi.du.len;generalize lT ps 4=p4 at *;have hT:=iP (cO p4) (cO rs) (cO bs);have hc4:decide ((4:Int)<4)=false:=rfl;simp only[uV];have R:=y6 @hc (y6 @hc4 (y6 @hT (y6 @lZ (y6 @o6 (y6 @dj (y6 @bA (y6 @bq aI)))))))
  repeat' ((first |(with_reducible refine .guard (fun hb =>?_) (fun hb =>?_) <;>try simp only[hb])|refine ae.aM (by decide +kernel) rfl fun K hK =>?_|(refine .aD [0,2,3,4,5,6,8,9,10,20,29,39,41,42,43,44,58] hK ?_;clear hK K)|(with_reducible refine .done (hK _ ?_);clear hK K)|refine ae.of rfl ?_|(with_reducible refine aF.aL (fun h =>?_) (fun h =>?_) <;>try simp only[h])) <;>try simp only[aN,R,decide_false,simprocAttr])
  all_goals clear R
  refine ae.loop (fun k:Nat=>au [(2,.bool false),(41,enc p4),(42,.int .i64 p4.length),(43,.int .i64 k)] []) (fun k=>k≤p4.length) (fun k=>p4.length-k) 0 (zw5 _) ?_ (fun k hk =>?_)
  ·clear hT ay;refine bn.cB ?_ ?_ ?_ ?_ <;>simp[bX,cA,b6,b8,b9,I.only,b7]
  by_cases hkt:k<p4.length
  ·have hkc:=hX hkt;have he:=fun A=>fT (A:=A) 3 hkt rfl;have hkw:=fj (i:=k) (by omega);have hRd:=wS (aB p4 k);rw[ay k (by omega)] at hRd;simp only at hRd;rw[lP hkt] at he;generalize aB p4 k=p at *;have hn0:((0:Int) != 0)=false:=rfl;have hz:decide ((([]:List dG).length:Int)>0)=false:=rfl;have hln:([]:List dG).length=0:=rfl;have hz2:decide ((0:Int)>0)=false:=rfl;have R:=y6 @hkc (y6 @he (y6 @hkw (y6 @hn0 (y6 @hz (y6 @hz2 (y6 @hln (y6 @fN (y6 @bA (y6 @bq aI)))))))))
   repeat' ((first |(with_reducible refine .guard (fun hb =>?_) (fun hb =>?_) <;>try simp only[hb])|refine ae.aM (by decide +kernel) rfl fun K hK =>?_|refine .lead _ (hRd) ?_|(refine .aD [0,2,3,4,5,6,8,9,10,20,29,39,41,42,43,44,58] hK ?_;clear hK K)|(with_reducible refine .done (hK _ ?_);clear hK K)|refine ae.of rfl ?_|(with_reducible refine aF.aL (fun h =>?_) (fun h =>?_) <;>try simp only[h])) <;>try simp only[aN,R,decide_false,simprocAttr])
   all_goals clear R
   refine ⟨k+1,by omega,by omega,?_⟩;clear hT ay;refine bn.cB ?_ ?_ ?_ ?_ <;>simp[bX,cA,b6,b8,b9,I.only,b7]
  ·have hkc:=hJ hkt;have R:=y6 @hkc (y6 @bA (y6 @bq aI))
   repeat' ((first |(with_reducible refine .guard (fun hb =>?_) (fun hb =>?_) <;>try simp only[hb])|refine ae.aM (by decide +kernel) rfl fun K hK =>?_|refine .flat _ (hS) rfl ?_|(refine .aD [0,2,3,4,5,6,8,9,10,20,29,39,41,42,43,44,58] hK ?_;clear hK K)|(with_reducible refine .done (hK _ ?_);clear hK K)|refine ae.of rfl ?_|(with_reducible refine aF.aL (fun h =>?_) (fun h =>?_) <;>try simp only[h])) <;>try simp only[aN,R,simprocAttr])
   all_goals clear R
end Go.Proofs.YthbdbocionnfgaaDoor
