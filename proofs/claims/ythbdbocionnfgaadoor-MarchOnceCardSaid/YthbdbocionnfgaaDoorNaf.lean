/-
  A part of the proof that the law MarchOnce returns true for every input; three tables of Go's library start as the text lays them (the card ties them); conditions: none beyond the statement's own. (part 6 of 7)
-/
import Derived.Test.YthbdbocionnfgaaDoorNae
set_option linter.unusedSimpArgs false
set_option linter.unusedVariables false
set_option maxHeartbeats 16000000
set_option maxRecDepth 100000
namespace Go.Proofs.YthbdbocionnfgaaDoor
open Go Go.Abs
open Go.Abs.Enc (enc)
theorem ux{α:Type}[Enc α]{esz:Nat}{v:I}{os:List (Nat×ao)}{l:List α}{S:List Nat}(h:kh esz v os l S):eT v:=by
 rcases h with ⟨_,rfl⟩ | ⟨n,q,_,rfl,_⟩ <;>exact ⟨rfl,rfl,rfl,rfl⟩
theorem Hm(w:ee)(x:fk)(aw:gD w)(hb1:w.bs.length≤1000000)(hk:cH x.kind 10=0):bm Tryd.prog 11 [enc w,enc x] (.tuple [enc (dE w x).1,enc (dE w x).2]):=by
 refine bm.cg Tryd.func11 nP nR nT (u8 rfl) (fun hwf W0 bO E1 =>?_);simp only[mB,nf,bQ,zz1];clear hwf;have ar:=aw.gM;refine og _ _ w x ar.len (fun q =>?_);obtain ⟨ps,rs,bs⟩:=w;simp only at ar;have hmod:=iE x.je (m:=6) (by decide);have hm6:bz x<6:=by simp only[bz];omega
 have hi:bz x<ps.length:=by rw[ar.len];exact hm6
 have hl:=ar.len;have hF0:=jG x.kind 10 (by decide) (by decide);rw[hk] at hF0;simp only[lz,hl];have hT1:=jF (gb 20 [] 3 0 6) (de rs) (de bs);have hS4:=kL (gb 20 [] 3 0 6) (de rs) (de bs);have hst:=nB (q:=q) hi;have hat:=lC (q:=q) hi;have hv:=lP (n:=20) hm6;have hf0:=fun ts os=>iA (rs:=rs) (bs:=bs) (q:=q) hl ts os;have hf1:=fun (p:aW) ts os=>iA (rs:=rs) (bs:=bs) (q:=q) (lj hl (bz x) p) ts os;simp only at hb1;have hA:dE ⟨ps,rs,bs⟩ x=if er x∈bs then (⟨ps,rs,bs⟩,true) else eH ⟨ps,rs,bs⟩ (bz x) (kp (aS ps (bz x)) (er x)) rs (if (kp (aS ps (bz x)) (er x)).2=0 then bs++[er x] else bs):=by simp only[dE,hk];rfl
 have hH:=Hy bs (er x);have hF:=zo (aS ps (bz x)) (er x);rw[hA];rcases q1:decide (er x∈bs)
 rotate_left
 ·rw[q1] at hH;rw[if_pos (of_decide_eq_true q1)];have R:=y6 @hT1 (y6 @hS4 (y6 @hst (y6 @hat (y6 @hv (y6 @hf0 (y6 @gf (y6 @gh (y6 @eD (y6 @bE (y6 @bp (y6 @dX aK)))))))))))
  repeat' ((first |(with_reducible refine .guard (fun hb =>?_) (fun hb =>?_) <;>try simp only[hb])|refine ae.aM (by decide +kernel) rfl fun K hK =>?_|refine .flat _ (hF0) rfl ?_|refine .flat _ (hH) rfl ?_|(refine .aD [0,1,2,3,4,5,6,7,8,9,10,11,12,13,14,15,16,39,43,67,72,81,90,95,103,114,127,145,154,166,171,187] hK ?_;clear hK K)|(with_reducible refine .done (hK _ ?_);clear hK K)|refine ae.of rfl ?_|(with_reducible refine aF.aL (fun h =>?_) (fun h =>?_) <;>try simp only[h])) <;>try simp only[aN,R,simprocAttr])
  all_goals clear R
 rw[q1] at hH;rw[if_neg (of_decide_eq_false q1)];simp only[eH];generalize kp (aS ps (bz x)) (er x)=r at *;obtain ⟨p',e⟩:=r;simp only at hF ⊢;have hKn:=nF e;rcases q3:(e==0)
 ·have q4:¬ e=0:=by simpa using q3
  rw[if_neg q4,if_neg q4];have R:=y6 @hT1 (y6 @hS4 (y6 @hst (y6 @hat (y6 @hv (y6 @hf0 (y6 @q3 (y6 @gf (y6 @gh (y6 @eD (y6 @bE (y6 @bp (y6 @dX aK))))))))))))
  repeat' ((first |(with_reducible refine .guard (fun hb =>?_) (fun hb =>?_) <;>try simp only[hb])|refine ae.aM (by decide +kernel) rfl fun K hK =>?_|refine .flat _ (hF0) rfl ?_|refine .flat _ (hH) rfl ?_|refine .flat _ (hKn) rfl ?_|refine .lead _ (hF) ?_|(refine .aD [0,1,2,3,4,5,6,7,8,9,10,11,12,13,14,15,16,39,43,67,72,81,90,95,103,114,127,145,154,166,171,187] hK ?_;clear hK K)|(with_reducible refine .done (hK _ ?_);clear hK K)|refine ae.of rfl ?_|(with_reducible refine aF.aL (fun h =>?_) (fun h =>?_) <;>try simp only[h])) <;>try simp only[aN,R,simprocAttr])
  all_goals clear R
 have q4:e=0:=by simpa using q3
 rw[if_pos q4,if_pos q4];have hbs:fV 1 (some [.int .i64 (er x)])=some (enc [er x]):=kO 1 (er x) rfl;have R:=y6 @hT1 (y6 @hS4 (y6 @hst (y6 @hat (y6 @hv (y6 @q3 (y6 @hbs (y6 @gf (y6 @gh (y6 @eD (y6 @bE (y6 @bp (y6 @dX aK))))))))))))
 repeat' ((first |(with_reducible refine .guard (fun hb =>?_) (fun hb =>?_) <;>try simp only[hb])|refine ae.aM (by decide +kernel) rfl fun K hK =>?_|refine .flat _ (hF0) rfl ?_|refine .flat _ (hH) rfl ?_|refine .lead _ (hF) ?_|(refine .aD [0,1,2,3,4,5,6,7,8,9,10,11,12,13,14,15,16,39,43,67,72,81,90,95,103,114,127,145,154,166,171,187] hK ?_;clear hK K)|(with_reducible refine .done (hK _ ?_);clear hK K)|refine ae.of rfl ?_|(with_reducible refine aF.aL (fun h =>?_) (fun h =>?_) <;>try simp only[h])) <;>try simp only[aN,R,simprocAttr])
 all_goals clear R
 refine aT.uw (0:Int) rfl (Di _ []) rfl (by simp;omega) (by simp[maxLen];omega) fun v1 o1 g1 f1 =>?_;rw[zx3] at g1
 try simp only[hbs,bK,simprocAttr]
 refine aT.uw (0:Int) rfl g1 (f1 88 (by decide)) (by simp;omega) (by simp[maxLen];omega) fun v2 o2 g2 f2 =>?_;have ho2:aj o2 2=some (.box (dO (.view 20 [] 3 0 6) (enc rs) (enc bs))):=(f2 2 (by decide)).trans (f1 2 (by decide));have ho4:aj o2 4=some (.box (.agg [.nils 3,.nils 5,.nils 1])):=(f2 4 (by decide)).trans (f1 4 (by decide));have ho9:aj o2 9=some (.box (enc p')):=(f2 9 (by decide)).trans (f1 9 (by decide));have ho20:aj o2 20=some (.box (gK ps q)):=(f2 20 (by decide)).trans (f1 20 (by decide));have hS2:=aaC (v:=.view 20 [] 3 0 6) (r:=enc rs) (de bs) (ux g2)
 try simp only[ho2,hT1,hS2,aK,bK,simprocAttr]
 refine .done (hK _ ?_);clear hK K;have hT2:=jF (gb 20 [] 3 0 6) (de rs) (ux g2);have hS5:=kL (gb 20 [] 3 0 6) (de rs) (ux g2);have hf2:∀ ts os,aj os 20=some (.box (gK (ps.set (bz x) p') q))→aj os 85=aj o2 85→aj os 88=aj o2 88→bn true (au ts os) (dO (.view 20 [] 3 0 6) (enc rs) v2)=some (enc (⟨ps.set (bz x) p',rs,bs++[er x]⟩:ee)):=fun ts os U ab af =>
  uo (xl (lj hl _ _).symm U) (by simp only[mH]) (Dg rfl g2 (by intro m hm;simp only[zw9,List.not_mem_nil,or_false] at hm;rcases hm with rfl | rfl;exact af;exact ab))
 have R:=y6 @ho2 (y6 @ho4 (y6 @ho9 (y6 @ho20 (y6 @hT2 (y6 @hS5 (y6 @hst (y6 @hat (y6 @hv (y6 @hf2 (y6 @q3 (y6 @gf (y6 @gh (y6 @eD (y6 @bE (y6 @bp (y6 @dX aK))))))))))))))))
 repeat' ((first |(with_reducible refine .guard (fun hb =>?_) (fun hb =>?_) <;>try simp only[hb])|refine ae.aM (by decide +kernel) rfl fun K hK =>?_|refine .flat _ (hKn) rfl ?_|(refine .aD [0,1,2,3,4,5,6,7,8,9,10,11,12,13,14,15,16,39,43,67,72,81,90,95,103,114,127,145,154,166,171,187] hK ?_;clear hK K)|(with_reducible refine .done (hK _ ?_);clear hK K)|refine ae.of rfl ?_|(with_reducible refine aF.aL (fun h =>?_) (fun h =>?_) <;>try simp only[h])) <;>try simp only[aN,R,simprocAttr])
 all_goals clear R
def gV(p:aW)(m:Int)(k:Nat):List cL:=(List.range k).flatMap fun j:Nat=>if (j:Int)=m then [] else (iG p j).1
theorem yq(p:aW)(m:Int)(k:Nat):gV p m (k+1)=gV p m k++if (k:Int)=m then [] else (iG p k).1:=by simp[gV,List.range_succ]
theorem EK(p:aW)(m:Int):gV p m 6=qU p m:=rfl
theorem yr(p:aW)(k:Int):(iG p k).1.length≤400:=by
 simp only[iG];split
 ·simp
 ·rename_i s ho;split
  ·simp
  ·obtain ⟨_,_,s2,hr,_,hl⟩:=xm ho;rw[hr];have:=Gs s2 k;simp only;omega
def oP(v:I)(ov:List (Nat×ao))(R:List cL):Prop:=(v=enc R∧ov=[])∨(v=.c0 5∧R=[]∧ov=[])∨∃ q:List cL,v=.view 904 [] 5 0 R.length∧ov=[(904,.box (.agg ((R++q).map enc)))]
def lx(ps:List aW)(bs:List Int)(q m:Nat)(p:aW)(k:Nat)(v:I)(ov:List (Nat×ao)):ai :=
 au [(2,.ptr 2 []),(4,.ptr 4 []),(5,.bool false),(6,.int .i64 m),(9,.ptr 9 []),(10,.int .i64 0),(13,.int .i64 k)]
  ([(2,.box (dO (.view 20 [] 3 0 6) v (enc bs))),(20,.box (gK ps q)),(4,.box (.agg [.nils 3,.nils 5,.nils 1])),(9,.box (enc p))]++ov)
theorem aaD(ρ:Nat→Nat)(v r b:I):(dO v r b).a8 ρ=dO (v.a8 ρ) (r.a8 ρ) (b.a8 ρ):=by simp[dO,I.a8,I.dm]
theorem ZE(ρ:Nat→Nat)(ps:List aW)(q:Nat):(gK ps q).a8 ρ=gK ps q:=by
 simp only[gK,I.a8,pD,zy8,List.map_map,List.map_replicate]
 congr 2
 exact List.map_congr_left fun x _=>km ρ x
theorem aaj{ps:List aW}{bs:List Int}{q m k:Nat}{p:aW}{v:I}{R:List cL}{ts:List (Nat×I)}{os:List (Nat×ao)}(hg:kh 5 v os R [184,182])
  (t2:Abs.bI ts 2=.ptr 2 []) (t4:Abs.bI ts 4=.ptr 4 []) (t5:Abs.bI ts 5=.bool false) (t6:Abs.bI ts 6=.int .i64 m) (t9:Abs.bI ts 9=.ptr 9 []) (t10:Abs.bI ts 10=.int .i64 0) (t13:Abs.bI ts 13=.int .i64 k)
  (ab:aj os 2=some (.box (dO (.view 20 [] 3 0 6) v (enc bs)))) (h20:aj os 20=some (.box (gK ps q))) (aq:aj os 4=some (.box (.agg [.nils 3,.nils 5,.nils 1]))) (h9:aj os 9=some (.box (enc p))) :
  ∃ v' ov',oP v' ov' R∧bt (au ts os) (lx ps bs q m p k v' ov'):=by
 rcases hg with ⟨rfl,rfl⟩ | ⟨n,qq,hn,rfl,hb⟩
 ·refine ⟨.c0 5,[],.inr (.inl ⟨rfl,rfl,rfl⟩),?_⟩;simp only[lx,zy3];refine bt.c8 ?_ ?_ ?_ ?_ <;>simp[cn,cY,cu,cB,av,cW,I.only,I.b6,ao.only,cv,t2,t4,t5,t6,t9,t10,t13,ab,h20,aq,h9,ml,nt]
 ·refine ⟨.view 904 [] 5 0 R.length,[(904,.box (.agg ((R++qq).map enc)))],.inr (.inr ⟨qq,rfl,rfl⟩),?_⟩;have hs:bt (au ts os) (au [(2,.ptr 2 []),(4,.ptr 4 []),(5,.bool false),(6,.int .i64 m),(9,.ptr 9 []),(10,.int .i64 0),(13,.int .i64 k)]
    [(2,.box (dO (.view 20 [] 3 0 6) (.view n [] 5 0 R.length) (enc bs))),(20,.box (gK ps q)),(4,.box (.agg [.nils 3,.nils 5,.nils 1])),(9,.box (enc p)),(n,.box (.agg ((R++qq).map enc)))]):=by
   simp only[zw9,List.not_mem_nil,or_false] at hn;rcases hn with rfl | rfl <;>refine bt.c8 ?_ ?_ ?_ ?_ <;>simp[cn,cY,cu,cB,av,cW,I.only,I.b6,ao.only,cv,t2,t4,t5,t6,t9,t10,t13,ab,h20,aq,h9,hb,ml,nt,j0,eN]
  refine hs.trans ?_;have hr:=fun ρ=>ZE ρ ps q;simp only[zw9,List.not_mem_nil,or_false] at hn;refine bt.Zj [(n,904)] (fun a b ha hb h =>?_) (fun a ha =>?_) ?_ (fun a y ha =>?_) ?_
  ·rcases hn with rfl | rfl
   all_goals
    simp only[av,aj] at ha hb
    (repeat' split at ha) <;>first | (cases ha;done) | skip
    all_goals (repeat' split at hb) <;>first | (cases hb;done) | (subst_vars;first | rfl | (simp[bx] at h;done))
  ·rcases hn with rfl | rfl
   all_goals
    simp only[av,aj] at ha
    (repeat' split at ha) <;>first | (cases ha;done) | (subst_vars;simp[bx])
  ·rcases hn with rfl | rfl
   all_goals simp[cu,av,cW,I.only]
  ·rcases hn with rfl | rfl
   all_goals
    simp only[aj] at ha
    (repeat' split at ha) <;>first | (cases ha;done) | (subst_vars;cases ha;simp[ao.only,ml,I.only,I.b6,nt,cv,av,cW,j0,eN])
  ·rcases hn with rfl | rfl
   all_goals
    simp only[zz4,zx6,df,ao.a8,I.a8,I.dm,aaD,km,hr,pE,bx];refine bt.c8 ?_ ?_ ?_ ?_ <;>simp[cn,cY,cu,cB,av,cw,cW,I.only,I.b6,ao.only,cv,ml,nt,j0,eN]
theorem Z5{v:I}{ov:List (Nat×ao)}{R:List cL}(h:oP v ov R):eT v:=by
 rcases h with ⟨rfl,_⟩ | ⟨rfl,_⟩ | ⟨q,rfl,_⟩
 ·exact de R
 ·exact ⟨rfl,rfl,rfl,rfl⟩
 ·exact gb _ _ _ _ _
theorem Z3{v:I}{ov:List (Nat×ao)}{R:List cL}(h:oP v ov R)(ts:List (Nat×I))(os:List (Nat×ao))(hs:aj os 904=aj ov 904):bn true (au ts os) v=some (enc R):=by
 rcases h with ⟨rfl,_⟩ | ⟨rfl,rfl,_⟩ | ⟨q,rfl,rfl⟩
 ·simp only[mH]
 ·simp only[bn];rfl
 ·exact Dg (os:=os) (S:=[904]) rfl (.inr ⟨904,q,by simp,rfl,hs.trans (by simp[aj])⟩) fun _ _=>rfl
theorem Z2{v:I}{ov:List (Nat×ao)}{R:List cL}(h:oP v ov R)(ts:List (Nat×I))(os:List (Nat×ao))(d:Option Nat)(e bytes:Nat)(z:I)(rest:List aw)(hs:aj os 904=aj ov 904):fp (au ts os) d e 5 bytes z v rest (.c0 5)=fp (au ts os) d e 5 bytes z (enc R) rest (.c0 5):=by
 have key:eC (au ts os) 5 v=eC (au ts os) 5 (enc R):=by
  rcases h with ⟨rfl,_⟩ | ⟨rfl,rfl,_⟩ | ⟨q,rfl,rfl⟩
  ·rfl
  ·exact (mb (au ts os) 5 ([]:List cL) rfl).symm
  ·have ho:(au ts os).o 904=some (.box (.agg ((R++q).map enc))):=hs.trans (by simp[aj]);rw[tk ho (by simp),mb (au ts os) 5 R rfl,List.drop_zero,List.take_left]
 simp only[fp,key]
theorem Z4{v:I}{ov:List (Nat×ao)}{R:List cL}(h:oP v ov R):∀ n,n≠904→aj ov n=none:=by
 intro n hn;rcases h with ⟨_,rfl⟩ | ⟨_,_,rfl⟩ | ⟨q,_,rfl⟩
 ·rfl
 ·rfl
 ·simp[aj,hn]
theorem WC{α:Type}[Enc α]{esz:Nat}{v:I}{os os':List (Nat×ao)}{l:List α}{S:List Nat}(h:kh esz v os l S)(hs:∀ m∈S,aj os' m=aj os m):kh esz v os' l S:=by
 rcases h with h | ⟨n,q,U,ab,af⟩
 ·exact .inl h
 ·exact .inr ⟨n,q,U,ab,(hs n U).trans af⟩
def GJ:cL:=⟨0,0,0,0,0⟩
theorem aak{ps:List aW}{rs:List cL}{bs:List Int}{q m k:Nat}{p:aW}{v:I}{R:List cL}{ts:List (Nat×I)}{os:List (Nat×ao)}(hk:k<6)(hR:rs++gV p m (k+1)=R)(hg:kh 5 v os R [184,182])
  (t2:Abs.bI ts 2=.ptr 2 []) (t4:Abs.bI ts 4=.ptr 4 []) (t5:Abs.bI ts 5=.bool false) (t6:Abs.bI ts 6=.int .i64 m) (t9:Abs.bI ts 9=.ptr 9 []) (t10:Abs.bI ts 10=.int .i64 0) (t13:Abs.bI ts 13=.int .i64 ((k+1:Nat):Int))
  (ab:aj os 2=some (.box (dO (.view 20 [] 3 0 6) v (enc bs)))) (h20:aj os 20=some (.box (gK ps q))) (aq:aj os 4=some (.box (.agg [.nils 3,.nils 5,.nils 1]))) (h9:aj os 9=some (.box (enc p))) :
  ∃ s':Nat×I×List (Nat×ao),(s'.1≤6∧oP s'.2.1 s'.2.2 (rs++gV p m s'.1))∧6-s'.1<6-k∧bt (au ts os) (lx ps bs q m p s'.1 s'.2.1 s'.2.2):=by
 obtain ⟨v',ov',hs,hsub⟩:=aaj hg t2 t4 t5 t6 t9 t10 t13 ab h20 aq h9;exact ⟨(k+1,v',ov'),⟨by simp only;omega,by simp only;rw[hR];exact hs⟩,by simp only;omega,hsub⟩
theorem Ht(w:ee)(x:fk)(aw:gD w)(hr1:w.rs.length≤1000000)(hk:cH x.kind 10=6):bm Tryd.prog 11 [enc w,enc x] (.tuple [enc (dE w x).1,enc (dE w x).2]):=by
 refine bm.cg Tryd.func11 nP nR nT (u8 rfl) (fun hwf W0 bO E1 =>?_);simp only[mB,nf,bQ,zz1];clear hwf;have ar:=aw.gM;refine og _ _ w x ar.len (fun q =>?_);obtain ⟨ps,rs,bs⟩:=w;simp only at ar;have hmod:=iE x.je (m:=6) (by decide);have hm6:bz x<6:=by simp only[bz];omega
 have hi:bz x<ps.length:=by rw[ar.len];exact hm6
 have hl:=ar.len;have hF0:=jG x.kind 10 (by decide) (by decide);rw[hk] at hF0;simp only[lz,hl];have hT1:=jF (gb 20 [] 3 0 6) (de rs) (de bs);have hS4:=kL (gb 20 [] 3 0 6) (de rs) (de bs);have hst:=nB (q:=q) hi;have hat:=lC (q:=q) hi;have hv:=lP (n:=20) hm6;have hf0:=fun ts os=>iA (rs:=rs) (bs:=bs) (q:=q) hl ts os;have hf1:=fun (p:aW) ts os=>iA (rs:=rs) (bs:=bs) (q:=q) (lj hl (bz x) p) ts os;simp only at hr1;have hA:dE ⟨ps,rs,bs⟩ x=eH ⟨ps,rs,bs⟩ (bz x) (h1 (aS ps (bz x))) (rs++qU (h1 (aS ps (bz x))).1 (bz x)) bs:=by simp only[dE,hk];rfl
 have hF:=tD (aS ps (bz x));obtain ⟨kk,s1,s2,_⟩:=BZ ar hm6;obtain ⟨I2,_,_⟩:=ar.kj hm6 s2;have hout:∀ k:Nat,k<6→(k:Int)≠bz x→(iG (h1 (aS ps (bz x))).1 k).2=0:=fun k hk hne=>by
  have:=(BY I2 hm6 (to:=k) (iC.2 (by omega)) hne).1
  rwa [sO hi,if_pos rfl] at this
 rw[hA];simp only[eH,s1,if_true];rw[s1] at hF;clear s1 s2 I2 hA;generalize (h1 (aS ps (bz x))).1=p' at *;have hKn:=nF 0;have e0:((0:Int)==0)=true:=rfl;have hA:sj 0=true:=rfl;rw[hA] at hKn ⊢;have R:=y6 @hT1 (y6 @hS4 (y6 @hst (y6 @hat (y6 @hv (y6 @gf (y6 @gh (y6 @eD (y6 @bE (y6 @bp (y6 @dX aK))))))))))
 repeat' ((first |(with_reducible refine .guard (fun hb =>?_) (fun hb =>?_) <;>try simp only[hb])|refine ae.aM (by decide +kernel) rfl fun K hK =>?_|refine .flat _ (hF0) rfl ?_|refine .lead _ (hF) ?_|(refine .aD [0,1,2,3,4,5,6,7,8,9,10,11,12,13,14,15,16,39,43,67,72,81,90,95,103,114,127,145,154,166,171,187] hK ?_;clear hK K)|(with_reducible refine .done (hK _ ?_);clear hK K)|refine ae.of rfl ?_|(with_reducible refine aF.aL (fun h =>?_) (fun h =>?_) <;>try simp only[h])) <;>try simp only[aN,R,simprocAttr])
 all_goals clear R
 refine ae.loop (fun t:Nat×I×List (Nat×ao)=>lx ps bs q (bz x) p' t.1 t.2.1 t.2.2) (fun t=>t.1≤6∧oP t.2.1 t.2.2 (rs++gV p' (bz x) t.1)) (fun t=>6-t.1) (0,enc rs,[]) ⟨zw4 _,.inl ⟨by simp[gV],rfl⟩⟩ ?_ ?_
 ·simp only[lx,zy3];clear hT1 hS4 hst hat hf0 hf1;refine bt.c8 ?_ ?_ ?_ ?_ <;>simp[*,cn,cY,cu,cB,av,cw,cW,I.only,I.b6,ao.only,cv,ml,nt]
 rintro ⟨k,v,ov⟩ ⟨hk6,hsrc⟩;simp only at hk6 hsrc;have hone:=Z5 hsrc;have hTv:=jF (gb 20 [] 3 0 6) hone (de bs);by_cases hlt:k<6
 ·have hlc:decide ((k:Int)<6)=true:=decide_eq_true (by omega);have hw:=gl (i:=k) (by omega);have hsn:=yq p' (bz x) k;rcases q5:((k:Int)==(bz x:Int))
  ·have q6:¬ (k:Int)=bz x:=by simpa using q5
   rw[if_neg q6] at hsn;have hO:=tE p' k;rw[hout k hlt q6] at hO;have hol:=yr p' k;have hRl:(rs++gV p' (bz x) k).length≤1000000+400*k:=by
    have:∀ n,(gV p' (bz x) n).length≤400*n:=fun n=>by
     induction n with
     |zero=>simp[gV]
     |succ n ih =>
      rw[yq,zz6];split
      ·simp;omega
      ·have:=yr p' n;omega
    have:=this k;rw[zz6];omega
   have hsn2:rs++gV p' (bz x) (k+1)=(rs++gV p' (bz x) k)++(iG p' k).1:=by rw[hsn,zz9]
   generalize rs++gV p' (bz x) k=R at *;generalize (iG p' k).1=out at *;have happ:=fun ts os e bytes z rest=>Z2 hsrc ts os (some 182) e bytes z rest;have hov:=Z4 hsrc;simp only[lx,zz2,zx3];have R:=y6 @hlc (y6 @q5 (y6 @e0 (y6 @hTv (y6 @happ (y6 @gf (y6 @gh (y6 @eD (y6 @bE (y6 @bp (y6 @dX aK))))))))))
   repeat' ((first |(with_reducible refine .guard (fun hb =>?_) (fun hb =>?_) <;>try simp only[hb])|refine ae.aM (by decide +kernel) rfl fun K hK =>?_|refine .lead _ (hO) ?_|(refine .aD [0,1,2,3,4,5,6,7,8,9,10,11,12,13,14,15,16,39,43,67,72,81,90,95,103,114,127,145,154,166,171,187] hK ?_;clear hK K)|(with_reducible refine .done (hK _ ?_);clear hK K)|refine ae.of rfl ?_|(with_reducible refine aF.aL (fun h =>?_) (fun h =>?_) <;>try simp only[h])) <;>try simp only[aN,R,simprocAttr])
   all_goals clear R
   refine aT.uw (l:=[]) (ys:=R) GJ rfl (Di _ []) (by simp[cW,hov]) (by rw[List.length_nil];omega) (by simp only[maxLen,List.length_nil];omega) fun v1 o1 g1 f1 =>?_;rw[zx3] at g1
   try simp only[bK,simprocAttr]
   refine aT.uw GJ rfl g1 ((f1 184 (by decide)).trans (by simp[cW,hov])) (by omega) (by simp only[maxLen];omega) fun v2 o2 g2 f2 =>?_;have ho2:aj o2 2=some (.box (dO (.view 20 [] 3 0 6) v (enc bs))):=(f2 2 (by decide)).trans ((f1 2 (by decide)).trans (by simp[cW]));have ho4:aj o2 4=some (.box (.agg [.nils 3,.nils 5,.nils 1])):=(f2 4 (by decide)).trans ((f1 4 (by decide)).trans (by simp[cW]));have ho9:aj o2 9=some (.box (enc p')):=(f2 9 (by decide)).trans ((f1 9 (by decide)).trans (by simp[cW]));have ho20:aj o2 20=some (.box (gK ps q)):=(f2 20 (by decide)).trans ((f1 20 (by decide)).trans (by simp[cW]));have hS1:=aaB (v:=.view 20 [] 3 0 6) (b:=enc bs) hone (ux g2)
   try simp only[ho2,hTv,hS1,aK,bK,simprocAttr]
   refine .done (hK _ ?_);clear hK K;have R:=y6 @hw (y6 @eD (y6 @bE (y6 @bp (y6 @dX aK))))
   repeat' ((first |(with_reducible refine .guard (fun hb =>?_) (fun hb =>?_) <;>try simp only[hb])|refine ae.aM (by decide +kernel) rfl fun K hK =>?_|(refine .aD [0,1,2,3,4,5,6,7,8,9,10,11,12,13,14,15,16,39,43,67,72,81,90,95,103,114,127,145,154,166,171,187] hK ?_;clear hK K)|(with_reducible refine .done (hK _ ?_);clear hK K)|refine ae.of rfl ?_|(with_reducible refine aF.aL (fun h =>?_) (fun h =>?_) <;>try simp only[h])) <;>try simp only[aN,R,simprocAttr])
   all_goals clear R
   refine aak (R:=R++out) hlt hsn2 (WC g2 fun m hm =>?_) rfl rfl rfl rfl rfl rfl rfl ?_ ?_ ?_ ?_
   ·simp only[zw9,List.not_mem_nil,or_false] at hm;rcases hm with rfl | rfl <;>simp[cW]
   ·simp[cW]
   ·simp[cW,ho20]
   ·simp[cW,ho4]
   ·simp[cW,ho9]
  ·have q6:(k:Int)=bz x:=by simpa using q5
   rw[if_pos q6,zy3] at hsn;rw[←hsn] at hsrc;rcases hsrc with ⟨rfl,rfl⟩ | ⟨rfl,hR,rfl⟩ | ⟨qq,rfl,rfl⟩
   ·simp only[lx,zy3];have R:=y6 @hlc (y6 @q5 (y6 @e0 (y6 @hw (y6 @eD (y6 @bE (y6 @bp (y6 @dX aK)))))))
    repeat' ((first |(with_reducible refine .guard (fun hb =>?_) (fun hb =>?_) <;>try simp only[hb])|refine ae.aM (by decide +kernel) rfl fun K hK =>?_|(refine .aD [0,1,2,3,4,5,6,7,8,9,10,11,12,13,14,15,16,39,43,67,72,81,90,95,103,114,127,145,154,166,171,187] hK ?_;clear hK K)|(with_reducible refine .done (hK _ ?_);clear hK K)|refine ae.of rfl ?_|(with_reducible refine aF.aL (fun h =>?_) (fun h =>?_) <;>try simp only[h])) <;>try simp only[aN,R,simprocAttr])
    all_goals clear R
    refine ⟨(k+1,enc (rs++gV p' (bz x) (k+1)),[]),⟨by simp only;omega,.inl ⟨rfl,rfl⟩⟩,by simp only;omega,?_⟩;simp only[zy3];clear hTv hone hT1 hS4 hst hat hf0 hf1 hsn;refine bt.c8 ?_ ?_ ?_ ?_ <;>simp[*,cn,cY,cu,cB,av,cw,cW,I.only,I.b6,ao.only,cv,ml,nt]
   ·simp only[lx,zy3];have R:=y6 @hlc (y6 @q5 (y6 @e0 (y6 @hw (y6 @eD (y6 @bE (y6 @bp (y6 @dX aK)))))))
    repeat' ((first |(with_reducible refine .guard (fun hb =>?_) (fun hb =>?_) <;>try simp only[hb])|refine ae.aM (by decide +kernel) rfl fun K hK =>?_|(refine .aD [0,1,2,3,4,5,6,7,8,9,10,11,12,13,14,15,16,39,43,67,72,81,90,95,103,114,127,145,154,166,171,187] hK ?_;clear hK K)|(with_reducible refine .done (hK _ ?_);clear hK K)|refine ae.of rfl ?_|(with_reducible refine aF.aL (fun h =>?_) (fun h =>?_) <;>try simp only[h])) <;>try simp only[aN,R,simprocAttr])
    all_goals clear R
    refine ⟨(k+1,.c0 5,[]),⟨by simp only;omega,.inr (.inl ⟨rfl,hR,rfl⟩)⟩,by simp only;omega,?_⟩;simp only[zy3];clear hTv hone hT1 hS4 hst hat hf0 hf1 hsn hR;refine bt.c8 ?_ ?_ ?_ ?_ <;>simp[*,cn,cY,cu,cB,av,cw,cW,I.only,I.b6,ao.only,cv,ml,nt]
   ·simp only[lx,zz2,zx3];have R:=y6 @hlc (y6 @q5 (y6 @e0 (y6 @hw (y6 @eD (y6 @bE (y6 @bp (y6 @dX aK)))))))
    repeat' ((first |(with_reducible refine .guard (fun hb =>?_) (fun hb =>?_) <;>try simp only[hb])|refine ae.aM (by decide +kernel) rfl fun K hK =>?_|(refine .aD [0,1,2,3,4,5,6,7,8,9,10,11,12,13,14,15,16,39,43,67,72,81,90,95,103,114,127,145,154,166,171,187] hK ?_;clear hK K)|(with_reducible refine .done (hK _ ?_);clear hK K)|refine ae.of rfl ?_|(with_reducible refine aF.aL (fun h =>?_) (fun h =>?_) <;>try simp only[h])) <;>try simp only[aN,R,simprocAttr])
    all_goals clear R
    refine ⟨(k+1,.view 904 [] 5 0 (rs++gV p' (bz x) (k+1)).length,[(904,.box (.agg (((rs++gV p' (bz x) (k+1))++qq).map enc)))]),⟨by simp only;omega,.inr (.inr ⟨qq,rfl,rfl⟩)⟩,by simp only;omega,?_⟩;simp only[];generalize rs++gV p' (bz x) (k+1)=R;clear hTv hone hT1 hS4 hst hat hf0 hf1 hsn;refine bt.c8 ?_ ?_ ?_ ?_ <;>simp[*,cn,cY,cu,cB,av,cw,cW,I.only,I.b6,ao.only,eN,j0,cv,ml,nt,j0,eN]
 ·have hlc:decide ((k:Int)<6)=false:=decide_eq_false (by omega);have hge:k=6:=by omega
  rw[hge,EK] at hsrc;have hS5:=kL (gb 20 [] 3 0 6) hone (de bs);have hf2:∀ ts os,aj os 20=some (.box (gK (ps.set (bz x) p') q))→aj os 904=aj ov 904→bn true (au ts os) (dO (.view 20 [] 3 0 6) v (enc bs))=some (enc (⟨ps.set (bz x) p',rs++qU p' (bz x),bs⟩:ee)):=fun ts os U ab =>
   uo (xl (lj hl _ _).symm U) (Z3 hsrc ts os ab) (by simp only[mH])
  simp only[lx,zz2,zx3];have R:=y6 @hlc (y6 @e0 (y6 @hTv (y6 @hS5 (y6 @hst (y6 @hat (y6 @hv (y6 @hf2 (y6 @gf (y6 @gh (y6 @eD (y6 @bE (y6 @bp (y6 @dX aK)))))))))))))
  repeat' ((first |(with_reducible refine .guard (fun hb =>?_) (fun hb =>?_) <;>try simp only[hb])|refine ae.aM (by decide +kernel) rfl fun K hK =>?_|refine .flat _ (hKn) rfl ?_|(refine .aD [0,1,2,3,4,5,6,7,8,9,10,11,12,13,14,15,16,39,43,67,72,81,90,95,103,114,127,145,154,166,171,187] hK ?_;clear hK K)|(with_reducible refine .done (hK _ ?_);clear hK K)|refine ae.of rfl ?_|(with_reducible refine aF.aL (fun h =>?_) (fun h =>?_) <;>try simp only[h])) <;>try simp only[aN,R,simprocAttr])
  all_goals clear R
theorem Hl(w:ee)(x:fk)(aw:gD w)(hr1:w.rs.length≤1000000)(hb1:w.bs.length≤1000000):bm Tryd.prog 11 [enc w,enc x] (.tuple [enc (dE w x).1,enc (dE w x).2]):=by
 have hm:=iE x.kind (m:=10) (by decide);by_cases aZ:cH x.kind 10=0
 ·exact Hm w x aw hb1 aZ
 by_cases U:cH x.kind 10=1
 ·exact Hn w x aw U
 by_cases ab:cH x.kind 10=2
 ·exact Ho w x aw ab
 by_cases af:cH x.kind 10=3
 ·exact Hp w x aw af
 by_cases aq:cH x.kind 10=4
 ·exact Hr w x aw aq
 by_cases h5:cH x.kind 10=5
 ·exact Hq w x aw h5
 by_cases h6:cH x.kind 10=6
 ·exact Ht w x aw hr1 h6
 exact Hs w x aw hr1 (by omega)
def j4(l:List fk)(n:Nat):ee:=(l.take n).foldl (fun w x=>(dE w x).1) eZ
theorem ES{l:List fk}{n:Nat}(h:n<l.length):j4 l (n+1)=(dE (j4 l n) l[n]).1:=by
 simp only[j4,zy0 h,List.foldl_append,List.foldl_cons,List.foldl_nil]
theorem sN{m:Nat}(h:m<6):aS (gp 6) m=⟨(m:Int),[],0⟩:=by
 have hl:m<(gp 6).length:=by rw[oR];exact h
 rw[←mZ hl];simp[gp]
theorem Wz:gD eZ:=by
 have ho:∀ m,m<6→cK (aS (gp 6) m)=some (eh m):=fun m hm=>by
  rw[sN hm,cK,if_pos (by simp only[iF,t8,iC,decide_eq_true_eq,List.length_nil];omega)];rfl
 refine ⟨⟨oR 6,fun m hm=>by show (aS (gp 6) m).aB=m;rw[sN hm],fun m hm =>?_,fun m hm e he =>?_⟩,fun b =>?_,fun r hr=>by cases hr⟩
 ·show cK (aS (gp 6) m)=some (bW (gp 6) m)
  simp only[bW,ho m hm,Option.getD_some]
 ·have he:e∈(aS (gp 6) m).j:=he;rw[sN hm] at he;cases he
 ·have:gP (gp 6) 1 b=0:=by
   rw[gP,nJ (g:=fun _=>0) fun m hm=>by rw[sN hm];rfl,oO]
  show gP (gp 6) 1 b≤1∧(0<gP (gp 6) 1 b→b∈([]:List Int))
  rw[this];simp
theorem Iv(w:ee)(x:fk):(dE w x).1.rs.length≤w.rs.length+2400∧(dE w x).1.bs.length≤w.bs.length+1:=by
 have ho:∀ p m,(qU p m).length≤2400:=fun p m=>by
  rw[←EK];have:∀ n,(gV p m n).length≤400*n:=fun n=>by
   induction n with
   |zero=>simp[gV]
   |succ n ih =>
    rw[yq,zz6];split
    ·simp;omega
    ·have:=yr p n;omega
  exact this 6
 simp only[dE]
 (repeat' split) <;>simp only[eH]
 all_goals (first | (simp;done) | (have:=ho (h1 (aS w.ps (bz x))).1 (bz x);simp only[zz6];omega) | (split <;>simp) | simp)
structure Ik (w:ee) (n:Nat):Prop where
 fX:gD w
 N9:ic w.ps≤n
 Gt:w.rs.length≤2400*n
 Ae:w.bs.length≤n
theorem yA(l:List fk):∀ n,n≤l.length→Ik (j4 l n) n
 |0,_=>⟨Wz,by show ic (gp 6)≤0;rw[ic,nJ (g:=fun _=>0) fun m hm=>by rw[sN hm];rfl,oO];exact zz5 _,zw4 _,zw4 _⟩
 |n+1,h=>by
  have ih:=yA l n (by omega);rw[ES (show n<l.length by omega)];obtain ⟨_,ab,af⟩:=zO ih.fX l[n];obtain ⟨aq,h5⟩:=Iv (j4 l n) l[n];have h6:=ih.N9;have h7:=ih.Gt;have h8:=ih.Ae;exact ⟨ab,by omega,by omega,by omega⟩
theorem gD.one{w:ee}(aw:gD w):vX w.ps:=fun b=>(aw.oa b).1
def nI(l:List fk)(n:Nat)(w:ee)(ts:List (Nat×I))(i:Nat):ai :=
 au ([(0,enc l),(1,.int .i64 n),(4,.ptr 4 []),(5,.bool false),(6,.ptr 6 []),(7,.bool true),(8,.int .i64 i)]++ts) [(6,.box (enc w)),(4,.box (.agg [.nils 3,.nils 5,.nils 1]))]
theorem pQ(A:ai)(n:Nat)(b:I)(w:ee)(rest:List aw):da A (some 3) n [] b (enc w) rest (some (.agg [.nils 3,.nils 5,.nils 1]))=aA rest (A.aV n (.box (enc w))) :=
 kL (de w.ps) (de w.rs) (de w.bs) A n b rest
theorem ze(A:ai)(n:Nat)(b:I)(w v:ee)(rest:List aw):da A (some 3) n [] b (enc w) rest (some (enc v))=aA rest (A.aV n (.box (enc w))):=dS (eF _) (by rw[fB];rfl) ((fg _).trans (fg _).symm)
theorem HQ(l:List fk)(n:Nat)(hn:n≤60):bm Tryd.prog 5 [enc l,enc (n:Int)] (.tuple [enc (j4 l (min n l.length)),enc true]):=by
 refine bm.cg Tryd.func5 Kc K5 L7 (u8 rfl) (fun hwf W0 bO E1 =>?_);simp only[mC,FH,bQ,zz1];clear hwf;have R:=y6 @pQ (y6 @eD (y6 @bE (y6 @bp aK)))
 repeat' ((first |(with_reducible refine .guard (fun hb =>?_) (fun hb =>?_) <;>try simp only[hb])|refine ae.aM (by decide +kernel) rfl fun K hK =>?_|refine .lead _ (Hk) ?_|(refine .aD [0,1,4,5,6,7,8,9,25,38] hK ?_;clear hK K)|(with_reducible refine .done (hK _ ?_);clear hK K)|refine ae.of rfl ?_|(with_reducible refine aF.aL (fun h =>?_) (fun h =>?_) <;>try simp only[h])) <;>try simp only[aN,R,simprocAttr])
 all_goals clear R
 refine ae.loop (fun i:Nat=>nI l n (j4 l i) [] i) (fun i=>i≤n∧i≤l.length) (fun i=>n-i) 0 ⟨zw4 _,zw4 _⟩ ?_ (fun i hi =>?_)
 ·simp only[nI,zy3];rw[show j4 l 0=eZ from rfl];refine bt.c8 ?_ ?_ ?_ ?_ <;>simp[cn,cY,cu,cB,av,cw,cW,I.only,I.b6,ao.only,cv]
 obtain ⟨hi1,hi2⟩:=hi;have P:=yA l i hi2;simp only[nI,zy3];by_cases hlt:i<l.length
 rotate_left
 ·have hc:=hE hlt;rw[show min n l.length=i by omega];generalize j4 l i=w at *;have R:=y6 @hc (y6 @pQ (y6 @eD (y6 @bE (y6 @bp aK))))
  repeat' ((first |(with_reducible refine .guard (fun hb =>?_) (fun hb =>?_) <;>try simp only[hb])|refine ae.aM (by decide +kernel) rfl fun K hK =>?_|(refine .aD [0,1,4,5,6,7,8,9,25,38] hK ?_;clear hK K)|(with_reducible refine .done (hK _ ?_);clear hK K)|refine ae.of rfl ?_|(with_reducible refine aF.aL (fun h =>?_) (fun h =>?_) <;>try simp only[h])) <;>try simp only[aN,R,simprocAttr])
  all_goals clear R
 have hc:=h0 hlt;by_cases hlt2:i<n
 rotate_left
 ·have hc2:decide ((i:Int)<(n:Int))=false:=hE hlt2;rw[show min n l.length=i by omega];generalize j4 l i=w at *;have R:=y6 @hc (y6 @hc2 (y6 @pQ (y6 @eD (y6 @bE (y6 @bp aK)))))
  repeat' ((first |(with_reducible refine .guard (fun hb =>?_) (fun hb =>?_) <;>try simp only[hb])|refine ae.aM (by decide +kernel) rfl fun K hK =>?_|(refine .aD [0,1,4,5,6,7,8,9,25,38] hK ?_;clear hK K)|(with_reducible refine .done (hK _ ?_);clear hK K)|refine ae.of rfl ?_|(with_reducible refine aF.aL (fun h =>?_) (fun h =>?_) <;>try simp only[h])) <;>try simp only[aN,R,simprocAttr])
  all_goals clear R
 have hc2:decide ((i:Int)<(n:Int))=true:=h0 hlt2;have he:=fun A=>fT (A:=A) 5 hlt rfl;have hw:=gl (i:=i) (by omega);have p3:=P.Gt;have p4:=P.Ae;have hF:=Hl (j4 l i) l[i] P.fX (by omega) (by omega);rw[(zO P.fX l[i]).1,←ES hlt] at hF;have P2:=yA l (i+1) hlt;generalize l[i]=x at *;generalize j4 l i=w at *;obtain ⟨w2,hw2⟩:∃ w2,w2=j4 l (i+1):=⟨_,rfl⟩
 rw[←hw2] at hF P2;have R:=y6 @hc (y6 @hc2 (y6 @he (y6 @pQ (y6 @ze (y6 @eD (y6 @bE (y6 @bp aK)))))))
 repeat' ((first |(with_reducible refine .guard (fun hb =>?_) (fun hb =>?_) <;>try simp only[hb])|refine ae.aM (by decide +kernel) rfl fun K hK =>?_|refine .lead _ (hF) ?_|(refine .aD [0,1,4,5,6,7,8,9,25,38] hK ?_;clear hK K)|(with_reducible refine .done (hK _ ?_);clear hK K)|refine ae.of rfl ?_|(with_reducible refine aF.aL (fun h =>?_) (fun h =>?_) <;>try simp only[h])) <;>try simp only[aN,R,simprocAttr])
 all_goals clear R
 refine ae.loop (fun b:Nat=>nI l n w2 [(9,.int .i64 b)] i) (fun b=>1≤b∧b≤6) (fun b=>6-b) 1 ⟨zz5 _,by omega⟩ ?_ (fun b hb =>?_)
 ·simp only[nI,zz2,zx3];clear hw2;refine bt.c8 ?_ ?_ ?_ ?_ <;>simp[cn,cY,cu,cB,av,cw,cW,I.only,I.b6,ao.only,cv]
 simp only[nI,zz2,zx3];by_cases hb5:b≤5
 ·have hc3:decide ((b:Int)≤5)=true:=decide_eq_true (by omega);have hw3:=gl (i:=b) (by omega);have hO:=Ih w2 b P2.fX.gM P2.fX.one (iC.2 (by omega));have R:=y6 @hc3 (y6 @hw3 (y6 @pQ (y6 @ze (y6 @eD (y6 @bE (y6 @bp aK))))))
  repeat' ((first |(with_reducible refine .guard (fun hb =>?_) (fun hb =>?_) <;>try simp only[hb])|refine ae.aM (by decide +kernel) rfl fun K hK =>?_|refine .flat _ (hO) rfl ?_|(refine .aD [0,1,4,5,6,7,8,9,25,38] hK ?_;clear hK K)|(with_reducible refine .done (hK _ ?_);clear hK K)|refine ae.of rfl ?_|(with_reducible refine aF.aL (fun h =>?_) (fun h =>?_) <;>try simp only[h])) <;>try simp only[aN,R,simprocAttr])
  all_goals clear R
  refine ⟨b+1,by omega,by omega,?_⟩
  try simp only[nI,zz2,zx3]
  clear hw2;refine bt.c8 ?_ ?_ ?_ ?_ <;>simp[cn,cY,cu,cB,av,cw,cW,I.only,I.b6,ao.only,cv]
 ·have hc3:decide ((b:Int)≤5)=false:=decide_eq_false (by omega);have R:=y6 @hc3 (y6 @hw (y6 @pQ (y6 @ze (y6 @eD (y6 @bE (y6 @bp aK))))))
  repeat' ((first |(with_reducible refine .guard (fun hb =>?_) (fun hb =>?_) <;>try simp only[hb])|refine ae.aM (by decide +kernel) rfl fun K hK =>?_|(refine .aD [0,1,4,5,6,7,8,9,25,38] hK ?_;clear hK K)|(with_reducible refine .done (hK _ ?_);clear hK K)|refine ae.of rfl ?_|(with_reducible refine aF.aL (fun h =>?_) (fun h =>?_) <;>try simp only[h])) <;>try simp only[aN,R,simprocAttr])
  all_goals clear R
  refine ⟨i+1,by omega,by omega,?_⟩
  try simp only[nI,zy3]
  rw[←hw2];clear hw2;refine bt.c8 ?_ ?_ ?_ ?_ <;>simp[cn,cY,cu,cB,av,cw,cW,I.only,I.b6,ao.only,cv]
theorem HB(l:List fk):bm Tryd.prog 3 [enc l] (enc true):=by
 refine bm.cg Tryd.func3 JV KP LP (u8 rfl) (fun hwf W0 bO E1 =>?_);simp only[c3,lY,bQ];clear hwf;have hF:=HQ l 60 (zz5 _);rw[show ((60:Nat):Int)=60 from rfl] at hF;have hS:=HZ;have R:=y6 @pQ (y6 @eD (y6 @bE (y6 @bp aK)))
 repeat' ((first |(with_reducible refine .guard (fun hb =>?_) (fun hb =>?_) <;>try simp only[hb])|refine ae.aM (by decide +kernel) rfl fun K hK =>?_|refine .lead _ (hF) ?_|refine .flat _ (hS) rfl ?_|(refine .aD [0,2,4] hK ?_;clear hK K)|(with_reducible refine .done (hK _ ?_);clear hK K)|refine ae.of rfl ?_|(with_reducible refine aF.aL (fun h =>?_) (fun h =>?_) <;>try simp only[h])) <;>try simp only[aN,R,simprocAttr])
 all_goals clear R
end Go.Proofs.YthbdbocionnfgaaDoor
