/-
  A part of the proof that the law HerdLists returns true for every input; conditions: none beyond the statement's own. (part 6 of 7)
-/
import Derived.Test.YtcldiigclhgafaaGreatNce
set_option linter.unusedSimpArgs false
set_option linter.unusedVariables false
set_option maxHeartbeats 16000000
set_option maxRecDepth 100000
namespace Go.Proofs.YtcldiigclhgafaaGreat
open Go Go.Abs
open Go.Abs.Enc (enc)
def wL(g:ak):cR:=fun r os'=>∃ q,r=.view 25 [] 17 0 1∧os'=dA 25 [g] q
theorem LU(A:af):lC A 17 (some (.int .i64 0)) none none (.c0 17)=some (.slice 17 [])∧lC A 17 (some (.int .i64 0)) none none (.nils 17)=some (.slice 17 []):=by
 constructor <;>simp[lC,js,gT]
theorem yG(x:I)(hx:x=.nils 17∨x=.c0 17)(g:ak):cA Tryz.prog 153 [x,enc (0:Int),enc [g]] [] (wL g):=by
 rcases hx with rfl | rfl
 ·refine cA.bn Tryz.func153 uA uD uO (Nat.le_of_ble_eq_true rfl) (Nat.le_of_ble_eq_true rfl) (fun m hm=>by simp[au,al] at hm) (fun hwf W0 D0 E1 =>?_)
  simp only[rC,s9,bg,Nat.zero_add,Nat.reduceAdd]
  refine .ar (by decide +kernel) fun K hK =>?_
  simp only[r0,ab,simprocAttr]
  refine .done (hK _ ?_);clear hK K
  refine .ar (by decide +kernel) fun K hK =>?_
  simp only[r2,ab,simprocAttr]
  try simp only[Option.map_none,(LU _).2,ab,simprocAttr]
  refine .done (hK _ ?_);clear hK K
  refine .ar (by decide +kernel) fun K hK =>?_
  simp only[r3,ab,simprocAttr]
  try simp only[bI,ab,simprocAttr]
  refine .done (hK _ ?_);clear hK K
  refine U.seq (U.seq ?_)
  refine .bP (by decide +kernel) fun K hK =>?_
  simp only[r4,ab,simprocAttr]
  try simp only[dB,bI,gb,dC,ab,simprocAttr]
  refine .done (hK _ ?_);clear hK K;try simp only[ay]
  refine U.bM ?_
  simp only[ao,ab,simprocAttr]
  refine ⟨fun h =>?_,fun h =>?_⟩
  ·first | cases h | simp at h
  refine U.skip ?_;try simp only[ay,simprocAttr]
  refine .ar (by decide +kernel) fun K hK =>?_
  simp only[r5,ab,simprocAttr]
  try simp only[dB,bI,gb,dC,ab,simprocAttr]
  refine .done (hK _ ?_);clear hK K
  refine U.seq (U.seq ?_)
  refine .bP (by decide +kernel) fun K hK =>?_
  simp only[r6,ab,simprocAttr]
  try simp only[dB,bI,gb,dC,ab,simprocAttr]
  refine .done (hK _ ?_);clear hK K;try simp only[ay]
  refine U.bM ?_
  simp only[ao,ab,simprocAttr]
  refine ⟨fun h =>?_,fun h =>?_⟩
  case refine_2.refine_2=>first | cases h | simp at h
  refine .ar (by decide +kernel) fun K hK =>?_
  simp only[p6,ab,simprocAttr]
  try simp only[ki,simprocAttr]
  refine a6.Oq (esz:=17) cw (l:=[g]) rfl (by simp) rfl (by simp) (by simp[maxLen]) fun q =>?_
  try simp only[ab,simprocAttr]
  refine .done (hK _ ?_);clear hK K
  refine U.ret ?_
  simp only[ay,eL]
  exact ⟨dA 25 [g] q,[.view 25 [] 17 0 1],jQ rfl (fun p=>fu p _),⟨⟨_,rfl,.inl ⟨rfl,rfl,rfl⟩⟩,trivial⟩,q,rfl,rfl⟩
 ·refine cA.bn Tryz.func153 uA uD uO (Nat.le_of_ble_eq_true rfl) (Nat.le_of_ble_eq_true rfl) (fun m hm=>by simp[au,al] at hm) (fun hwf W0 D0 E1 =>?_)
  simp only[rC,s9,bg,Nat.zero_add,Nat.reduceAdd]
  refine .ar (by decide +kernel) fun K hK =>?_
  simp only[r0,ab,simprocAttr]
  refine .done (hK _ ?_);clear hK K
  refine .ar (by decide +kernel) fun K hK =>?_
  simp only[r2,ab,simprocAttr]
  try simp only[Option.map_none,(LU _).1,ab,simprocAttr]
  refine .done (hK _ ?_);clear hK K
  refine .ar (by decide +kernel) fun K hK =>?_
  simp only[r3,ab,simprocAttr]
  try simp only[bI,ab,simprocAttr]
  refine .done (hK _ ?_);clear hK K
  refine U.seq (U.seq ?_)
  refine .bP (by decide +kernel) fun K hK =>?_
  simp only[r4,ab,simprocAttr]
  try simp only[dB,bI,gb,dC,ab,simprocAttr]
  refine .done (hK _ ?_);clear hK K;try simp only[ay]
  refine U.bM ?_
  simp only[ao,ab,simprocAttr]
  refine ⟨fun h =>?_,fun h =>?_⟩
  ·first | cases h | simp at h
  refine U.skip ?_;try simp only[ay,simprocAttr]
  refine .ar (by decide +kernel) fun K hK =>?_
  simp only[r5,ab,simprocAttr]
  try simp only[dB,bI,gb,dC,ab,simprocAttr]
  refine .done (hK _ ?_);clear hK K
  refine U.seq (U.seq ?_)
  refine .bP (by decide +kernel) fun K hK =>?_
  simp only[r6,ab,simprocAttr]
  try simp only[dB,bI,gb,dC,ab,simprocAttr]
  refine .done (hK _ ?_);clear hK K;try simp only[ay]
  refine U.bM ?_
  simp only[ao,ab,simprocAttr]
  refine ⟨fun h =>?_,fun h =>?_⟩
  case refine_2.refine_2=>first | cases h | simp at h
  refine .ar (by decide +kernel) fun K hK =>?_
  simp only[p6,ab,simprocAttr]
  try simp only[ki,simprocAttr]
  refine a6.pN (esz:=17) cw (l:=[g]) rfl (by simp) rfl (by simp) (by simp[maxLen]) fun q =>?_
  try simp only[ab,simprocAttr]
  refine .done (hK _ ?_);clear hK K
  refine U.ret ?_
  simp only[ay,eL]
  exact ⟨dA 25 [g] q,[.view 25 [] 17 0 1],jQ rfl (fun p=>fu p _),⟨⟨_,rfl,.inl ⟨rfl,rfl,rfl⟩⟩,trivial⟩,q,rfl,rfl⟩
theorem ah5(p:Nat→Bool)(q:Nat):I.bU p (List.replicate q (enc cw))=true:=by
 rw[←List.map_replicate];exact ev p _
def pJ(out:List ak)(v:I)(os:List (Nat×ai)):Prop :=
 (out=[]∧(v=.nils 17∨v=.c0 17)∧os=[])∨(out≠[]∧∃ nm k,(nm=906∨nm=907)∧v=.view nm [] 17 0 out.length∧os=dA nm out k)
theorem afX{nm n i:Nat}(h:i<n)(fs:List I):lh nm [] 17 0 n 17 (i:Int) (some fs)=some (.ptr nm [i]):=by
 have:=wS (m:=nm) (sz:=17) (lo:=0) (l:=n) (i:=i) (fs:=fs) h
 rwa [Nat.zero_add] at this
theorem OH{l:List ak}{k i:Nat}(h:i<l.length):jw i [] (some ((l++List.replicate k cw).map enc))=some (enc (ae l i)):=by
 rw[uo (α:=ak) default (by simp;omega)]
 simp only[ae,List.getD_eq_getElem?_getD]
 rw[List.getElem?_append_left h]
theorem rU{l:List ak}{k:Nat} : kW 17 0 l.length (some ((l++List.replicate k cw).map enc))=some (enc l):=by
 rw[pZ (α:=ak) (sz:=17) rfl,List.take_left]
theorem agY:(∀ A z,jB A (.nils z)=some (.int .i64 0))∧(∀ A z,jB A (.c0 z)=some (.int .i64 0)):=⟨fun _ _=>rfl,fun _ _=>rfl⟩
theorem yz(l more:List ak)(hs:gS l)(hl:l.length≤60)(hm:more.length≤60):az Tryz.prog 112 [enc l,enc more] (.tuple [enc (ji l more).1,enc (ji l more).2]):=by
 refine az.bn Tryz.func112 Pn Rk Tu (Nat.le_of_ble_eq_true rfl) (fun hwf W0 D0 E1 =>?_)
 simp only[zu,Jx,bg,Nat.zero_add]
 clear hwf
 obtain ⟨J,hJ⟩:∃ J,J=ji l more:=⟨_,rfl⟩
 rw[←hJ]
 refine .ar (by decide +kernel) fun K hK =>?_
 simp only[CZ,ab,simprocAttr]
 refine .done (hK _ ?_);clear hK K
 refine .ar (by decide +kernel) fun K hK =>?_
 simp only[C0,ab,simprocAttr]
 try simp only[ab,simprocAttr]
 refine .bQ false [(7,906)] [] [enc l] (uK l) rfl (yD l (by omega)) fy.nil ⟨.inl ⟨(gL _ _).symm,bG _ _,dz _⟩,trivial⟩ ?_ ?_
 ·rintro x os' (⟨_,h | h,rfl⟩ | ⟨_,k,rfl,rfl⟩)
  ·subst h;exact dn.nil (fun _=>rfl) (fun h=>by cases h)
  ·subst h;exact dn.nil (fun _=>rfl) (fun h=>by cases h)
  ·exact dn.o9 (fun p=>sG p _) (fun h=>by cases h) rfl (fun h=>by cases h) rfl (by decide)
 rintro x0 os' hp
 have hO:pJ l (x0.aS (bF [(7,906)])) (dF [(7,906)] os'++[]):=by
  rcases hp with ⟨hn,h,rfl⟩ | ⟨hn,k,rfl,rfl⟩
  ·left
   rcases h with rfl | rfl
   ·exact ⟨hn,.inl rfl,rfl⟩
   ·exact ⟨hn,.inr rfl,rfl⟩
  ·right
   refine ⟨hn,906,k,.inl rfl,rfl,?_⟩
   simp only[dA,fK,fS,List.append_nil,if_true]
 generalize x0.aS (bF [(7,906)])=v at hO ⊢
 generalize dF [(7,906)] os'++[]=os at hO ⊢
 try simp only[ab,simprocAttr]
 refine .done (hK _ ?_);clear hK K
 refine U.seq (U.seq ?_)
 refine .bP (by decide +kernel) fun K hK =>?_
 simp only[C1,ab,simprocAttr]
 try simp only[bI,ab,simprocAttr]
 refine .done (hK _ ?_);clear hK K;try simp only[ay]
 refine U.block (U.loop (fun s:Nat×List ak×I×List (Nat×ai)=>av [(6,s.2.2.1),(13,enc more),(14,.int .i64 more.length),(15,.int .i64 s.1)] s.2.2.2) (fun s=>s.1≤more.length∧pJ s.2.1 s.2.2.1 s.2.2.2∧gS s.2.1∧s.2.1.length≤60+s.1∧iI l more=iI s.2.1 (more.drop s.1)) (fun s=>more.length-s.1) (0,l,v,os) ⟨Nat.zero_le _,hO,hs,by simp only;omega,rfl⟩ ?_ ?_)
 ·refine aI.c7 ?_ (fun n=>rfl)
  simp[bd,bh]
 clear hO hp
 rintro ⟨i,out,v,os⟩ ⟨h1,hO,hs,hol,hj⟩
 simp only at h1 hO hs hol hj ⊢
 by_cases hlt:i<more.length
 case neg =>
  have hc:=gp hlt
  have hge:i=more.length:=by omega
  subst hge
  have hJ2:J=if out.length≤60 then (out,0) else ([],2):=by
   rw[hJ,ji,hj,List.drop_length];rfl
  rw[hJ2]
  rcases hO with ⟨rfl,hv,rfl⟩ | ⟨hne,nm,k,hnm,rfl,rfl⟩
  ·have h60:decide ((60:Int)<0)=false:=rfl
   rcases hv with rfl | rfl
   all_goals
    have R:=And.intro @hc (And.intro @h60 (And.intro @agY (And.intro @bI (And.intro @aP @ab))))
    repeat' ((first
     |(with_reducible refine .guard (fun hb =>?_) (fun hb =>?_) <;>try simp only[hb])
     |refine U.aL (by decide +kernel) rfl fun K hK =>?_
     |(refine .aF [0,1,4,5,6,8,9,10,13,14,15,16,34,36,45] hK ?_;clear hK K)
     |(with_reducible refine .done (hK _ ?_);clear hK K)
     |refine U.of rfl ?_
     |(with_reducible refine ao.aK (fun h =>?_) (fun h =>?_) <;>try simp only[h])) <;>try simp only[aM,R,simprocAttr])
    all_goals clear R
    all_goals first | rfl | exact absurd (by assumption) (by decide:¬ decide ((60:Int)<0)=true)
  ·have hfv:=fun k=>rU (l:=out) (k:=k)
   by_cases hl60:out.length≤60
   ·have h60:decide ((60:Int)<(out.length:Int))=false:=by simp;omega
    rw[if_pos hl60]
    simp only[dA]
    have R:=And.intro @hc (And.intro @h60 (And.intro @hfv (And.intro @c9 (And.intro @bI (And.intro @aP @ab)))))
    repeat' ((first
     |(with_reducible refine .guard (fun hb =>?_) (fun hb =>?_) <;>try simp only[hb])
     |refine U.aL (by decide +kernel) rfl fun K hK =>?_
     |(refine .aF [0,1,4,5,6,8,9,10,13,14,15,16,34,36,45] hK ?_;clear hK K)
     |(with_reducible refine .done (hK _ ?_);clear hK K)
     |refine U.of rfl ?_
     |(with_reducible refine ao.aK (fun h =>?_) (fun h =>?_) <;>try simp only[h])) <;>try simp only[aM,R,simprocAttr])
    all_goals clear R
   ·have h60:decide ((60:Int)<(out.length:Int))=true:=by simp;omega
    rw[if_neg hl60]
    simp only[dA]
    have R:=And.intro @hc (And.intro @h60 (And.intro @hfv (And.intro @c9 (And.intro @bI (And.intro @aP @ab)))))
    repeat' ((first
     |(with_reducible refine .guard (fun hb =>?_) (fun hb =>?_) <;>try simp only[hb])
     |refine U.aL (by decide +kernel) rfl fun K hK =>?_
     |(refine .aF [0,1,4,5,6,8,9,10,13,14,15,16,34,36,45] hK ?_;clear hK K)
     |(with_reducible refine .done (hK _ ?_);clear hK K)
     |refine U.of rfl ?_
     |(with_reducible refine ao.aK (fun h =>?_) (fun h =>?_) <;>try simp only[h])) <;>try simp only[aM,R,simprocAttr])
    all_goals clear R
    all_goals rfl
 have hc:=fY hlt
 have he:=fun A=>gv (A:=A) hlt
 have hw:=fF (i:=i) (by omega)
 have hd:more.drop i=ae more i::more.drop (i+1):=by rw[List.drop_eq_getElem_cons hlt,eA hlt]
 rw[hd] at hj
 generalize ae more i=x at he hj
 have hF:=yx out x.bj hs (by omega)
 have hh:=p7 hs x.bj
 have hpl:=po out x.bj
 have hbs:=ni 17 x rfl
 simp only[iI] at hj
 rcases hO with ⟨rfl,hv,rfl⟩ | ⟨hne,nm,k,hnm,rfl,rfl⟩
 ·have e1:eD [] x.bj=false:=rfl
  have e2:cG [] x.bj=0:=rfl
  rw[e1,e2] at hF
  rw[e1,e2,if_neg (by decide)] at hj
  rcases hv with rfl | rfl
  all_goals
   have R:=And.intro @hc (And.intro @he (And.intro @hbs (And.intro @bI (And.intro @aP @ab))))
   repeat' ((first
    |(with_reducible refine .guard (fun hb =>?_) (fun hb =>?_) <;>try simp only[hb])
    |refine U.aL (by decide +kernel) rfl fun K hK =>?_
    |refine .flat _ (hF) rfl ?_
    |(refine .aF [0,1,4,5,6,8,9,10,13,14,15,16,34,36,45] hK ?_;clear hK K)
    |(with_reducible refine .done (hK _ ?_);clear hK K)
    |refine U.of rfl ?_
    |(with_reducible refine ao.aK (fun h =>?_) (fun h =>?_) <;>try simp only[h])) <;>try simp only[aM,R,simprocAttr])
   all_goals clear R
  all_goals
   first
    |refine .bQ false [(25,906)] [] [.nils 17,enc (0:Int),enc [x]] (wL x) rfl (yG _ (.inl rfl) x) fy.nil ⟨.inl ⟨rfl,rfl,rfl⟩,.inl ⟨rfl,rfl,rfl⟩,.inl ⟨(gL _ _).symm,bG _ _,dz _⟩,trivial⟩ ?_ ?_
    |refine .bQ false [(25,906)] [] [.c0 17,enc (0:Int),enc [x]] (wL x) rfl (yG _ (.inr rfl) x) fy.nil ⟨.inl ⟨rfl,rfl,rfl⟩,.inl ⟨rfl,rfl,rfl⟩,.inl ⟨(gL _ _).symm,bG _ _,dz _⟩,trivial⟩ ?_ ?_
   ·rintro x os' ⟨k,rfl,rfl⟩
    exact dn.o9 (fun p=>fu p _) (fun h=>by cases h) rfl (fun h=>by cases h) rfl (by decide)
   ·rintro r os' ⟨q,rfl,rfl⟩
    try simp only[dA,fK,gL,fS,List.cons_append,List.nil_append,ab,simprocAttr]
    refine .done (hK _ ?_);clear hK K;try simp only[ay,cg]
    have R:=And.intro @hw (And.intro @aP @ab)
    repeat' ((first
     |(with_reducible refine .guard (fun hb =>?_) (fun hb =>?_) <;>try simp only[hb])
     |refine U.aL (by decide +kernel) rfl fun K hK =>?_
     |(refine .aF [0,1,4,5,6,8,9,10,13,14,15,16,34,36,45] hK ?_;clear hK K)
     |(with_reducible refine .done (hK _ ?_);clear hK K)
     |refine U.of rfl ?_
     |(with_reducible refine ao.aK (fun h =>?_) (fun h =>?_) <;>try simp only[h])) <;>try simp only[aM,R,simprocAttr])
    all_goals clear R
    have o1:pJ [x] (.view 906 [] 17 0 1) (dA 906 [x] q):=.inr ⟨by simp,906,q,.inl rfl,rfl,rfl⟩
    refine ⟨(i+1,[x],.view 906 [] 17 0 1,dA 906 [x] q),⟨by simp only;omega,o1,List.pairwise_singleton _ _,by simp;omega,hj⟩,by simp only;omega,?_⟩
    simp only[dA]
    refine aI.b9 ?_ ?_ ?_ ?_ <;>simp[*,bd,bT,bS,bD,au,bh,cI,I.only,I.bU,ai.only,bG,ah5]
 have hfv:=fun k=>rU (l:=out) (k:=k)
 have hI:=fun k=>MU out (cG out x.bj) x k hpl hne (by omega)
 rcases q:eD out x.bj
 case true =>
  rw[q] at hF hh
  rw[q,if_pos rfl] at hj
  simp only[Bool.true_eq,Bool.and_eq_true,decide_eq_true_eq] at hh
  have v1:=fun nm fs=>afX (nm:=nm) hh.1 fs
  have l1:=fun k=>OH (l:=out) (k:=k) hh.1
  simp only[dA]
  by_cases hx:ae out (cG out x.bj)=x
  ·have q2:decide (ae out (cG out x.bj)=x)=true:=by simp[hx]
   rw[if_pos hx] at hj
   have o1:pJ out (.view nm [] 17 0 out.length) (dA nm out k):=.inr ⟨hne,nm,k,hnm,rfl,rfl⟩
   rcases hnm with rfl | rfl
   all_goals
    have R:=And.intro @hc (And.intro @he (And.intro @hw (And.intro @hfv (And.intro @v1 (And.intro @l1 (And.intro @q2 (And.intro @c9 (And.intro @bI (And.intro @aP @ab)))))))))
    repeat' ((first
     |(with_reducible refine .guard (fun hb =>?_) (fun hb =>?_) <;>try simp only[hb])
     |refine U.aL (by decide +kernel) rfl fun K hK =>?_
     |refine .flat _ (hF) rfl ?_
     |(refine .aF [0,1,4,5,6,8,9,10,13,14,15,16,34,36,45] hK ?_;clear hK K)
     |(with_reducible refine .done (hK _ ?_);clear hK K)
     |refine U.of rfl ?_
     |(with_reducible refine ao.aK (fun h =>?_) (fun h =>?_) <;>try simp only[h])) <;>try simp only[aM,R,simprocAttr])
    all_goals clear R
    refine ⟨(i+1,out,_,_),⟨by simp only;omega,o1,hs,by simp only;omega,hj⟩,by simp only;omega,?_⟩
    simp only[]
    generalize out++List.replicate k cw=ws
    refine aI.b9 ?_ ?_ ?_ ?_ <;>simp[bd,bT,bS,bD,au,bh,cI,I.only,ai.only,ev,bG]
  ·have q2:decide (ae out (cG out x.bj)=x)=false:=by simp[hx]
   rw[if_neg hx] at hj
   have hJ2:J=([],43):=by rw[hJ,ji,hj]
   rw[hJ2]
   rcases hnm with rfl | rfl
   all_goals
    have R:=And.intro @hc (And.intro @he (And.intro @hw (And.intro @hfv (And.intro @v1 (And.intro @l1 (And.intro @q2 (And.intro @c9 (And.intro @bI (And.intro @aP @ab)))))))))
    repeat' ((first
     |(with_reducible refine .guard (fun hb =>?_) (fun hb =>?_) <;>try simp only[hb])
     |refine U.aL (by decide +kernel) rfl fun K hK =>?_
     |refine .flat _ (hF) rfl ?_
     |(refine .aF [0,1,4,5,6,8,9,10,13,14,15,16,34,36,45] hK ?_;clear hK K)
     |(with_reducible refine .done (hK _ ?_);clear hK K)
     |refine U.of rfl ?_
     |(with_reducible refine ao.aK (fun h =>?_) (fun h =>?_) <;>try simp only[h])) <;>try simp only[aM,R,simprocAttr])
    all_goals clear R
    all_goals rfl
 rw[q] at hF
 rw[q,if_neg (by decide)] at hj
 have hsi:=Ia hs q
 have hil:=wO x hpl
 have hni:eI out (cG out x.bj) x≠[]:=fun e=>by rw[e] at hil;simp at hil
 generalize cG out x.bj=p at *
 obtain ⟨aA,hL⟩:∃ aA,aA=eI out p x:=⟨_,rfl⟩
 rw[←hL] at hsi hil hni hj
 have o1:∀ nm q,nm=906∨nm=907→pJ aA (.view nm [] 17 0 aA.length) (dA nm aA q):=fun nm q h=>.inr ⟨hni,nm,q,h,rfl,rfl⟩
 simp only[dA]
 rcases hnm with rfl | rfl
 all_goals
  have R:=And.intro @hc (And.intro @he (And.intro @hbs (And.intro @hfv (And.intro @c9 (And.intro @bI (And.intro @aP @ab))))))
  repeat' ((first
   |(with_reducible refine .guard (fun hb =>?_) (fun hb =>?_) <;>try simp only[hb])
   |refine U.aL (by decide +kernel) rfl fun K hK =>?_
   |refine .flat _ (hF) rfl ?_
   |(refine .aF [0,1,4,5,6,8,9,10,13,14,15,16,34,36,45] hK ?_;clear hK K)
   |(with_reducible refine .done (hK _ ?_);clear hK K)
   |refine U.of rfl ?_
   |(with_reducible refine ao.aK (fun h =>?_) (fun h =>?_) <;>try simp only[h])) <;>try simp only[aM,R,simprocAttr])
  all_goals clear R
 ·refine .bQ false [(1000000,906),(25,907),(40,907)] (dA 1000000 out k) [.view 1000000 [] 17 0 out.length,enc (p:Int),enc [x]] (wM out p x k) rfl (hI k) ⟨?_,?_⟩ ⟨.inl ⟨?_,?_,rfl⟩,.inl ⟨rfl,rfl,rfl⟩,.inl ⟨(gL _ _).symm,bG _ _,dz _⟩,trivial⟩ ?_ ?_
  ·intro n y h
   simp only[dA,al] at h
   split at h
   ·rename_i hn'
    subst hn'
    simp only[Option.some.injEq] at h
    subst h
    exact ⟨by simp only[fK,fS,ab,simprocAttr],fu _ _,rfl⟩
   ·cases h
  ·intro a b ha hb _
   rw[cV.1 ha,cV.1 hb]
  ·try simp only[fK,simprocAttr]
  ·exact cV.2 rfl
  ·rintro r os' (⟨q,rfl,rfl⟩ | ⟨d,q,rfl | rfl,rfl,rfl⟩)
   ·exact dn.xz (fun p=>fu p _) (fun h=>by cases h) rfl (fun h=>by cases h)
   ·exact dn.m9 rfl rfl (by decide) (by decide) (fun p=>fu p _) (fun h=>by cases h) (fun p=>fu p _) (fun h=>by cases h) rfl (fun h=>by cases h) rfl (by decide)
   ·exact dn.m9 rfl rfl (by decide) (by decide) (fun p=>fu p _) (fun h=>by cases h) (fun p=>fu p _) (fun h=>by cases h) rfl (fun h=>by cases h) rfl (by decide)
  ·rintro r os' (⟨q,rfl,rfl⟩ | ⟨d,q,rfl | rfl,rfl,rfl⟩)
   all_goals
    rw[←hL,←hil]
    try simp only[dA,fK,fS,List.cons_append,List.nil_append,ab,simprocAttr]
    refine .done (hK _ ?_);clear hK K;try simp only[ay,cg]
    have R:=And.intro @hw (And.intro @aP @ab)
    repeat' ((first
     |(with_reducible refine .guard (fun hb =>?_) (fun hb =>?_) <;>try simp only[hb])
     |refine U.aL (by decide +kernel) rfl fun K hK =>?_
     |(refine .aF [0,1,4,5,6,8,9,10,13,14,15,16,34,36,45] hK ?_;clear hK K)
     |(with_reducible refine .done (hK _ ?_);clear hK K)
     |refine U.of rfl ?_
     |(with_reducible refine ao.aK (fun h =>?_) (fun h =>?_) <;>try simp only[h])) <;>try simp only[aM,R,simprocAttr])
    all_goals clear R
    first
     |refine ⟨(i+1,aA,_,_),⟨by simp only;omega,o1 906 q (.inl rfl),hsi,by simp only;omega,hj⟩,by simp only;omega,?_⟩
      simp only[]
      generalize aA++List.replicate q cw=ws
      refine aI.b9 ?_ ?_ ?_ ?_ <;>simp[bd,bT,bS,bD,au,bh,cI,I.only,ai.only,ev,bG]
      done
     |refine ⟨(i+1,aA,_,_),⟨by simp only;omega,o1 907 q (.inr rfl),hsi,by simp only;omega,hj⟩,by simp only;omega,?_⟩
      simp only[]
      generalize aA++List.replicate q cw=ws
      refine aI.b9 ?_ ?_ ?_ ?_ <;>simp[bd,bT,bS,bD,au,bh,cI,I.only,ai.only,ev,bG]
      done
 ·refine .bQ false [(1000000,907),(25,906),(40,906)] (dA 1000000 out k) [.view 1000000 [] 17 0 out.length,enc (p:Int),enc [x]] (wM out p x k) rfl (hI k) ⟨?_,?_⟩ ⟨.inl ⟨?_,?_,rfl⟩,.inl ⟨rfl,rfl,rfl⟩,.inl ⟨(gL _ _).symm,bG _ _,dz _⟩,trivial⟩ ?_ ?_
  ·intro n y h
   simp only[dA,al] at h
   split at h
   ·rename_i hn'
    subst hn'
    simp only[Option.some.injEq] at h
    subst h
    exact ⟨by simp only[fK,fS,ab,simprocAttr],fu _ _,rfl⟩
   ·cases h
  ·intro a b ha hb _
   rw[cV.1 ha,cV.1 hb]
  ·try simp only[fK,simprocAttr]
  ·exact cV.2 rfl
  ·rintro r os' (⟨q,rfl,rfl⟩ | ⟨d,q,rfl | rfl,rfl,rfl⟩)
   ·exact dn.xz (fun p=>fu p _) (fun h=>by cases h) rfl (fun h=>by cases h)
   ·exact dn.m9 rfl rfl (by decide) (by decide) (fun p=>fu p _) (fun h=>by cases h) (fun p=>fu p _) (fun h=>by cases h) rfl (fun h=>by cases h) rfl (by decide)
   ·exact dn.m9 rfl rfl (by decide) (by decide) (fun p=>fu p _) (fun h=>by cases h) (fun p=>fu p _) (fun h=>by cases h) rfl (fun h=>by cases h) rfl (by decide)
  ·rintro r os' (⟨q,rfl,rfl⟩ | ⟨d,q,rfl | rfl,rfl,rfl⟩)
   all_goals
    rw[←hL,←hil]
    try simp only[dA,fK,fS,List.cons_append,List.nil_append,ab,simprocAttr]
    refine .done (hK _ ?_);clear hK K;try simp only[ay,cg]
    have R:=And.intro @hw (And.intro @aP @ab)
    repeat' ((first
     |(with_reducible refine .guard (fun hb =>?_) (fun hb =>?_) <;>try simp only[hb])
     |refine U.aL (by decide +kernel) rfl fun K hK =>?_
     |(refine .aF [0,1,4,5,6,8,9,10,13,14,15,16,34,36,45] hK ?_;clear hK K)
     |(with_reducible refine .done (hK _ ?_);clear hK K)
     |refine U.of rfl ?_
     |(with_reducible refine ao.aK (fun h =>?_) (fun h =>?_) <;>try simp only[h])) <;>try simp only[aM,R,simprocAttr])
    all_goals clear R
    first
     |refine ⟨(i+1,aA,_,_),⟨by simp only;omega,o1 906 q (.inl rfl),hsi,by simp only;omega,hj⟩,by simp only;omega,?_⟩
      simp only[]
      generalize aA++List.replicate q cw=ws
      refine aI.b9 ?_ ?_ ?_ ?_ <;>simp[bd,bT,bS,bD,au,bh,cI,qm,I.only,ai.only,ev,bG]
      done
     |refine ⟨(i+1,aA,_,_),⟨by simp only;omega,o1 907 q (.inr rfl),hsi,by simp only;omega,hj⟩,by simp only;omega,?_⟩
      simp only[]
      generalize aA++List.replicate q cw=ws
      refine aI.b9 ?_ ?_ ?_ ?_ <;>simp[bd,bT,bS,bD,au,bh,cI,I.only,ai.only,ev,bG]
      done
def nB(a b:List ak):List ak×Int:=if c6 a&&c6 b then ji a b else ([],41)
theorem NF(a b:List ak):az Tryz.prog 52 [enc a,enc b] (.tuple [enc (nB a b).1,enc (nB a b).2]):=by
 have h1:=oi a
 have h2:=oi b
 refine az.bn Tryz.func52 QA SA UK (Nat.le_of_ble_eq_true rfl) (fun hwf W0 D0 E1 =>?_)
 simp only[AS,KM,bg,Nat.zero_add]
 clear hwf
 simp only[nB]
 rcases q1:c6 a <;>rcases q2:c6 b
 all_goals
  rw[q1] at h1
  rw[q2] at h2
  simp only[if_true,Bool.false_eq_true,if_false] at h1 h2
 iterate 3
  ·have R:=And.intro @aP @ab
   repeat' ((first
    |(with_reducible refine .guard (fun hb =>?_) (fun hb =>?_) <;>try simp only[hb])
    |refine U.aL (by decide +kernel) rfl fun K hK =>?_
    |refine .flat _ (h1) rfl ?_
    |refine .flat _ (h2) rfl ?_
    |(refine .aF [0,1,4,5,13] hK ?_;clear hK K)
    |(with_reducible refine .done (hK _ ?_);clear hK K)
    |refine U.of rfl ?_
    |(with_reducible refine ao.aK (fun h =>?_) (fun h =>?_) <;>try simp only[h])) <;>try simp only[aM,R,Nat.reduceEqDiff,reduceIte,Int.reduceBNe,Nat.reduceBEq])
   all_goals clear R
   all_goals rfl
 have hF:=yz a b (mW q1) (jE q1) (jE q2)
 simp only[Bool.and_self,if_true]
 have R:=And.intro @aP @ab
 repeat' ((first
  |(with_reducible refine .guard (fun hb =>?_) (fun hb =>?_) <;>try simp only[hb])
  |refine U.aL (by decide +kernel) rfl fun K hK =>?_
  |refine .flat _ (h1) rfl ?_
  |refine .flat _ (h2) rfl ?_
  |refine .lead _ (hF) ?_
  |(refine .aF [0,1,4,5,13] hK ?_;clear hK K)
  |(with_reducible refine .done (hK _ ?_);clear hK K)
  |refine U.of rfl ?_
  |(with_reducible refine ao.aK (fun h =>?_) (fun h =>?_) <;>try simp only[h])) <;>try simp only[aM,R,Nat.reduceEqDiff,reduceIte,Int.reduceBNe,Nat.reduceBEq])
 all_goals clear R
def nd(l:List ak)(x:ak):List ak×Int:=if c6 l then (if gB x then ji l [x] else ([],40)) else ([],41)
theorem NH(l:List ak)(x:ak):az Tryz.prog 54 [enc l,enc x] (.tuple [enc (nd l x).1,enc (nd l x).2]):=by
 have h1:=oi l
 have h2:=yR x
 refine az.bn Tryz.func54 QC SC UM (Nat.le_of_ble_eq_true rfl) (fun hwf W0 D0 E1 =>?_)
 simp only[AU,KO,bg,Nat.zero_add]
 clear hwf
 simp only[nd]
 rcases q1:c6 l
 ·rw[q1,if_neg (by decide)] at h1
  have R:=And.intro @aP @ab
  repeat' ((first
   |(with_reducible refine .guard (fun hb =>?_) (fun hb =>?_) <;>try simp only[hb])
   |refine U.aL (by decide +kernel) rfl fun K hK =>?_
   |refine .flat _ (h1) rfl ?_
   |(refine .aF [0,1,3,4,5,6,7,11,16] hK ?_;clear hK K)
   |(with_reducible refine .done (hK _ ?_);clear hK K)
   |refine U.of rfl ?_
   |(with_reducible refine ao.aK (fun h =>?_) (fun h =>?_) <;>try simp only[h])) <;>try simp only[aM,R,Nat.reduceEqDiff,reduceIte,Int.reduceBNe,Nat.reduceBEq])
  all_goals clear R
  all_goals rfl
 rw[q1,if_pos rfl] at h1
 rcases q2:gB x
 ·rw[q2,if_neg (by decide)] at h2
  have R:=And.intro @aP @ab
  repeat' ((first
   |(with_reducible refine .guard (fun hb =>?_) (fun hb =>?_) <;>try simp only[hb])
   |refine U.aL (by decide +kernel) rfl fun K hK =>?_
   |refine .flat _ (h1) rfl ?_
   |refine .flat _ (h2) rfl ?_
   |(refine .aF [0,1,3,4,5,6,7,11,16] hK ?_;clear hK K)
   |(with_reducible refine .done (hK _ ?_);clear hK K)
   |refine U.of rfl ?_
   |(with_reducible refine ao.aK (fun h =>?_) (fun h =>?_) <;>try simp only[h])) <;>try simp only[aM,R,Nat.reduceEqDiff,reduceIte,Int.reduceBNe,Nat.reduceBEq])
  all_goals clear R
  all_goals rfl
 rw[q2,if_pos rfl] at h2
 have hF:=yz l [x] (mW q1) (jE q1) (by simp)
 have hbs:=ni 17 x rfl
 have R:=And.intro @hbs (And.intro @aP @ab)
 repeat' ((first
  |(with_reducible refine .guard (fun hb =>?_) (fun hb =>?_) <;>try simp only[hb])
  |refine U.aL (by decide +kernel) rfl fun K hK =>?_
  |refine .flat _ (h1) rfl ?_
  |refine .flat _ (h2) rfl ?_
  |refine .lead _ (hF) ?_
  |(refine .aF [0,1,3,4,5,6,7,11,16] hK ?_;clear hK K)
  |(with_reducible refine .done (hK _ ?_);clear hK K)
  |refine U.of rfl ?_
  |(with_reducible refine ao.aK (fun h =>?_) (fun h =>?_) <;>try simp only[h])) <;>try simp only[aM,R,Nat.reduceEqDiff,reduceIte,Int.reduceBNe,Nat.reduceBEq])
 all_goals clear R
theorem HY{l:List ak}{a:Item} : eD l a=true↔∃ y∈l,y.bj=a:=by simp[eD,List.any_eq_true]
theorem ajq{l:List ak}(hs:gS l){y z:ak}(hy:y∈l)(hz:z∈l)(h:y.bj=z.bj):y=z:=by
 obtain ⟨i,hi,rfl⟩:=List.getElem_of_mem hy
 obtain ⟨j,hj,rfl⟩:=List.getElem_of_mem hz
 rw[eA hi,eA hj] at h
 rcases Nat.lt_trichotomy i j with e | e | e
 ·have:=nY hs e hj
  rw[h,oG] at this;cases this
 ·subst e;rfl
 ·have:=nY hs e hi
  rw[h,oG] at this;cases this
theorem xJ{l:List ak}(hs:gS l){a:Item}(h:eD l a=true):cG l a<l.length∧(ae l (cG l a)).bj=a∧ae l (cG l a)∈l:=by
 have hh:=p7 hs a
 rw[h] at hh
 simp only[Bool.true_eq,Bool.and_eq_true,decide_eq_true_eq] at hh
 refine ⟨hh.1,hh.2,?_⟩
 rw[←eA hh.1];exact List.getElem_mem hh.1
theorem afZ(l:List ak)(x:ak)(hl:l.length≤60):ji l [x]=if eD l x.bj then (if ae l (cG l x.bj)=x then (l,0) else ([],43)) else (if l.length=60 then ([],2) else (eI l (cG l x.bj) x,0)):=by
 have hil:=wO x (po l x.bj)
 rcases q:eD l x.bj
 ·have e:iI l [x]=some (eI l (cG l x.bj) x):=by simp[iI,q]
  rw[ji,e,if_neg (by decide)]
  simp only
  by_cases h:l.length=60
  ·rw[if_pos h,if_neg (by omega)]
  ·rw[if_neg h,if_pos (by omega)]
 ·by_cases h:ae l (cG l x.bj)=x
  ·have e:iI l [x]=some l:=by simp[iI,q,h]
   rw[ji,e,if_pos rfl,if_pos h]
   simp only
   rw[if_pos hl]
  ·have e:iI l [x]=none:=by simp[iI,q,h]
   rw[ji,e,if_pos rfl,if_neg h]
theorem NI(l:List ak)(x:ak):az Tryz.prog 55 [enc l,enc x] (.tuple [enc (nd l x).1,enc (nd l x).2]):=by
 have h1:=oj l
 have h2:=qY x
 have h3:=tN l x.bj
 refine az.bn Tryz.func55 QD SD UN (Nat.le_of_ble_eq_true rfl) (fun hwf W0 D0 E1 =>?_)
 simp only[AV,KP,bg,Nat.zero_add]
 clear hwf
 simp only[nd]
 rcases q1:c6 l
 ·rw[q1,if_neg (by decide)] at h1
  have R:=And.intro @aP @ab
  repeat' ((first
   |(with_reducible refine .guard (fun hb =>?_) (fun hb =>?_) <;>try simp only[hb])
   |refine U.aL (by decide +kernel) rfl fun K hK =>?_
   |refine .flat _ (h1) rfl ?_
   |(refine .aF [0,1,3,4,5,6,7,10,13,19,25,31] hK ?_;clear hK K)
   |(with_reducible refine .done (hK _ ?_);clear hK K)
   |refine U.of rfl ?_
   |(with_reducible refine ao.aK (fun h =>?_) (fun h =>?_) <;>try simp only[h])) <;>try simp only[aM,R,Nat.reduceEqDiff,reduceIte,Int.reduceBNe,Nat.reduceBEq])
  all_goals clear R
  all_goals rfl
 rw[q1,if_pos rfl] at h1
 rcases q2:gB x
 ·rw[q2,if_neg (by decide)] at h2
  have R:=And.intro @aP @ab
  repeat' ((first
   |(with_reducible refine .guard (fun hb =>?_) (fun hb =>?_) <;>try simp only[hb])
   |refine U.aL (by decide +kernel) rfl fun K hK =>?_
   |refine .flat _ (h1) rfl ?_
   |refine .flat _ (h2) rfl ?_
   |(refine .aF [0,1,3,4,5,6,7,10,13,19,25,31] hK ?_;clear hK K)
   |(with_reducible refine .done (hK _ ?_);clear hK K)
   |refine U.of rfl ?_
   |(with_reducible refine ao.aK (fun h =>?_) (fun h =>?_) <;>try simp only[h])) <;>try simp only[aM,R,Nat.reduceEqDiff,reduceIte,Int.reduceBNe,Nat.reduceBEq])
  all_goals clear R
  all_goals rfl
 rw[q2,if_pos rfl] at h2
 have hs:=mW q1
 have hll:=jE q1
 simp only[if_true]
 rw[wF hs] at h3
 rw[afZ l x hll]
 rcases q3:eD l x.bj
 ·rw[q3,if_neg (by decide)] at h3
  have hm1:decide ((0:Int)≤-1)=false:=rfl
  rw[if_neg (by decide)]
  by_cases h:l.length=60
  ·have hn:((l.length:Int)==60)=true:=by simp[h]
   rw[if_pos h]
   have R:=And.intro @hm1 (And.intro @hn (And.intro @bI (And.intro @aP @ab)))
   repeat' ((first
    |(with_reducible refine .guard (fun hb =>?_) (fun hb =>?_) <;>try simp only[hb])
    |refine U.aL (by decide +kernel) rfl fun K hK =>?_
    |refine .flat _ (h1) rfl ?_
    |refine .flat _ (h2) rfl ?_
    |refine .flat _ (h3) rfl ?_
    |(refine .aF [0,1,3,4,5,6,7,10,13,19,25,31] hK ?_;clear hK K)
    |(with_reducible refine .done (hK _ ?_);clear hK K)
    |refine U.of rfl ?_
    |(with_reducible refine ao.aK (fun h =>?_) (fun h =>?_) <;>try simp only[h])) <;>try simp only[aM,R,Nat.reduceEqDiff,reduceIte,Int.reduceBNe,Nat.reduceBEq])
   all_goals clear R
   all_goals rfl
  ·have hn:((l.length:Int)==60)=false:=by simp;omega
   rw[if_neg h]
   have hW:=yA l x hs q3 (by omega)
   have R:=And.intro @hm1 (And.intro @hn (And.intro @bI (And.intro @aP @ab)))
   repeat' ((first
    |(with_reducible refine .guard (fun hb =>?_) (fun hb =>?_) <;>try simp only[hb])
    |refine U.aL (by decide +kernel) rfl fun K hK =>?_
    |refine .flat _ (h1) rfl ?_
    |refine .flat _ (h2) rfl ?_
    |refine .flat _ (h3) rfl ?_
    |refine .lead _ (hW) ?_
    |(refine .aF [0,1,3,4,5,6,7,10,13,19,25,31] hK ?_;clear hK K)
    |(with_reducible refine .done (hK _ ?_);clear hK K)
    |refine U.of rfl ?_
    |(with_reducible refine ao.aK (fun h =>?_) (fun h =>?_) <;>try simp only[h])) <;>try simp only[aM,R,Nat.reduceEqDiff,reduceIte,Int.reduceBNe,Nat.reduceBEq])
   all_goals clear R
 ·obtain ⟨p1,p2,p3⟩:=xJ hs q3
  rw[q3,if_pos rfl] at h3
  rw[if_pos rfl]
  have h0:decide ((0:Int)≤(cG l x.bj:Int))=true:=by simp
  have he:=fun A=>gv (A:=A) p1
  by_cases h:ae l (cG l x.bj)=x
  ·have hd:decide (ae l (cG l x.bj)=x)=true:=by simp[h]
   have hne:l≠[]:=fun e=>by rw[e] at p1;simp at p1
   rw[if_pos h]
   have R:=And.intro @h0 (And.intro @he (And.intro @hd (And.intro @c9 (And.intro @bI (And.intro @aP @ab)))))
   repeat' ((first
    |(with_reducible refine .guard (fun hb =>?_) (fun hb =>?_) <;>try simp only[hb])
    |refine U.aL (by decide +kernel) rfl fun K hK =>?_
    |refine .flat _ (h1) rfl ?_
    |refine .flat _ (h2) rfl ?_
    |refine .flat _ (h3) rfl ?_
    |(refine .aF [0,1,3,4,5,6,7,10,13,19,25,31] hK ?_;clear hK K)
    |(with_reducible refine .done (hK _ ?_);clear hK K)
    |refine U.of rfl ?_
    |(with_reducible refine ao.aK (fun h =>?_) (fun h =>?_) <;>try simp only[h])) <;>try simp only[aM,R,decide_true,Nat.reduceEqDiff,reduceIte,Int.reduceBNe,Nat.reduceBEq])
   all_goals clear R
   try simp only[ki,ab,Nat.reduceEqDiff,reduceIte,Int.reduceBNe,Int.reduceBEq]
   refine a6.pN (esz:=17) cw (l:=l) rfl hne rfl (by omega) (by simp only[maxLen];omega) fun q =>?_
   have hfv:=rU (l:=l) (k:=q)
   try simp only[ab,Nat.reduceEqDiff,reduceIte]
   refine .done (hK _ ?_);clear hK K
   have R:=And.intro @hfv (And.intro @c9 (And.intro @bI (And.intro @aP @ab)))
   repeat' ((first
    |(with_reducible refine .guard (fun hb =>?_) (fun hb =>?_) <;>try simp only[hb])
    |refine U.aL (by decide +kernel) rfl fun K hK =>?_
    |(refine .aF [0,1,3,4,5,6,7,10,13,19,25,31] hK ?_;clear hK K)
    |(with_reducible refine .done (hK _ ?_);clear hK K)
    |refine U.of rfl ?_
    |(with_reducible refine ao.aK (fun h =>?_) (fun h =>?_) <;>try simp only[h])) <;>try simp only[aM,R,Nat.reduceEqDiff,reduceIte])
   all_goals clear R
  ·have hd:decide (ae l (cG l x.bj)=x)=false:=by simp[h]
   rw[if_neg h]
   have R:=And.intro @h0 (And.intro @he (And.intro @hd (And.intro @bI (And.intro @aP @ab))))
   repeat' ((first
    |(with_reducible refine .guard (fun hb =>?_) (fun hb =>?_) <;>try simp only[hb])
    |refine U.aL (by decide +kernel) rfl fun K hK =>?_
    |refine .flat _ (h1) rfl ?_
    |refine .flat _ (h2) rfl ?_
    |refine .flat _ (h3) rfl ?_
    |(refine .aF [0,1,3,4,5,6,7,10,13,19,25,31] hK ?_;clear hK K)
    |(with_reducible refine .done (hK _ ?_);clear hK K)
    |refine U.of rfl ?_
    |(with_reducible refine ao.aK (fun h =>?_) (fun h =>?_) <;>try simp only[h])) <;>try simp only[aM,R,decide_true,Nat.reduceEqDiff,reduceIte,Int.reduceBNe,Nat.reduceBEq])
   all_goals clear R
   all_goals rfl
theorem NJ(a b:List ak):az Tryz.prog 56 [enc a,enc b] (.tuple [enc (nB a b).1,enc (nB a b).2]):=by
 have h1:=oj a
 have h2:=oj b
 refine az.bn Tryz.func56 QE SE UO (Nat.le_of_ble_eq_true rfl) (fun hwf W0 D0 E1 =>?_)
 simp only[AW,KQ,bg,Nat.zero_add]
 clear hwf
 simp only[nB]
 rcases q1:c6 a <;>rcases q2:c6 b
 all_goals
  rw[q1] at h1
  rw[q2] at h2
  simp only[if_true,Bool.false_eq_true,if_false] at h1 h2
 iterate 3
  ·have R:=And.intro @aP @ab
   repeat' ((first
    |(with_reducible refine .guard (fun hb =>?_) (fun hb =>?_) <;>try simp only[hb])
    |refine U.aL (by decide +kernel) rfl fun K hK =>?_
    |refine .flat _ (h1) rfl ?_
    |refine .flat _ (h2) rfl ?_
    |(refine .aF [0,1,4,5,6,7,8,16,23,45,47,56] hK ?_;clear hK K)
    |(with_reducible refine .done (hK _ ?_);clear hK K)
    |refine U.of rfl ?_
    |(with_reducible refine ao.aK (fun h =>?_) (fun h =>?_) <;>try simp only[h])) <;>try simp only[aM,R,Nat.reduceEqDiff,reduceIte,Int.reduceBNe,Nat.reduceBEq])
   all_goals clear R
   all_goals rfl
 simp only[Bool.and_self,if_true]
 have hsa:=mW q1
 have hsb:=mW q2
 have hla:=jE q1
 have hlb:=jE q2
 obtain ⟨J,hJ⟩:∃ J,J=ji a b:=⟨_,rfl⟩
 rw[←hJ]
 refine .ar (by decide +kernel) fun K hK =>?_
 simp only[GR,ab]
 refine .done (hK _ ?_);clear hK K
 refine U.seq (U.og (av [(0,enc a),(1,enc b)] []) ?_ fun B hB=>U.sub hB ?_)
 ·have R:=And.intro @aP @ab
  repeat' ((first
   |(with_reducible refine .guard (fun hb =>?_) (fun hb =>?_) <;>try simp only[hb])
   |refine U.aL (by decide +kernel) rfl fun K hK =>?_
   |refine .flat _ (h1) rfl ?_
   |refine .flat _ (h2) rfl ?_
   |(refine .aF [0,1,4,5,6,7,8,16,23,45,47,56] hK ?_;clear hK K)
   |(with_reducible refine .done (hK _ ?_);clear hK K)
   |refine U.of rfl ?_
   |(with_reducible refine ao.aK (fun h =>?_) (fun h =>?_) <;>try simp only[h])) <;>try simp only[aM,R,Nat.reduceEqDiff,reduceIte,Int.reduceBNe,Nat.reduceBEq])
  all_goals clear R
  refine aI.b9 ?_ ?_ ?_ ?_ <;>simp[bd,bT,bS,bD,bh,bG]
 refine U.seq (U.og (av [(0,enc a),(1,enc b),(6,enc a)] []) ?_ fun B hB=>U.sub hB ?_)
 ·refine .bP (by decide +kernel) fun K hK =>?_
  simp only[GS,ab]
  try simp only[c9,ab,Nat.reduceEqDiff,reduceIte]
  by_cases hne:a=[]
  ·subst hne
   rw[Ov (α:=ak) (esz:=17) _ rfl]
   try simp only[ab,Nat.reduceEqDiff,reduceIte]
   refine .done (hK _ ?_);clear hK K;try simp only[ay]
   refine aI.nt [] 6 (x:=.c0 17) (y:=enc ([]:List ak)) rfl (by rfl) ?_ ?_ ?_ ?_ ?_ <;>simp[c4,bD,bd,bT,bS,fW,bh,I.only,bG]
  ·try simp only[ki]
   refine a6.pN (esz:=17) cw (l:=a) rfl hne rfl (by omega) (by simp only[maxLen];omega) fun q =>?_
   try simp only[ab,Nat.reduceEqDiff,reduceIte]
   refine .done (hK _ ?_);clear hK K;try simp only[ay]
   refine aI.nt [19] 6 (x:=.view 19 [] 17 0 a.length) (y:=enc a) rfl ?_ ?_ ?_ ?_ ?_ ?_
   ·exact rU
   ·simp[c4,bD]
   ·simp[bd,fW,bh,I.only,bG]
   ·simp[bT]
   ·simp[bS,bG]
   ·simp[bD]
 have R:=And.intro @bI (And.intro @aP @ab)
 repeat' ((first
  |(with_reducible refine .guard (fun hb =>?_) (fun hb =>?_) <;>try simp only[hb])
  |refine U.aL (by decide +kernel) rfl fun K hK =>?_
  |(refine .aF [0,1,4,5,6,7,8,16,23,45,47,56] hK ?_;clear hK K)
  |(with_reducible refine .done (hK _ ?_);clear hK K)
  |refine U.of rfl ?_
  |(with_reducible refine ao.aK (fun h =>?_) (fun h =>?_) <;>try simp only[h])) <;>try simp only[aM,R,reduceIte,Nat.reduceBEq])
 all_goals clear R
 refine U.loop (fun s:Nat×List ak=>av [(0,enc a),(1,enc b),(6,enc s.2),(7,.int .i64 s.1)] []) (fun s=>s.1≤b.length∧gS s.2∧s.2.length≤60+s.1∧iI a b=iI s.2 (b.drop s.1)∧∀ y,y∈s.2↔y∈a∨y∈b.take s.1) (fun s=>b.length-s.1) (0,a) ⟨Nat.zero_le _,hsa,by simp only;omega,rfl,by simp⟩ ?_ ?_
 ·refine aI.b9 ?_ ?_ ?_ ?_ <;>simp[bd,bT,bS,bD,bh,I.only,bG]
 rintro ⟨i,out⟩ ⟨k1,hs,hol,hj,hm⟩
 simp only at k1 hs hol hj hm ⊢
 by_cases hlt:i<b.length
 case neg =>
  have hc:=gp hlt
  have hge:i=b.length:=by omega
  subst hge
  have hJ2:J=if out.length≤60 then (out,0) else ([],2):=by
   rw[hJ,ji,hj,List.drop_length];rfl
  rw[hJ2]
  by_cases hl60:out.length≤60
  ·have h60:decide ((60:Int)<(out.length:Int))=false:=by simp;omega
   rw[if_pos hl60]
   have R:=And.intro @hc (And.intro @h60 (And.intro @bI (And.intro @aP @ab)))
   repeat' ((first
    |(with_reducible refine .guard (fun hb =>?_) (fun hb =>?_) <;>try simp only[hb])
    |refine U.aL (by decide +kernel) rfl fun K hK =>?_
    |(refine .aF [0,1,4,5,6,7,8,16,23,45,47,56] hK ?_;clear hK K)
    |(with_reducible refine .done (hK _ ?_);clear hK K)
    |refine U.of rfl ?_
    |(with_reducible refine ao.aK (fun h =>?_) (fun h =>?_) <;>try simp only[h])) <;>try simp only[aM,R,Nat.reduceEqDiff,reduceIte,Nat.reduceBEq])
   all_goals clear R
  ·have h60:decide ((60:Int)<(out.length:Int))=true:=by simp;omega
   rw[if_neg hl60]
   have R:=And.intro @hc (And.intro @h60 (And.intro @bI (And.intro @aP @ab)))
   repeat' ((first
    |(with_reducible refine .guard (fun hb =>?_) (fun hb =>?_) <;>try simp only[hb])
    |refine U.aL (by decide +kernel) rfl fun K hK =>?_
    |(refine .aF [0,1,4,5,6,7,8,16,23,45,47,56] hK ?_;clear hK K)
    |(with_reducible refine .done (hK _ ?_);clear hK K)
    |refine U.of rfl ?_
    |(with_reducible refine ao.aK (fun h =>?_) (fun h =>?_) <;>try simp only[h])) <;>try simp only[aM,R,Nat.reduceEqDiff,reduceIte,Nat.reduceBEq])
   all_goals clear R
   all_goals rfl
 have hc:=fY hlt
 have he:=fun A=>gv (A:=A) hlt
 have hw:=fF (i:=i) (by omega)
 have hd:b.drop i=ae b i::b.drop (i+1):=by rw[List.drop_eq_getElem_cons hlt,eA hlt]
 have ht:b.take (i+1)=b.take i++[ae b i]:=by rw[List.take_succ_eq_append_getElem hlt,eA hlt]
 have hno:∀ y∈b.take i,y.bj≠(ae b i).bj:=fun y hy e=>by
  obtain ⟨k,hk,rfl⟩:=List.mem_take_iff_getElem.1 hy
  have hkb:k<b.length:=by omega
  have:=nY hsb (show k<i by omega) hlt
  rw[eA hkb] at e
  rw[e,oG] at this;cases this
 rw[hd] at hj
 generalize ae b i=x at he hj ht hno
 have hsame:eD out x.bj=eD a x.bj:=by
  rw[Bool.eq_iff_iff,HY,HY]
  constructor
  ·rintro ⟨y,hy,e⟩
   rcases (hm y).1 hy with h | h
   ·exact ⟨y,h,e⟩
   ·exact absurd e (hno y h)
  ·rintro ⟨y,hy,e⟩
   exact ⟨y,(hm y).2 (.inl hy),e⟩
 have h3:=tN a x.bj
 rw[wF hsa] at h3
 simp only[iI,hsame] at hj
 rcases q3:eD a x.bj
 ·rw[q3,if_neg (by decide)] at h3 hj
  rw[q3] at hsame
  have hW:=yA out x hs hsame (by omega)
  have hm1:decide ((0:Int)≤-1)=false:=rfl
  have hm2:decide ((-1:Int)<0)=true:=rfl
  have hil:=wO x (po out x.bj)
  have hsi:=Ia hs hsame
  have R:=And.intro @hc (And.intro @he (And.intro @hw (And.intro @hm1 (And.intro @hm2 (And.intro @bI (And.intro @aP @ab))))))
  repeat' ((first
   |(with_reducible refine .guard (fun hb =>?_) (fun hb =>?_) <;>try simp only[hb])
   |refine U.aL (by decide +kernel) rfl fun K hK =>?_
   |refine .flat _ (h3) rfl ?_
   |refine .lead _ (hW) ?_
   |(refine .aF [0,1,4,5,6,7,8,16,23,45,47,56] hK ?_;clear hK K)
   |(with_reducible refine .done (hK _ ?_);clear hK K)
   |refine U.of rfl ?_
   |(with_reducible refine ao.aK (fun h =>?_) (fun h =>?_) <;>try simp only[h])) <;>try simp only[aM,R,Nat.reduceEqDiff,reduceIte,Nat.reduceBEq])
  all_goals clear R
  refine ⟨(i+1,eI out (cG out x.bj) x),⟨by simp only;omega,hsi,by simp only;omega,hj,fun y =>?_⟩,by simp only;omega,?_⟩
  ·simp only[ht,afP,hm,List.mem_append,List.mem_singleton]
   constructor <;>(rintro (h | h | h) <;>simp[h])
  ·refine aI.b9 ?_ ?_ ?_ ?_ <;>simp[bd,bT,bS,bD,bh,I.only,bG]
 ·rw[q3,if_pos rfl] at h3 hj
  rw[q3] at hsame
  obtain ⟨p1,p2,p3⟩:=xJ hsa q3
  obtain ⟨o1,o2,o3⟩:=xJ hs hsame
  have e1:ae out (cG out x.bj)=ae a (cG a x.bj):=by
   rcases (hm _).1 o3 with h | h
   ·exact ajq hsa h p3 (o2.trans p2.symm)
   ·exact absurd o2 (hno _ h)
  have h0:decide ((0:Int)≤(cG a x.bj:Int))=true:=by simp
  have h00:decide ((cG a x.bj:Int)<0)=false:=by simp
  have he2:=fun A=>gv (A:=A) p1
  rw[e1] at hj o3
  by_cases h:ae a (cG a x.bj)=x
  ·have hd2:decide (ae a (cG a x.bj)=x)=true:=by simp[h]
   rw[if_pos h] at hj
   rw[h] at o3
   have R:=And.intro @hc (And.intro @he (And.intro @he2 (And.intro @hw (And.intro @h0 (And.intro @h00 (And.intro @hd2 (And.intro @bI (And.intro @aP @ab))))))))
   repeat' ((first
    |(with_reducible refine .guard (fun hb =>?_) (fun hb =>?_) <;>try simp only[hb])
    |refine U.aL (by decide +kernel) rfl fun K hK =>?_
    |refine .flat _ (h3) rfl ?_
    |(refine .aF [0,1,4,5,6,7,8,16,23,45,47,56] hK ?_;clear hK K)
    |(with_reducible refine .done (hK _ ?_);clear hK K)
    |refine U.of rfl ?_
    |(with_reducible refine ao.aK (fun h =>?_) (fun h =>?_) <;>try simp only[h])) <;>try simp only[aM,R,decide_true,Nat.reduceEqDiff,reduceIte,Nat.reduceBEq])
   all_goals clear R
   refine ⟨(i+1,out),⟨by simp only;omega,hs,by simp only;omega,hj,fun y =>?_⟩,by simp only;omega,?_⟩
   ·simp only[ht,hm,List.mem_append,List.mem_singleton]
    constructor
    ·rintro (h | h) <;>simp[h]
    ·rintro (h | h | rfl)
     ·exact .inl h
     ·exact .inr h
     ·exact (hm _).1 o3
   ·refine aI.b9 ?_ ?_ ?_ ?_ <;>simp[bd,bT,bS,bD,bh,I.only,bG]
  ·have hd2:decide (ae a (cG a x.bj)=x)=false:=by simp[h]
   rw[if_neg h] at hj
   have hJ2:J=([],43):=by rw[hJ,ji,hj]
   rw[hJ2]
   have R:=And.intro @hc (And.intro @he (And.intro @he2 (And.intro @hw (And.intro @h0 (And.intro @h00 (And.intro @hd2 (And.intro @bI (And.intro @aP @ab))))))))
   repeat' ((first
    |(with_reducible refine .guard (fun hb =>?_) (fun hb =>?_) <;>try simp only[hb])
    |refine U.aL (by decide +kernel) rfl fun K hK =>?_
    |refine .flat _ (h3) rfl ?_
    |(refine .aF [0,1,4,5,6,7,8,16,23,45,47,56] hK ?_;clear hK K)
    |(with_reducible refine .done (hK _ ?_);clear hK K)
    |refine U.of rfl ?_
    |(with_reducible refine ao.aK (fun h =>?_) (fun h =>?_) <;>try simp only[h])) <;>try simp only[aM,R,decide_true,Nat.reduceEqDiff,reduceIte,Nat.reduceBEq])
   all_goals clear R
   all_goals rfl
theorem aju{A:af}{n:Nat}{w:I}{x:Item}{c d:Int}{rest:List aB} : dY A (some 2) n [] w (enc x) rest (some (.agg [.int .i64 c,.int .i64 d]))=aC rest (A.aR n (.box (enc x))):=by
 rw[fq (s:=some 2) (dz _) (nI x) ((fm x).trans rfl),gh]
theorem MF(a b:List ak)(x:ak):az Tryz.prog 12 [enc a,enc b,enc x] (enc true):=by
 have h1:=NH a x
 have h2:=NI a x
 have h3:=NF a b
 have h4:=NJ a b
 have h5:=ND a x.bj
 have h6:=NK a x.bj
 have h7:=NL x.known
 have h8:=NM x.known
 generalize nd a x=u1 at h1 h2
 generalize nB a b=u2 at h3 h4
 generalize oh a x.bj=u3 at h5 h6
 generalize lS x.known=u4 at h7 h8
 refine az.bn Tryz.func12 Pv Rs TC (Nat.le_of_ble_eq_true rfl) (fun hwf W0 D0 E1 =>?_)
 simp only[zE,JF,bg,Nat.zero_add,Nat.reduceAdd]
 clear hwf
 have q1:∀ e:Int,(e==e)=true:=fun e=>by simp
 have q2:∀ e:Int,(e != e)=false:=fun e=>by simp
 have R:=And.intro @q1 (And.intro @q2 (And.intro @aju eV))
 repeat' ((first
  |(with_reducible refine .guard (fun hb =>?_) (fun hb =>?_) <;>try simp only[hb])
  |refine U.aL (by decide +kernel) rfl fun K hK =>?_
  |refine .lead _ (h1) ?_
  |refine .lead _ (h2) ?_
  |refine .lead _ (h3) ?_
  |refine .lead _ (h4) ?_
  |refine .lead _ (h5) ?_
  |refine .lead _ (h6) ?_
  |refine .lead _ (h7) ?_
  |refine .lead _ (h8) ?_
  |refine .flat _ (NG _ _) rfl ?_
  |refine .flat _ (NN _) rfl ?_
  |refine .flat _ (NO _) rfl ?_
  |refine .flat _ (yR _) rfl ?_
  |refine .flat _ (qY _) rfl ?_
  |refine .flat _ (oi _) rfl ?_
  |refine .flat _ (oj _) rfl ?_
  |refine .flat _ (Nz) rfl ?_
  |(refine .aF [0,1,2,5,6,7,8,9,10,11,12,13,14,15,16,17,18,19,20,21,22,113] hK ?_;clear hK K)
  |(with_reducible refine .done (hK _ ?_);clear hK K)
  |refine U.of rfl ?_
  |(with_reducible refine ao.aK (fun h =>?_) (fun h =>?_) <;>try simp only[h])) <;>try simp only[aM,R,eq_self,decide_true,Nat.reduceEqDiff,reduceIte,Nat.reduceBEq])
 all_goals clear R
end Go.Proofs.YtcldiigclhgafaaGreat
