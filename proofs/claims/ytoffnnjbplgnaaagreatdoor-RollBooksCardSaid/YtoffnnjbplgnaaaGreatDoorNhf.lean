/-
  A part of the proof that the law RollBooks returns true for every input; five variables of Go's library start as the text lays them (the card ties them); conditions: none beyond the statement's own. (part 6 of 7)
-/
import Derived.Test.YtoffnnjbplgnaaaGreatDoorNhe
set_option linter.unusedSimpArgs false
set_option linter.unusedVariables false
set_option maxHeartbeats 16000000
set_option maxRecDepth 100000
namespace Go.Proofs.YtoffnnjbplgnaaaGreatDoor
open Go Go.Abs
open Go.Abs.Enc (enc)
def mM(known:Int)(g:Bool)(x:ah):Bool:=(x.kind==0)||(decide (x.known>known) || !g)
theorem Gl(x:ah)(known:Int)(ks vs:List I)(g b:Bool)(hk:jI (.aS [.i .i64,.i .i64]) (.bool false) (enc x.aV) ks vs=some (.bool g,b)):aK Tryz.prog 107 [enc x,.ref (enc known),.ref (.cu ks vs)] (enc (mM known g x)):=by
 refine aK.bJ Tryz.func107 Iz J2 Lu (t7 rfl) (fun hwf W0 bC E1 =>?_);simp only[yU,Dy,bA,zz3,Nat.reduceAdd];clear hwf;rw[mM];have hok:bT none (I.cu ks vs)=true:=rfl;cases qa:x.kind==0
 ·cases qb:decide (x.known>known)
  ·have R:=y6 @qa (y6 @qb (y6 @hok (y6 @hk (y6 @eN ak))))
   repeat' ((first |(with_reducible refine .guard (fun hb =>?_) (fun hb =>?_) <;>try simp only[hb])|refine U.au (by decide +kernel) rfl fun K hK =>?_|(refine .aq [0,1,2,3,4] hK ?_;clear hK K)|(with_reducible refine .done (hK _ ?_);clear hK K)|refine U.of rfl ?_|(with_reducible refine aj.ar (fun h =>?_) (fun h =>?_) <;>try simp only[h])) <;>try simp only[av,R,simprocAttr])
   all_goals clear R
   all_goals rfl
  ·have R:=y6 @qa (y6 @qb (y6 @eN ak))
   repeat' ((first |(with_reducible refine .guard (fun hb =>?_) (fun hb =>?_) <;>try simp only[hb])|refine U.au (by decide +kernel) rfl fun K hK =>?_|(refine .aq [0,1,2,3,4] hK ?_;clear hK K)|(with_reducible refine .done (hK _ ?_);clear hK K)|refine U.of rfl ?_|(with_reducible refine aj.ar (fun h =>?_) (fun h =>?_) <;>try simp only[h])) <;>try simp only[av,R,simprocAttr])
   all_goals clear R
   all_goals rfl
 ·have R:=y6 @qa (y6 @eN ak)
  repeat' ((first |(with_reducible refine .guard (fun hb =>?_) (fun hb =>?_) <;>try simp only[hb])|refine U.au (by decide +kernel) rfl fun K hK =>?_|(refine .aq [0,1,2,3,4] hK ?_;clear hK K)|(with_reducible refine .done (hK _ ?_);clear hK K)|refine U.of rfl ?_|(with_reducible refine aj.ar (fun h =>?_) (fun h =>?_) <;>try simp only[h])) <;>try simp only[av,R,simprocAttr])
  all_goals clear R
  all_goals rfl
def gI(known:Int)(ks:List Item)(vs:List Bool)(gs:List Item):List (Nat×ai) :=
 [(1000003,.box (.int .i64 known)),(1000005,.box (.mref 1000009)),(1000006,.box (.mref 1000010)),(1000009,.b8 (ks.map enc) (vs.map enc)),(1000010,.b8 (gs.map enc) (List.replicate gs.length (.bool true)))]
theorem Da(p:Nat→Bool)(n:Nat)(b:Bool):I.cB p (List.replicate n (.bool b))=true:=by
 induction n with
 |zero=>rfl
 |succ n ih=>simp[List.replicate_succ,I.cB,I.only,ih]
theorem acI(ρ:Nat→Nat)(n:Nat)(b:Bool):I.cP ρ (List.replicate n (.bool b))=List.replicate n (.bool b):=by
 induction n with
 |zero=>rfl
 |succ n ih=>simp only[List.replicate_succ,I.cP,I.aR,ih]
theorem ab4(known:Int)(ks:List Item)(vs:List Bool)(gs:List Item)(ks':List Item)(vs':List Bool)(gs':List Item):dM (gI known ks vs gs) (gI known ks' vs' gs'):=by
 refine ⟨fun n=>by simp only[gI,aw,aG];(repeat' split) <;>rfl,fun n x h =>?_,fun n h =>?_⟩
 ·simp only[gI,aG] at h
  repeat' split at h
  all_goals first | (cases h;done) | (simp only[v6] at h;subst h;exact ⟨by simp[gI,aw,aG,ai.only,I.only,eR,Da],rfl⟩)
 ·simp only[gI,aw,aG] at h
  repeat' split at h
  all_goals first | omega | (simp at h;done)
structure oh (l:List ah) (known:Int) (k:Nat) (ks:List Item) (vs:List Bool) (gs:List Item):Prop where
 ks:ks=(l.drop (l.length-k)).reverse.map ah.aV
 vs:vs=(dZ known (l.drop (l.length-k))).1.reverse
 gs:∀ a:Item,a∈gs↔(dZ known (l.drop (l.length-k))).2.contains (a.aT,a.no)=true
theorem FJ(known:Int):∀ l:List ah,(dZ known l).1.length=l.length
 | []=>rfl
 |r::l=>by simp only[dZ,zw0,FJ known l]
theorem oh.step{l:List ah}{known:Int}{k i:Nat}{ks:List Item}{vs:List Bool}{gs:List Item}(hk:k<l.length)(hi:i=l.length-1-k)(h:oh l known k ks vs gs) :
  oh l known (k+1) (ks++[(ga l i).aV]) (vs++[!decide ((ga l i).aV∈gs)]) (if (ga l i).kind=0∧decide ((ga l i).aV∈gs)=false∧(ga l i).known≤known then Go.Abs.eM gs (ga l i).fw else gs):=by
 have hil:i<l.length:=by omega
 have e1:l.length-k=i+1:=by omega
 have e2:l.length-(k+1)=i:=by omega
 obtain ⟨h1,h2,h3⟩:=h;rw[e1] at h1 h2 h3;have er:ga l i=l[i]:=by rw[ga,zz6,zz5 hil];rfl
 have hd:l.drop i=ga l i::l.drop (i+1):=by rw[er,List.drop_eq_getElem_cons hil]
 generalize ga l i=r at *;have hg:decide (r.aV∈gs)=(dZ known (l.drop (i+1))).2.contains (r.aT,r.no):=by
  rw[Bool.eq_iff_iff,decide_eq_true_eq];exact h3 _
 rw[hg];refine ⟨by rw[e2,hd,h1];simp,by rw[e2,hd,h2];simp[dZ],fun a =>?_⟩;rw[e2,hd,dZ];generalize (dZ known (l.drop (i+1))).2.contains (r.aT,r.no)=g at *;split
 ·rw[Zn,h3,List.contains_cons,Bool.or_eq_true,beq_iff_eq,Prod.mk.injEq];constructor
  ·rintro (e | e)
   ·exact .inl ⟨by rw[e];rfl,by rw[e];rfl⟩
   ·exact .inr e
  ·rintro (⟨e,f⟩ | e)
   ·exact .inl (by obtain ⟨m,n⟩:=a;simp only at e f;rw[e,f];rfl)
   ·exact .inr e
 ·exact h3 a
theorem oh.mG{l:List ah}{known:Int}{k i:Nat}{ks:List Item}{vs:List Bool}{gs:List Item}(hl:l.Pairwise (fun x y=>¬ (x.aT=y.aT∧x.no=y.no)))(hk:k<l.length)(hi:i=l.length-1-k)(h:oh l known k ks vs gs):(ga l i).aV∉ks:=by
 have hil:i<l.length:=by omega
 have e1:l.length-k=i+1:=by omega
 have er:ga l i=l[i]:=by rw[ga,zz6,zz5 hil];rfl
 rw[h.ks,e1,er,zx1];rintro ⟨q,hq,e⟩;rw[List.mem_reverse] at hq;obtain ⟨j,hj,rfl⟩:=List.getElem_of_mem hq;rw[List.getElem_drop] at e;rw[zx5] at hj;have:=List.pairwise_iff_getElem.1 hl i (i+1+j) hil (by omega) (by omega);simp only[ah.aV,Item.mk.injEq] at e;exact this ⟨e.1.symm,e.2.symm⟩
theorem Ze{ks:List Item}{vs:List Bool}{a:Item}{v:Bool}(h:a∉ks)(hl:vs.length=ks.length):jI (.aS [.i .i64,.i .i64]) (.bool false) (enc a) ((ks++[a]).map enc) ((vs++[v]).map enc)=some (.bool v,true):=by
 rw[sV ly];have:(ks++[a]).findIdx? (fun x=>decide (a=x))=some ks.length:=by
  rw[List.findIdx?_eq_some_iff_getElem];refine ⟨by simp,by simp,fun j hj =>?_⟩;rw[List.getElem_append_left hj];have:a≠ks[j]:=fun e=>h (e▸zw3 hj);simpa using this
 rw[this];simp[←hl];rfl
theorem Zv{ks:List Item}{vs:List Bool}{a:Item}{v:Bool}(h:a∉ks):lJ (.aS [.i .i64,.i .i64]) (enc a) (.bool v) (ks.map enc) (vs.map enc)=some ((ks++[a]).map enc,(vs++[v]).map enc):=by
 rw[CK ly _ _ rfl];have:ks.findIdx? (fun x=>decide (a=x))=none:=by
  rw[List.findIdx?_eq_none_iff];intro x hx;have:a≠x:=fun e=>h (e▸hx);simpa using this
 rw[this];simp;rfl
theorem xu:(∀ (A:ab) n b m rest,dT A none n [] b (.mref m) rest (some (.raw (.map none)))=aA rest (A.aN n (.box (.mref m)))) :=
 fun _ _ _ _ _=>by rw[fg (s:=none) (v:=.mref _) (old:=.raw _) rfl rfl rfl,ff]
theorem CD(A:ab)(k:Nat):∀ l:List Bool,gq (fI A (k+1)) (l.map enc)=some (l.map enc)
 | []=>rfl
 |b::l=>by
  have h:fI A (k+1) (enc b)=some (enc b):=by cases b <;>rfl
  simp only[zz7,gq,h,CD A k l]
theorem Ol{A:ab}{n:Nat}{ks:List Item}{vs:List Bool}(h:A.o n=some (.b8 (ks.map enc) (vs.map enc))):bf true A (.mref n)=some (.cu (ks.map enc) (vs.map enc)):=by
 simp only[bf,if_true,h];rw[if_pos (mq _),CD];rfl
def xy(known:Int)(l:List ah):I:=.cu ((l.reverse.map ah.aV).map enc) ((dZ known l).1.reverse.map enc)
theorem xM(l:List ah)(known:Int)(hl:l.length≤4000000000000)(hp:l.Pairwise (fun x y=>¬ (x.aT=y.aT∧x.no=y.no))):aK Tryz.prog 103 [enc l,enc known] (xy known l):=by
 refine aK.bJ Tryz.func103 Iv JZ Lr (t7 rfl) (fun hwf W0 bC E1 =>?_);simp only[yR,Du,bA,zz3];clear hwf;refine .di (by decide +kernel) fun K hK =>?_;simp only[Bw,aU,simprocAttr]
 try simp only[ak,aU,simprocAttr]
 refine .done (hK _ ?_);clear hK K;refine .di (by decide +kernel) fun K hK =>?_;simp only[Bx,aU,simprocAttr]
 try simp only[eN,xu,aU,simprocAttr]
 refine .done (hK _ ?_);clear hK K;refine .di (by decide +kernel) fun K hK =>?_;simp only[By,aU,simprocAttr]
 try simp only[eN,xu,aU,simprocAttr]
 refine .done (hK _ ?_);clear hK K;refine U.seq (U.seq ?_);refine .fQ (by decide +kernel) fun K hK =>?_;simp only[Bz,aU,simprocAttr]
 try simp only[ak,aU,simprocAttr]
 refine .lead _ (GC l) ?_
 try simp only[aU,simprocAttr]
 refine .done (hK _ ?_);clear hK K;try simp only[cg]
 refine U.block (U.jN (osb0:=gI known [] [] []) (tsR:=[(3,.ptr 1000003 []),(5,.ptr 1000005 []),(6,.ptr 1000006 [])]) (ρ:=[(1999999,999999),(1000003,3),(1000005,5),(1000006,6),(1000009,9),(1000010,10)])
  (fun k os=>∃ ks vs gs,os=gI known ks vs gs∧oh l known k ks vs gs)
  (fun _ _=>False)
  ⟨rfl,rfl⟩ (t7 rfl) (by simp only[aU,simprocAttr]) (by simp[I.b7,I.bw,gN]) Af (GH l hl) (fun _=>rfl) rfl rfl rfl (fun o=>⟨?_,?_⟩) ?_ ?_ ?_ ⟨[],[],[],rfl,?_⟩ ?_ ?_ ?_)
 ·intro n x hx;simp only[bE,gI,aG] at hx
  repeat' split at hx
  all_goals first | (cases hx;done) | (subst_vars;simp only[v6] at hx;subst hx;simp[bE,gI,aw,bo,aG,ai.aR,I.aR,I.cP,ai.only,I.only,I.cB,ai.dO])
 ·intro a b ha hb;simp only[bE,gI,aw,aG] at ha hb
  repeat' split at ha
  all_goals first | (simp at ha;done) | skip
  all_goals (repeat' split at hb)
  all_goals first | (simp at hb;done) | (subst_vars;simp[bo])
 ·simp[jt,bI,I.aR,bo,I.only,gI,aw,aG]
 ·rintro k os ⟨ks,vs,gs,rfl,_⟩;exact ab4 ..
 ·rintro e os h;exact h.elim
 ·exact ⟨by simp,by simp[dZ],fun a=>by simp[dZ]⟩
 ·rintro k osb hk ⟨ks,vs,gs,rfl,hst⟩ W1 D1 E1 YQ o1 o2;obtain ⟨i,hi⟩:∃ i,i=l.length-1-k:=⟨_,rfl⟩
  have hil2:i<l.length:=by omega
  have hstep:=hst.step hk hi;have hnew:=hst.mG hp hk hi;have hvl:vs.length=ks.length:=by rw[hst.vs,hst.ks];simp[FJ]
  have hlk:=Zd ly (ga l i).aV gs;have hlk2:=fun v=>Ze (v:=v) hnew hvl;have hup:=fun v=>Zv (vs:=vs) (v:=v) hnew;have hup2:=Zu ly (ga l i).fw gs;simp only[pd,bE,gI,←hi];generalize ga l i=r at *;have R:=y6 @dY (y6 @ev ak)
  repeat' ((first |(with_reducible refine .guard (fun hb =>?_) (fun hb =>?_) <;>try simp only[hb])|refine U.au (by decide +kernel) rfl fun K hK =>?_|(refine .aq [0,1,3,4,5,6,8,12,14,37] hK ?_;clear hK K)|(with_reducible refine .done (hK _ ?_);clear hK K)|refine U.of rfl ?_|(with_reducible refine aj.ar (fun h =>?_) (fun h =>?_) <;>try simp only[h])) <;>try simp only[av,R,simprocAttr])
  all_goals clear R
  refine ⟨trivial,?_⟩;rcases h1:r.kind==0 <;>rcases h2:decide (r.aV∈gs) <;>rcases h3:decide (r.known≤known)
  all_goals
   have h1':=h1;simp only[beq_iff_eq,beq_eq_false_iff_ne] at h1';have h3':=h3;simp only[decide_eq_true_eq,decide_eq_false_iff_not] at h3';simp only[h1',h2,h3',Bool.not_true,Bool.not_false,Bool.true_eq_false,and_true,and_false,if_true,if_false] at hstep;rw[h2] at hlk;have R:=y6 @h1 (y6 @h3 (y6 @hlk (y6 @hlk2 (y6 @hup (y6 @hup2 (y6 @aau (y6 @xu (y6 @eN ak))))))))
   repeat' ((first |(with_reducible refine .guard (fun hb =>?_) (fun hb =>?_) <;>try simp only[hb])|refine U.au (by decide +kernel) rfl fun K hK =>?_|(refine .aq [0,1,3,4,5,6,8,12,14,37] hK ?_;clear hK K)|(with_reducible refine .done (hK _ ?_);clear hK K)|refine U.of rfl ?_|(with_reducible refine aj.ar (fun h =>?_) (fun h =>?_) <;>try simp only[h])) <;>try simp only[av,R,simprocAttr])
   all_goals clear R
   generalize ks++[r.aV]=ks2 at hstep ⊢;generalize vs++[_]=vs2 at hstep ⊢
   try generalize Go.Abs.eM gs _=gs2 at hstep ⊢
   refine ⟨gI known _ _ _,?_,_,_,_,rfl,hstep⟩;intro n x hx;simp only[bE,gI,aG] at hx
   (repeat' split at hx) <;>first
    |(cases hx;done)
    |(subst_vars;simp only[v6] at hx;subst hx;simp[gI,bE,aw,al,aG,ai.only,I.only,ai.dO,eR,Da])
 ·rintro os ⟨ks,vs,gs,rfl,hst⟩
  try simp only[gI,kg,zy2,zy4,cg,iJ,simprocAttr]
  have aa2:I.aR (bo [(1999999,999999),(1000003,3),(1000005,5),(1000006,6),(1000009,9),(1000010,10)]) (I.mref 1000009)=.mref 9:=rfl;have aa1:I.aR (bo [(1999999,999999),(1000003,3),(1000005,5),(1000006,6),(1000009,9),(1000010,10)]) (I.mref 1000010)=.mref 10:=rfl;have hok:bT none (I.mref 9)=true:=rfl;have hk1:ks=l.reverse.map ah.aV:=by rw[hst.ks];simp
  have hv1:vs=(dZ known l).1.reverse:=by rw[hst.vs];simp
  simp only[aa2,aa1];have R:=y6 @hok (y6 @eN ak)
  repeat' ((first |(with_reducible refine .guard (fun hb =>?_) (fun hb =>?_) <;>try simp only[hb])|refine U.au (by decide +kernel) rfl fun K hK =>?_|(refine .aq [0,1,3,4,5,6,8,12,14,37] hK ?_;clear hK K)|(with_reducible refine .done (hK _ ?_);clear hK K)|refine U.of rfl ?_|(with_reducible refine aj.ar (fun h =>?_) (fun h =>?_) <;>try simp only[h])) <;>try simp only[av,R,simprocAttr])
  all_goals clear R
  have e9:ai.aR (bo [(1999999,999999),(1000003,3),(1000005,5),(1000006,6),(1000009,9),(1000010,10)]) (ai.b8 (ks.map enc) (vs.map enc))=ai.b8 (ks.map enc) (vs.map enc):=by
   simp only[ai.aR,jM]
  rw[Ol (ks:=ks) (vs:=vs) (by rw[e9];rfl),hk1,hv1];rfl
 ·rintro e os h;exact h.elim
theorem Ch{l:List ah}{j:Nat}(h:j<(l.reverse.map ah.aV).length):(l.reverse.map ah.aV)[j]=(l[l.length-1-j]'(by simp at h;omega)).aV:=by
 rw[List.getElem_map,List.getElem_reverse]
theorem Cy{l:List ah}{known:Int}(hp:l.Pairwise (fun x y=>¬ (x.aT=y.aT∧x.no=y.no))){k:Nat}(hk:k<l.length) :
  jI (.aS [.i .i64,.i .i64]) (.bool false) (enc l[k].aV) ((l.reverse.map ah.aV).map enc) ((dZ known l).1.reverse.map enc)=some (.bool ((b9 known l).getD k false),true):=by
 have hkl:l.length-1-k<(l.reverse.map ah.aV).length:=by simp;omega
 have hf:(l.reverse.map ah.aV).findIdx? (fun x=>decide (l[k].aV=x))=some (l.length-1-k):=by
  rw[List.findIdx?_eq_some_iff_getElem];refine ⟨hkl,?_,fun j hj =>?_⟩
  ·rw[Ch hkl,decide_eq_true_eq]
   congr 2
   omega
  ·rw[Ch (by omega)];simp only[decide_eq_true_eq];intro e;have hjl:j<l.length:=by omega
   have:=List.pairwise_iff_getElem.1 hp k (l.length-1-j) hk (by omega) (by omega);simp only[ah.aV,Item.mk.injEq] at e;exact this e
 rw[sV ly,hf];have hs:(dZ known l).1=b9 known l:=(FO known l).1;simp only[hs];rw[zx2,List.getElem?_reverse (by rw[iF];omega),iF,show l.length-1-(l.length-1-k)=k by omega,zz6];rw[zz5 (by rw[iF];exact hk)];rfl
theorem Zf{l:List ah}{known:Int}{a:Item}(h:l.find? (fun r=>decide (r.aV=a))=none) :
  jI (.aS [.i .i64,.i .i64]) (.bool false) (enc a) ((l.reverse.map ah.aV).map enc) ((dZ known l).1.reverse.map enc)=some (.bool false,false):=by
 have hf:(l.reverse.map ah.aV).findIdx? (fun x=>decide (a=x))=none:=by
  rw[List.findIdx?_eq_none_iff];intro x hx;obtain ⟨r,hr,rfl⟩:=zx1.1 hx;have:=List.find?_eq_none.1 h r (List.mem_reverse.1 hr);simp only[decide_eq_true_eq] at this;simpa using fun e=>this e.symm
 rw[sV ly,hf]
theorem GS(l:List ah)(hl:l.length≤4000000000000)(a:Item):aK Tryz.prog 49 [enc (⟨l⟩:dF),enc a] (.tuple [enc (nU l a).1,enc (nU l a).2]):=by
 refine aK.bJ Tryz.func49 Jn KK Me (t7 rfl) (fun hwf W0 bC E1 =>?_);simp only[zG,Em,bA,zz3];clear hwf;have f92:=pI l hl;rw[nU];cases q1:fj l
 ·rw[q1] at f92;rw[if_pos rfl];have R:=ak
  repeat' ((first |refine U.au (by decide +kernel) rfl fun K hK =>?_|refine .flat _ (f92) rfl ?_|(refine .aq [0,1,2,3,4,5,6,7,10,20] hK ?_;clear hK K)|(with_reducible refine .done (hK _ ?_);clear hK K)|refine U.of rfl ?_|(with_reducible refine aj.ar (fun h =>?_) (fun h =>?_) <;>try simp only[h])) <;>try simp only[av,R,simprocAttr])
  all_goals clear R
  all_goals rfl
 rw[q1] at f92;rw[if_neg (by decide)];have hp:=xt (jW q1).rm;have f103:=xM l 100000 hl hp;rw[xy] at f103;cases q2:l.find? (fun r=>decide (r.aV=a)) with
 |none =>
  rw[if_pos (by rw[sf q2];decide)];have hk:=Zf (known:=100000) q2;generalize (l.reverse.map ah.aV).map (enc (α:=Item))=ks at *;generalize (dZ 100000 l).1.reverse.map (enc (α:=Bool))=vs at *;have R:=y6 @hk (y6 @eN ak)
  repeat' ((first |refine U.au (by decide +kernel) rfl fun K hK =>?_|refine .flat _ (f92) rfl ?_|refine .lead _ (f103) ?_|(refine .aq [0,1,2,3,4,5,6,7,10,20] hK ?_;clear hK K)|(with_reducible refine .done (hK _ ?_);clear hK K)|refine U.of rfl ?_|(with_reducible refine aj.ar (fun h =>?_) (fun h =>?_) <;>try simp only[h])) <;>try simp only[av,R,simprocAttr])
  all_goals clear R
 |some r =>
  obtain ⟨k,hk,h1,h2⟩:=qd (i:=0) q2;rw[zz3] at h1;rw[h1,if_neg (by omega),zw8];have hr:l[k]=r:=by rw[zz5 hk] at h2;exact Option.some.inj h2
  have ha:r.aV=a:=by have:=List.find?_some q2;simpa using this
  have hlk:=Cy (known:=100000) hp hk;rw[hr,ha] at hlk;generalize (b9 100000 l).getD k false=s at *;generalize (l.reverse.map ah.aV).map (enc (α:=Item))=ks at *;generalize (dZ 100000 l).1.reverse.map (enc (α:=Bool))=vs at *;have R:=y6 @hlk (y6 @eN ak)
  repeat' ((first |refine U.au (by decide +kernel) rfl fun K hK =>?_|refine .flat _ (f92) rfl ?_|refine .lead _ (f103) ?_|(refine .aq [0,1,2,3,4,5,6,7,10,20] hK ?_;clear hK K)|(with_reducible refine .done (hK _ ?_);clear hK K)|refine U.of rfl ?_|(with_reducible refine aj.ar (fun h =>?_) (fun h =>?_) <;>try simp only[h])) <;>try simp only[av,R,simprocAttr])
  all_goals clear R
  all_goals rfl
def my(known:Int)(l:List ah)(x:ah):Bool:=(b9 known l).getD (iM x.aV l 0).toNat false
theorem Bf{l:List ah}(hp:l.Pairwise (fun x y=>¬ (x.aT=y.aT∧x.no=y.no))){i:Nat}(hi:i<l.length):iM l[i].aV l 0=(i:Int):=by
 cases q:l.find? (fun r=>decide (r.aV=l[i].aV)) with
 |none=>have:=List.find?_eq_none.1 q l[i] (zw3 hi);simp at this
 |some r =>
  obtain ⟨k,hk,h1,h2⟩:=qd (i:=0) q;rw[zz3] at h1;have hr:l[k]=r:=by rw[zz5 hk] at h2;exact Option.some.inj h2
  have ha:r.aV=l[i].aV:=by have:=List.find?_some q;simpa using this
  rw[h1];have e:k=i:=by
   rcases Nat.lt_trichotomy k i with h | h | h
   ·have:=List.pairwise_iff_getElem.1 hp k i hk hi h;rw[←hr] at ha;simp only[ah.aV,Item.mk.injEq] at ha;exact absurd ha this
   ·exact h
   ·have:=List.pairwise_iff_getElem.1 hp i k hi hk h;rw[←hr] at ha;simp only[ah.aV,Item.mk.injEq] at ha;exact absurd ⟨ha.1.symm,ha.2.symm⟩ this
  rw[e]
theorem Yt(known:Int)(x:ah)(g:Bool):fJ known (x,g) = !mM known g x:=by
 have e:decide (x.known>known) = !decide (x.known≤known):=by
  rw[Bool.eq_iff_iff];simp
 have e2:(x.kind != 0) = !(x.kind==0):=rfl;simp only[fJ,mM,e,e2];generalize (x.kind==0)=k;generalize decide (x.known≤known)=d;cases g <;>cases k <;>cases d <;>rfl
theorem acd{l:List ah}{known:Int}(hp:l.Pairwise (fun x y=>¬ (x.aT=y.aT∧x.no=y.no))):(l.filter fun x => !mM known (my known l x) x)=kW known l:=by
 have hz:l.zip (b9 known l)=l.map fun x=>(x,my known l x):=by
  refine List.ext_getElem (by rw[List.length_zip,iF,zz2];omega) fun i h1 h2 =>?_;rw[zz2] at h2;rw[List.getElem_zip,List.getElem_map,my,Bf hp h2,zw8,zz6,zz5 (by rw[iF];exact h2)];rfl
 rw[kW,hz,List.filter_map,List.map_map];have e:(fJ known∘fun x=>(x,my known l x))=fun x => !mM known (my known l x) x:=funext fun x=>Yt known x _;rw[e]
 symm
 exact List.map_id'' (fun _=>rfl) _
theorem sM:∀ n,(I.int .i64 n).cn=true:=fun _=>rfl
theorem ab3(ks:List Item)(vs:List Bool)(A:ab)(n:Nat)(b:I)(rest:List aC):dT A none n [] b (.cu (ks.map enc) (vs.map enc)) rest (some (.raw (.map none)))=aA rest (A.aN n (.box (.cu (ks.map enc) (vs.map enc)))):=by
 have h:(I.cu (ks.map enc) (vs.map enc)).cn=true:=qu (by simp only[I.bw,mq,Bool.and_self]);rw[fg (s:=none) (v:=.cu _ _) (old:=.raw _) h rfl rfl,ff]
theorem GV(l:List ah)(hl:l.length≤4000000000000)(known:Int):aK Tryz.prog 51 [enc (⟨l⟩:dF),enc known] (.tuple [enc (l9 known l).1,enc (l9 known l).2]):=by
 refine aK.bJ Tryz.func51 Jp KM Mg (t7 rfl) (fun hwf W0 bC E1 =>?_);simp only[c51,Eo,bA,zz3];clear hwf;have f92:=pI l hl;have f105:=uv known;rw[l9];cases q1:fj l
 ·rw[q1] at f92;rw[if_pos rfl];have R:=y6 @sM ak
  repeat' ((first |refine U.au (by decide +kernel) rfl fun K hK =>?_|refine .flat _ (f92) rfl ?_|(refine .aq [0,1,2,3,4,5,6,7,11] hK ?_;clear hK K)|(with_reducible refine .done (hK _ ?_);clear hK K)|refine U.of rfl ?_|(with_reducible refine aj.ar (fun h =>?_) (fun h =>?_) <;>try simp only[h])) <;>try simp only[av,R,simprocAttr])
  all_goals clear R
  all_goals rfl
 rw[q1] at f92;rw[if_neg (by decide)];have hlb:=(jW q1).len;cases q2:dP 0 100000 known
 ·rw[q2] at f105;rw[if_pos rfl];have R:=y6 @sM ak
  repeat' ((first |refine U.au (by decide +kernel) rfl fun K hK =>?_|refine .flat _ (f92) rfl ?_|refine .flat _ (f105) rfl ?_|(refine .aq [0,1,2,3,4,5,6,7,11] hK ?_;clear hK K)|(with_reducible refine .done (hK _ ?_);clear hK K)|refine U.of rfl ?_|(with_reducible refine aj.ar (fun h =>?_) (fun h =>?_) <;>try simp only[h])) <;>try simp only[av,R,simprocAttr])
  all_goals clear R
  all_goals rfl
 rw[q2] at f105;rw[if_neg (by decide)];have hp:=xt (jW q1).rm;have f103:=xM l known hl hp;rw[xy] at f103;obtain ⟨ks,hks⟩:∃ ks,ks=l.reverse.map ah.aV:=⟨_,rfl⟩
 obtain ⟨vs,hvs⟩:∃ vs,vs=(dZ known l).1.reverse:=⟨_,rfl⟩
 rw[←hks,←hvs] at f103;have hst:=ab3 ks vs;refine U.seq (U.xJ (al [(2,.ptr 2 []),(3,.ptr 3 [])] [(2,.box (enc (⟨l⟩:dF))),(3,.box (.int .i64 known))]) ?_ fun B hB=>U.sub hB ?_)
 ·have R:=y6 @sM ak
  repeat' ((first |refine U.au (by decide +kernel) rfl fun K hK =>?_|(refine .aq [0,1,2,3,4,5,6,7,11] hK ?_;clear hK K)|(with_reducible refine .done (hK _ ?_);clear hK K)|refine U.of rfl ?_|(with_reducible refine aj.ar (fun h =>?_) (fun h =>?_) <;>try simp only[h])) <;>try simp only[av,R,simprocAttr])
  all_goals clear R
  refine bn.bZ ?_ ?_ ?_ ?_ <;>simp[bK,bP,bO,bF,aw,bI,cL,I.only,ai.only,bt]
  all_goals rfl
 refine U.seq (U.xJ (al [(2,.ptr 2 []),(3,.ptr 3 [])] [(2,.box (enc (⟨l⟩:dF))),(3,.box (.int .i64 known))]) ?_ fun B hB=>U.sub hB ?_)
 ·have R:=y6 @sM ak
  repeat' ((first |refine U.au (by decide +kernel) rfl fun K hK =>?_|refine .flat _ (f92) rfl ?_|refine .flat _ (f105) rfl ?_|(refine .aq [0,1,2,3,4,5,6,7,11] hK ?_;clear hK K)|(with_reducible refine .done (hK _ ?_);clear hK K)|refine U.of rfl ?_|(with_reducible refine aj.ar (fun h =>?_) (fun h =>?_) <;>try simp only[h])) <;>try simp only[av,R,simprocAttr])
  all_goals clear R
  refine bn.bZ ?_ ?_ ?_ ?_ <;>simp[bK,bP,bO,bF,aw,bI,cL,I.only,ai.only,bt]
  all_goals rfl
 refine U.seq (U.xJ (al [(2,.ptr 2 []),(3,.ptr 3 []),(6,.ptr 6 [])] [(2,.box (enc (⟨l⟩:dF))),(3,.box (.int .i64 known)),(6,.box (.cu (ks.map enc) (vs.map enc)))]) ?_ fun B hB=>U.sub hB ?_)
 ·have R:=y6 @hst (y6 @eN ak)
  repeat' ((first |refine U.au (by decide +kernel) rfl fun K hK =>?_|refine .lead _ (f103) ?_|(refine .aq [0,1,2,3,4,5,6,7,11] hK ?_;clear hK K)|(with_reducible refine .done (hK _ ?_);clear hK K)|refine U.of rfl ?_|(with_reducible refine aj.ar (fun h =>?_) (fun h =>?_) <;>try simp only[h])) <;>try simp only[av,R,simprocAttr])
  all_goals clear R
  refine bn.bZ ?_ ?_ ?_ ?_ <;>simp[bK,bP,bO,bF,aw,bI,cL,I.only,ai.only,eR,bt]
  all_goals rfl
 have hcl:(I.cu (ks.map enc) (vs.map enc)).bw=true:=by simp only[I.bw,mq,Bool.and_self]
 refine U.sub (bn.nj [3] 3 (x:=.ptr 3 []) (y:=.ref (enc known)) (ts':=[(2,.ptr 2 []),(3,.ref (enc known)),(6,.ptr 6 [])]) (os':=[(2,.box (enc (⟨l⟩:dF))),(6,.box (.cu (ks.map enc) (vs.map enc)))]) rfl ?_ ?_ ?_ ?_ ?_ ?_) ?_
 ·rw[oI];simp[lz,dv,al,jj,aG,I.bw,na];rfl
 ·simp[dw,bF,ai.only,I.only,bt,eR]
 ·simp[bK,il,bI,I.only]
 ·simp[bP,dw,aG]
 ·simp[bO,aw,aG,I.only,bt]
 ·simp[bF,ai.only,I.only,bt,eR]
 refine U.sub (bn.nj [6] 6 (x:=.ptr 6 []) (y:=.ref (.cu (ks.map enc) (vs.map enc))) (ts':=[(2,.ptr 2 []),(3,.ref (enc known)),(6,.ref (.cu (ks.map enc) (vs.map enc)))]) (os':=[(2,.box (enc (⟨l⟩:dF)))]) rfl ?_ ?_ ?_ ?_ ?_ ?_) ?_
 ·rw[oI];simp[lz,dv,al,jj,aG,hcl,na]
 ·simp[dw,bF,ai.only,bt]
 ·simp[bK,il,bI,I.only,bt]
 ·simp[bP,dw,aG]
 ·simp[bO,aw,aG,I.only,bt,eR]
 ·simp[bF,ai.only,bt]
 obtain ⟨caps,hcap⟩:∃ caps:List I,caps=[.ref (enc known),.ref (.cu (ks.map enc) (vs.map enc))]:=⟨_,rfl⟩
 have hcaps:I.fV caps=true:=by rw[hcap];simp only[I.fV,I.done,gN,hcl,Bool.and_self]
 have hf:∀ x∈l,aK Tryz.prog 107 (enc x::caps) (enc (mM known (my known l x) x)):=fun x hx=>by
  obtain ⟨i,hi,rfl⟩:=List.getElem_of_mem hx;rw[hcap];refine Gl _ known _ _ _ true ?_;rw[hks,hvs,Cy hp hi,my,Bf hp hi,zw8]
 have r1:(I.int .i64 known).ref.cn=true:=rfl;have gX:(I.cu (ks.map enc) (vs.map enc)).ref.cn=true:=qu (by simp only[I.bw];exact hcl);have hcc:[(I.int .i64 known).ref,(I.cu (ks.map enc) (vs.map enc)).ref]=caps:=hcap.symm;have hca:(caps.all fun y=>y.cn)=true:=by rw[hcap];simp only[List.all_cons,List.all_nil,gX,Bool.and_self];rfl
 have hfc:∀ aE A,bL aE A caps=some caps:=fun aE A=>ni aE A caps hcaps;have hse:=acd (known:=known) hp;have hcl2:I.b7 caps=true:=oB caps hcaps;have R:=y6 @s9 (y6 @eN ak)
 repeat' ((first |refine U.au (by decide +kernel) rfl fun K hK =>?_|(refine .aq [0,1,2,3,4,5,6,7,11] hK ?_;clear hK K)|(with_reducible refine .done (hK _ ?_);clear hK K)|refine U.of rfl ?_|(with_reducible refine aj.ar (fun h =>?_) (fun h =>?_) <;>try simp only[h])) <;>try simp only[av,R,simprocAttr])
 all_goals clear R
 by_cases hn:l=[]
 ·subst hn;have f106:=Gk caps hcaps;refine .bx false [(7,64)] [] [enc ([]:List ah)] (ox []) rfl (rF [] (by simp)) eF.nil ⟨.inl ⟨(gP _ _).symm,bt _ _,eW _⟩,trivial⟩ ?_ ?_
  ·rintro x os' (⟨_,h | h,rfl⟩ | ⟨h,_⟩)
   ·subst h;exact dj.nil (fun _=>rfl) (fun h=>by cases h)
   ·subst h;exact dj.nil (fun _=>rfl) (fun h=>by cases h)
   ·exact absurd rfl h
  rintro x os' (⟨_,h | h,rfl⟩ | ⟨h,_⟩)
  ·subst h
   try simp only[I.aR,cD,zy4,hcc,hca,hfc,aU,simprocAttr]
   have R:=y6 @hfc (y6 @s9 (y6 @eN ak))
   repeat' ((first |refine U.au (by decide +kernel) rfl fun K hK =>?_|refine .lead _ (f106) ?_|(refine .aq [0,1,2,3,4,5,6,7,11] hK ?_;clear hK K)|(with_reducible refine .done (hK _ ?_);clear hK K)|refine U.of rfl ?_|(with_reducible refine aj.ar (fun h =>?_) (fun h =>?_) <;>try simp only[h])) <;>try simp only[av,R,simprocAttr])
   all_goals clear R
   all_goals rfl
  ·subst h
   try simp only[I.aR,cD,zy4,hcc,hca,hfc,aU,simprocAttr]
   have R:=y6 @hfc (y6 @s9 (y6 @eN ak))
   repeat' ((first |refine U.au (by decide +kernel) rfl fun K hK =>?_|refine .lead _ (f106) ?_|(refine .aq [0,1,2,3,4,5,6,7,11] hK ?_;clear hK K)|(with_reducible refine .done (hK _ ?_);clear hK K)|refine U.of rfl ?_|(with_reducible refine aj.ar (fun h =>?_) (fun h =>?_) <;>try simp only[h])) <;>try simp only[av,R,simprocAttr])
   all_goals clear R
   all_goals rfl
  ·exact absurd rfl h
 ·refine .bx false [(7,64)] [] [enc l] (ox l) rfl (rF l (by omega)) eF.nil ⟨.inl ⟨(gP _ _).symm,bt _ _,eW _⟩,trivial⟩ ?_ ?_
  ·rintro x os' (⟨h,_⟩ | ⟨_,k,rfl,rfl⟩)
   ·exact absurd h hn
   ·exact dj.th (fun p=>fZ p _) (fun h=>by cases h) rfl (fun h=>by cases h) rfl (by decide)
  rintro x os' (⟨h,_⟩ | ⟨_,k,rfl,rfl⟩)
  ·exact absurd h hn
  try simp only[fk,kg,jM,zy2,zy4,hcc,hca,hfc,aU,simprocAttr]
  refine .bx false [(1000000,64)] (jP 1000000 (l++List.replicate k cH)) [.view 1000000 [] 8 0 l.length,.func 107 caps] (AH l (fun x=>mM known (my known l x) x) (l++List.replicate k cH).length) rfl (Gj l _ (by omega) (by have:=List.length_pos_iff.2 hn;rw[zz1];omega) caps hcaps _ hf) ⟨?_,?_⟩ ⟨.inl ⟨?_,?_,rfl⟩,.inl ⟨?_,?_,?_⟩,trivial⟩ ?_ ?_
  ·intro n x h;simp only[jP,aG] at h;split at h
   ·rename_i hn';subst hn';simp only[v6] at h;subst h;exact ⟨by simp only[kg,jM,aU,simprocAttr],sZ _ _,rfl⟩
   ·cases h
  ·intro a b ha hb _;rw[Go.Abs.fL.1 ha,Go.Abs.fL.1 hb]
  ·try simp only[kg,simprocAttr]
  ·exact Go.Abs.fL.2 rfl
  ·simp only[hcap,I.aR,I.cP,gP,jM]
  ·simp only[I.only];exact kM _ caps hcl2
  ·exact qu (by simp only[I.bw];exact hcl2)
  ·rintro x os' ⟨us,rfl,rfl,hu1,hu2⟩;exact dj.C4 (fun p=>sZ p _) (fun h=>by cases h) rfl (fun h=>by cases h)
  rintro x os' ⟨us,rfl,rfl,hu1,hu2⟩;rw[hse] at hu1 ⊢;have hfv:jD 8 0 (kW known l).length (some (us.map enc))=some (enc (kW known l)):=by
   rw[nh (α:=ah) (sz:=8) rfl,hu1]
  generalize kW known l=Z at *
  try simp only[jP,kg,jM,zy2,zy4,aU,simprocAttr]
  refine .done (hK _ ?_);clear hK K;have R:=y6 @hfv (y6 @eN ak)
  repeat' ((first |refine U.au (by decide +kernel) rfl fun K hK =>?_|(refine .aq [0,1,2,3,4,5,6,7,11] hK ?_;clear hK K)|(with_reducible refine .done (hK _ ?_);clear hK K)|refine U.of rfl ?_|(with_reducible refine aj.ar (fun h =>?_) (fun h =>?_) <;>try simp only[h])) <;>try simp only[av,R,simprocAttr])
  all_goals clear R
  all_goals rfl
theorem ab1:(∀ A n b rest (q r:dF),dT A (some 1) n [] b (enc q) rest (some (enc r))=aA rest (A.aN n (.box (enc q))))∧(∀ q:dF,bT (some 1) (enc q)=true) :=
 ⟨fun A n b rest q r=>by rw[fg (s:=some 1) (v:=enc q) (old:=enc r) (eW _) rfl rfl,ff],fun _=>rfl⟩
structure mS where
 r:ah
 a:Item
 k:Int
instance:Enc mS where
 enc x:=.agg [enc x.r,enc x.a,.int .i64 x.k]
 sz:=11
 aL:=.ej [.ej [.ej [.one,.one],.one,.one,.one,.ej [.one,.one],.one],.ej [.one,.one],.one]
 gn:=true
 done e:=by simp only[I.done,I.fV,Enc.done,Bool.and_self]
 size e:=by simp only[I.size,I.sizes,lx];rfl
 iD e:=by simp only[I.aL,I.cI,eh];rfl
 agg _:=rfl
theorem Hj(l:List ah)(r:ah):(eM l r).1.length≤61:=by
 rw[eM];cases q:fj l
 ·simp
 have hb:=(jW q).len;rw[if_neg (by decide)]
 (repeat' split) <;>first
  |(simp;done)
  |(simp only;omega)
  |(simp only[←Dr,aaY];omega)
theorem aca(known:Int)(l:List ah):(l9 known l).1.length≤61:=by
 rw[l9];cases q:fj l
 ·simp
 have hb:=(jW q).len;have:=acb known l;rw[if_neg (by decide)];split
 ·simp
 ·simp only;omega
theorem aam:(∀ (r:ah) (a:Item) (k:Int) p,fE [enc r,enc a,.int .i64 k] 1 8 p=some p)∧(∀ (r:ah) (a:Item) (k:Int) p,fE [enc r,enc a,.int .i64 k] 2 10 p=some p):=⟨fun _ _ _ _=>rfl,fun _ _ _ _=>rfl⟩
theorem NV(x:ew 6 Int):bV (.mj 6 (.i .i64)) (enc x) (enc x)=some true:=by
 obtain ⟨l,h⟩:=x
 match l,h with
 | [a,b,c,d,e,f],_ =>
  show bV (.mj 6 (.i .i64)) (.agg [.int .i64 a,.int .i64 b,.int .i64 c,.int .i64 d,.int .i64 e,.int .i64 f]) (.agg [.int .i64 a,.int .i64 b,.int .i64 c,.int .i64 d,.int .i64 e,.int .i64 f])=_
  simp[bV,ib]
theorem HN:(∀ x:mS,(enc x).c7=some [enc x.r,enc x.a,.int .i64 x.k])∧(∀ x:mS,(enc x).at [0]=some (enc x.r))∧(∀ x:mS,(enc x).at [1]=some (enc x.a))∧(∀ x:mS,(enc x).at [2]=some (.int .i64 x.k)):=⟨fun _=>rfl,fun _=>rfl,fun _=>rfl,fun _=>rfl⟩
theorem Gm(l:List ah)(hl:l.length≤4000000000000)(x:mS):aK Tryz.prog 11 [enc (⟨l⟩:dF),enc x] (enc true):=by
 obtain ⟨r,a,k⟩:=x;refine aK.bJ Tryz.func11 IB J4 Lw (t7 rfl) (fun hwf W0 bC E1 =>?_);simp only[yW,DA,bA,zz3];clear hwf;have f44:=x9 l r hl;have f46:=GP l r hl;rw[←Hl] at f46;have f47:=GQ l hl;have f48:=GR l hl;have f49:=GS l hl a;have f50:=GU l hl a;have f51:=GV l hl k;have f52:=GW l hl k;have f45:=GO l hl;have f53:=pE l hl;have hbq:∀ a:Int,(a==a)=true:=fun a=>by simp
 have hbb:∀ b:Bool,bV .b (.bool b) (.bool b)=some true:=fun b=>by cases b <;>rfl
 have hm:=Hj l r;have hn:=aca k l;have e0:I.agg [.int .i64 0,.int .i64 0,.int .i64 0,.int .i64 0,.int .i64 0,.int .i64 0]=enc (c6 []):=rfl;generalize eM l r=p at *;generalize l9 k l=q at *;generalize nk l=h at *;generalize nU l a=z at *;generalize ij l=c at *;have s1:=xX p.1 p.1 (by omega);have s2:=xX q.1 q.1 (by omega);rw[decide_eq_true rfl] at s1 s2;have R:=y6 @hbq (y6 @hbb (y6 @aam (y6 @NV (y6 @HN (y6 @e0 (y6 @fR (y6 @gf (y6 @ab1 (y6 @xv ak)))))))))
 repeat' ((first |(with_reducible refine .guard (fun hb =>?_) (fun hb =>?_) <;>try simp only[hb])|refine U.au (by decide +kernel) rfl fun K hK =>?_|refine .flat _ (Gz) rfl ?_|refine .lead _ (f44) ?_|refine .lead _ (f46) ?_|refine .lead _ (f47) ?_|refine .lead _ (f48) ?_|refine .flat _ (f49) rfl ?_|refine .flat _ (f50) rfl ?_|refine .lead _ (f51) ?_|refine .lead _ (f52) ?_|refine .flat _ (s1) rfl ?_|refine .flat _ (s2) rfl ?_|refine .flat _ (f45) rfl ?_|refine .flat _ (f53) rfl ?_|(refine .aq [0,1,2,3,4,5,6,7,8,9,10,11,12,13,14,15,16,17,18,19,20,21,22,23] hK ?_;clear hK K)|(with_reducible refine .done (hK _ ?_);clear hK K)|refine U.of rfl ?_|(with_reducible refine aj.ar (fun h =>?_) (fun h =>?_) <;>try simp only[h])) <;>try simp only[av,R,eq_self,simprocAttr])
 all_goals clear R
 all_goals rfl
end Go.Proofs.YtoffnnjbplgnaaaGreatDoor
namespace Go.Proofs.YtoffnnjbplgnaaaGreatDoor
open Go Go.Abs Go.ChangeShapes Go.WideShapes Go.RowKit
open Go.Abs.Enc (enc)
theorem HR:iI Tryz.prog 80 mS fun a=>True:=⟨by kernel_rfl,by decide,fun h hw=>by
 obtain ⟨vs,hv,hr⟩:=tz [(50,0),(48,8),(3,10)]
  [(8,fun v=>∃ a:ah,a.text.length≤140737488351232∧v=enc a),(2,fun v=>∃ a:Item,True∧v=enc a),(1,fun v=>∃ a:Int,True∧v=enc a)]
  (by kernel_rfl) (by simp only[mJ];exact ⟨trivial,yC.bl,trivial,uR.bl,trivial,oj.bl,trivial⟩) (by kernel_rfl) h hw
 obtain ⟨v0,vs0,e0,h0,hv0⟩:=jz hv;obtain ⟨a0,p0,f0⟩:∃ a:ah,a.text.length≤140737488351232∧v0=enc a:=h0;obtain ⟨v1,vs1,e1,h1,hv1⟩:=jz hv0;obtain ⟨a1,p1,f1⟩:∃ a:Item,True∧v1=enc a:=h1;obtain ⟨v2,vs2,e2,h2,hv2⟩:=jz hv1;obtain ⟨a2,p2,f2⟩:∃ a:Int,True∧v2=enc a:=h2;have e3:=rQ hv2;rw[e0,e1,e2,e3,f0,f1,f2] at hr;refine ⟨⟨a0,a1,a2⟩,trivial,?_⟩;exact hr⟩
end Go.Proofs.YtoffnnjbplgnaaaGreatDoor
